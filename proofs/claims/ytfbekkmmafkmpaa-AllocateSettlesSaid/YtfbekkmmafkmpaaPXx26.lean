-- Written by wip/xprint.py, a program of this claim's own, over the kit's print program. Lean checks it.
import Derived.Test.YtfbekkmmafkmpaaPXx0
import Derived.Test.YtfbekkmmafkmpaaPXx1
import Derived.Test.YtfbekkmmafkmpaaPXx14
namespace Go.Proofs.Ytfbekkmmafkmpaa.PX
open Go.RowKit Go.Proofs.YtfbekkmmafkmpaaW.PrintWords Go.Proofs.YtfbekkmmafkmpaaW.PrintLast Go.Proofs.YtfbekkmmafkmpaaW.PrintMore
attribute [local go_sem] max2_int min2_int max_two min_two max_three min_three max_four min_four   -- for this text's walks alone
set_option linter.unusedVariables false
set_option linter.unusedSimpArgs false

attribute [local go_sem high] eqA37
/-! ### hopmeshref29_Join: function 26 -/
mutual
def hopmeshref29_Join.l0 : Nat → List (S39) → List (S37) → List (S39) → Int → Option ((List (S39)) × Int)
  | 0, _, _, _, _ => none
  | k + 1, x0, x1, x6, x7 => if x7 < (x1.length : Int) then (if 0 ≤ x7 then (if x6.length < 1954687338268 then (hopmeshref29_Join.l0 k x0 x1 (x6 ++ [(⟨(⟨(rd_T37 x1 x7).f0, (rd_T37 x1 x7).f1, (rd_T37 x1 x7).f2, (rd_T37 x1 x7).f3, (rd_T37 x1 x7).f4, (rd_T37 x1 x7).f5⟩ : S37), 0, 0, 0⟩ : S39)]) (wrap64 (x7 + 1))) else (none)) else (none)) else ((hopmeshref29_Check.f x6).bind fun t264 => (if t264 = 0 then (hopmeshref29_Join.l1 k x0 x6 0) else (some (([] : List (S39)), t264))))
def hopmeshref29_Join.l1 : Nat → List (S39) → List (S39) → Int → Option ((List (S39)) × Int)
  | 0, _, _, _ => none
  | k + 1, x0, x6, x9 => if x9 < (x6.length : Int) then (hopmeshref29_Join.l2 k x0 x6 x9 0) else (some (x6, 0))
def hopmeshref29_Join.l2 : Nat → List (S39) → List (S39) → Int → Int → Option ((List (S39)) × Int)
  | 0, _, _, _, _ => none
  | k + 1, x0, x6, x9, x10 => if x10 < (x0.length : Int) then (if 0 ≤ x10 then (if 0 ≤ x9 then (if x9 < (x6.length : Int) then (if (((rd_T39 x0 x10).f0.f0) == ((rd_T39 x6 x9).f0.f0) && (((rd_T39 x0 x10).f0.f1) == ((rd_T39 x6 x9).f0.f1) && (((rd_T39 x0 x10).f0.f2) == ((rd_T39 x6 x9).f0.f2) && (((rd_T39 x0 x10).f0.f3) == ((rd_T39 x6 x9).f0.f3) && (((rd_T39 x0 x10).f0.f4) == ((rd_T39 x6 x9).f0.f4) && (((rd_T39 x0 x10).f0.f5) == ((rd_T39 x6 x9).f0.f5))))))) = true then (hopmeshref29_Join.l2 k x0 (x6.set (x9 : Int).toNat (⟨(⟨(rd_T39 x0 x10).f0.f0, (rd_T39 x0 x10).f0.f1, (rd_T39 x0 x10).f0.f2, (rd_T39 x0 x10).f0.f3, (rd_T39 x0 x10).f0.f4, (rd_T39 x0 x10).f0.f5⟩ : S37), (rd_T39 x0 x10).f1, (rd_T39 x0 x10).f2, (rd_T39 x0 x10).f3⟩ : S39)) x9 (wrap64 (x10 + 1))) else (hopmeshref29_Join.l2 k x0 x6 x9 (wrap64 (x10 + 1)))) else (none)) else (none)) else (none)) else (hopmeshref29_Join.l1 k x0 x6 (wrap64 (x9 + 1)))
end
def hopmeshref29_Join.f (k : Nat) (l0 : List (S39)) (l1 : List (S37)) : Option ((List (S39)) × Int) := (hopmeshref29_Check.f l0).bind fun t259 => (if t259 = 0 then (hopmeshref29_Join.l0 k l0 l1 ([] : List (S39)) 0) else (some (([] : List (S39)), 1)))
theorem hopmeshref29_Join.mono_l : ∀ k, (∀ y0 y1 y2 y3, LeO (hopmeshref29_Join.l0 k y0 y1 y2 y3) (hopmeshref29_Join.l0 (k + 1) y0 y1 y2 y3)) ∧ (∀ y0 y1 y2, LeO (hopmeshref29_Join.l1 k y0 y1 y2) (hopmeshref29_Join.l1 (k + 1) y0 y1 y2)) ∧ (∀ y0 y1 y2 y3, LeO (hopmeshref29_Join.l2 k y0 y1 y2 y3) (hopmeshref29_Join.l2 (k + 1) y0 y1 y2 y3))
  | 0 => ⟨fun _ _ _ _ r h => by simp [hopmeshref29_Join.l0] at h, fun _ _ _ r h => by simp [hopmeshref29_Join.l1] at h, fun _ _ _ _ r h => by simp [hopmeshref29_Join.l2] at h⟩
  | k + 1 => by
    obtain ⟨ih0, ih1, ih2⟩ := hopmeshref29_Join.mono_l k
    refine ⟨?_, ?_, ?_⟩
    · intro y0 y1 y2 y3
      unfold hopmeshref29_Join.l0
      repeat' first
      | (with_reducible exact ih0 _ _ _ _)
      | (with_reducible exact ih1 _ _ _)
      | (with_reducible exact ih2 _ _ _ _)
      | (with_reducible exact LeO.refl _)
      | (with_reducible exact LeO.none _)
      | (with_reducible refine LeO.ite ?_ ?_)
      | (with_reducible refine LeO.bind ?_ (fun _ => ?_))
      | exact ih0 _ _ _ _
      | exact ih1 _ _ _
      | exact ih2 _ _ _ _
      | exact LeO.none _
      | refine LeO.ite ?_ ?_
      | refine LeO.bind ?_ (fun _ => ?_)
    · intro y0 y1 y2
      unfold hopmeshref29_Join.l1
      repeat' first
      | (with_reducible exact ih0 _ _ _ _)
      | (with_reducible exact ih1 _ _ _)
      | (with_reducible exact ih2 _ _ _ _)
      | (with_reducible exact LeO.refl _)
      | (with_reducible exact LeO.none _)
      | (with_reducible refine LeO.ite ?_ ?_)
      | (with_reducible refine LeO.bind ?_ (fun _ => ?_))
      | exact ih0 _ _ _ _
      | exact ih1 _ _ _
      | exact ih2 _ _ _ _
      | exact LeO.none _
      | refine LeO.ite ?_ ?_
      | refine LeO.bind ?_ (fun _ => ?_)
    · intro y0 y1 y2 y3
      unfold hopmeshref29_Join.l2
      repeat' first
      | (with_reducible exact ih0 _ _ _ _)
      | (with_reducible exact ih1 _ _ _)
      | (with_reducible exact ih2 _ _ _ _)
      | (with_reducible exact LeO.refl _)
      | (with_reducible exact LeO.none _)
      | (with_reducible refine LeO.ite ?_ ?_)
      | (with_reducible refine LeO.bind ?_ (fun _ => ?_))
      | exact ih0 _ _ _ _
      | exact ih1 _ _ _
      | exact ih2 _ _ _ _
      | exact LeO.none _
      | refine LeO.ite ?_ ?_
      | refine LeO.bind ?_ (fun _ => ?_)
theorem hopmeshref29_Join.mono : ∀ a0 a1 k, LeO (hopmeshref29_Join.f k a0 a1) (hopmeshref29_Join.f (k + 1) a0 a1) := by
  intro a0 a1 k
  obtain ⟨ih0, ih1, ih2⟩ := hopmeshref29_Join.mono_l k
  unfold hopmeshref29_Join.f
  repeat' first
      | (with_reducible exact ih0 _ _ _ _)
      | (with_reducible exact ih1 _ _ _)
      | (with_reducible exact ih2 _ _ _ _)
      | (with_reducible exact LeO.refl _)
      | (with_reducible exact LeO.none _)
      | (with_reducible refine LeO.ite ?_ ?_)
      | (with_reducible refine LeO.bind ?_ (fun _ => ?_))
      | exact ih0 _ _ _ _
      | exact ih1 _ _ _
      | exact ih2 _ _ _ _
      | exact LeO.none _
      | refine LeO.ite ?_ ?_
      | refine LeO.bind ?_ (fun _ => ?_)
set_option maxHeartbeats 8000000 in
set_option maxRecDepth 100000 in
theorem hopmeshref29_Join.calls (k : Nat) (A0 : Option Addr) (c0 : Nat) (l0 : List (S39)) (A1 : Option Addr) (c1 : Nat) (l1 : List (S37)) (r1 : List (S39)) (r2 : Int) (w : World) (hr0 : Kd.C k39 w A0 l0.length l0) (hc0 : l0.length ≤ c0) (hr1 : Kd.C k37 w A1 l1.length l1) (hc1 : l1.length ≤ c1) (h : hopmeshref29_Join.f k l0 l1 = some (r1, r2)) :
    Calls Try.prog 26 #[.slice A0 l0.length c0, .slice A1 l1.length c1] w fun e w' => ∃ v0_ : Value, e = .returned (.tuple #[v0_, .int .i64 r2]) ∧ Kd.R k39 39 w' w.heap.size (fun _ => True) v0_ r1 ∧ Below w.heap.size w w' := by
  have hu37 := Try.underlying37
  have hu39 := Try.underlying39
  have HR0 := Aside0.mk hr0
  have HC0 := Aside0.mk hc0
  clear hr0 hc0
  have HR1 := Aside0.mk hr1
  have HC1 := Aside0.mk hc1
  clear hr1 hc1
  have HB := Aside0.mk (Below.refl w.heap.size w)
  have H : ((hopmeshref29_Check.f l0).bind fun t259 => (if t259 = 0 then (hopmeshref29_Join.l0 k l0 l1 ([] : List (S39)) 0) else (some (([] : List (S39)), 1)))) = some (r1, r2) := h
  clear h
  replace H := Option.bind_eq_some_iff.mp H
  obtain ⟨t259, A30, H⟩ := H
  replace H : (if t259 = 0 then (hopmeshref29_Join.l0 k l0 l1 ([] : List (S39)) 0) else (some (([] : List (S39)), 1))) = some (r1, r2) := H
  have A3 := Aside0.mk A30
  clear A30
  by_cases c4 : t259 = 0
  · rw [if_pos c4] at H
    have c4b0 : (t259 == 0) = true := beq_iff_eq.mpr c4
    have c4b1 : (t259 != 0) = false := bne_eq_false_iff_eq.mpr c4
    clear c4
    have H' := Aside0.mk H
    clear H
    go_enter Try.func26, Try.ntmps26
    go_wp2_with (first | (go_at_call 32; (with_reducible refine (hopmeshref29_Check.calls _ _ l0 t259 _ ?side1 ?side2 A3.out).mono ?_); (case side1 => repeat (first | exact HR0.out | (with_reducible refine Kd.C_alloc ?_ _) | (with_reducible refine Kd.C_drewN ?_ _) | (with_reducible refine Kd.C_drew ?_))); (case side2 => exact HC0.out); rintro e w5 ⟨rfl, hb⟩; have n0_ := Aside0.mk (below_step (by repeat (first | (with_reducible first | exact HB.out | apply below_alloc | apply pw_below_drewN | apply below_drew1) | exact HB.out)) hb); clear HB; have HB := n0_; clear n0_; (try clear hb); (try clear hb2); (try clear hk); (try clear hi)))
    repeat (go_quiet (first | (go_at_call 32; (with_reducible refine (hopmeshref29_Check.calls _ _ l0 t259 _ ?side1 ?side2 A3.out).mono ?_); (case side1 => repeat (first | exact HR0.out | (with_reducible refine Kd.C_alloc ?_ _) | (with_reducible refine Kd.C_drewN ?_ _) | (with_reducible refine Kd.C_drew ?_))); (case side2 => exact HC0.out); rintro e w5 ⟨rfl, hb⟩; have n0_ := Aside0.mk (below_step (by repeat (first | (with_reducible first | exact HB.out | apply below_alloc | apply pw_below_drewN | apply below_drew1) | exact HB.out)) hb); clear HB; have HB := n0_; clear n0_; (try clear hb); (try clear hb2); (try clear hk); (try clear hi))); try go_wp2_with (first | (go_at_call 32; (with_reducible refine (hopmeshref29_Check.calls _ _ l0 t259 _ ?side1 ?side2 A3.out).mono ?_); (case side1 => repeat (first | exact HR0.out | (with_reducible refine Kd.C_alloc ?_ _) | (with_reducible refine Kd.C_drewN ?_ _) | (with_reducible refine Kd.C_drew ?_))); (case side2 => exact HC0.out); rintro e w5 ⟨rfl, hb⟩; have n0_ := Aside0.mk (below_step (by repeat (first | (with_reducible first | exact HB.out | apply below_alloc | apply pw_below_drewN | apply below_drew1) | exact HB.out)) hb); clear HB; have HB := n0_; clear n0_; (try clear hb); (try clear hb2); (try clear hk); (try clear hi))))
    go_loopg [6, 7] k (fun kq v6 v7 w' => ∃ (x6_1 : List (S39)) (x7_1 : Int), v7 = .int .i64 x7_1 ∧ Aside0 (hopmeshref29_Join.l0 kq l0 l1 x6_1 x7_1 = some (r1, r2)) ∧ Aside0 (kq ≤ k) ∧ Aside0 (Kd.R k39 39 w' w.heap.size (fun _ => True) v6 x6_1) ∧ Aside0 (Below w.heap.size w w'))
    case atStart => exact ⟨(([] : List (S39))), (0), (by first | rfl | (simp; done) | (simp [*]; done)), H', ⟨Nat.le_refl _⟩, ⟨by first | exact Kd.R_nil _ _ _ _ _ | exact Kd.N_nil _ _ _ _ _ | exact Kd.V_nil _ _ _ _ _ | exact Kd.Q_nil _ _ _ _ _ | exact Kd.S_nil _ _ _ _ _⟩, ⟨by repeat (first | (with_reducible first | exact HB.out | apply below_alloc | apply pw_below_drewN | apply below_drew1) | exact HB.out)⟩⟩
    case round =>
      clear H'
      try clear c1
      try clear c2
      try clear p2
      try clear c4
      try clear c4b0
      try clear c4b1
      obtain ⟨x6_1, x7_1, rfl, HA, HK1, HO_6, HB⟩ := hrel
      cases gk with
      | zero => exact absurd HA.out (by simp [hopmeshref29_Join.l0])
      | succ k1 =>
        have H := HA.out
        clear HA
        simp only [hopmeshref29_Join.l0] at H
        by_cases c6 : x7_1 < (l1.length : Int)
        · rw [if_pos c6] at H
          have c6b0 : decide (x7_1 < (l1.length : Int)) = true := decide_eq_true c6
          clear c6
          by_cases c7 : 0 ≤ x7_1
          · rw [if_pos c7] at H
            have c7b0 : decide (0 ≤ x7_1) = true := decide_eq_true c7
            clear c7
            by_cases c8 : x6_1.length < 1954687338268
            · rw [if_pos c8] at H
              have LMc8 := Aside0.mk c8
              clear c8
              obtain ⟨y261, hy261⟩ : ∃ y_ : List (S39), y_ = (x6_1 ++ [(⟨(⟨(rd_T37 l1 x7_1).f0, (rd_T37 l1 x7_1).f1, (rd_T37 l1 x7_1).f2, (rd_T37 l1 x7_1).f3, (rd_T37 l1 x7_1).f4, (rd_T37 l1 x7_1).f5⟩ : S37), 0, 0, 0⟩ : S39)]) := ⟨_, rfl⟩
              replace H : (hopmeshref29_Join.l0 k1 l0 l1 y261 (wrap64 (x7_1 + 1))) = some (r1, r2) := by first | (rw [hy261]; with_reducible exact H) | (have H2_ := (Option.bind_some _ _).symm.trans H; rw [hy261]; with_reducible exact H2_) | (have H2_ := (Option.bind_some _ _).symm.trans H; with_reducible exact H2_) | with_reducible exact H | (rw [hy261]; exact H) | exact H
              have Ny261 := Aside0.mk hy261
              clear hy261
              have H' := Aside0.mk H
              clear H
              have p260 : 0 ≤ (x7_1 : Int) := of_decide_eq_true (by first | (with_reducible assumption) | assumption)
              have q260 : x7_1 < (l1.length : Int) := of_decide_eq_true (by first | (with_reducible assumption) | assumption)
              obtain ⟨ad260, e260, hx260_0, hx260_1, hx260_2, hx260_3, hx260_4, hx260_5⟩ := at_T37 HR1.out x7_1 p260 q260
              cases e260
              replace hx260_0 := (HB.out.cell (World.block_lt_of_cell? w _ hx260_0)).trans hx260_0
              replace hx260_1 := (HB.out.cell (World.block_lt_of_cell? w _ hx260_1)).trans hx260_1
              replace hx260_2 := (HB.out.cell (World.block_lt_of_cell? w _ hx260_2)).trans hx260_2
              replace hx260_3 := (HB.out.cell (World.block_lt_of_cell? w _ hx260_3)).trans hx260_3
              replace hx260_4 := (HB.out.cell (World.block_lt_of_cell? w _ hx260_4)).trans hx260_4
              replace hx260_5 := (HB.out.cell (World.block_lt_of_cell? w _ hx260_5)).trans hx260_5
              replace p260 := eq_true p260
              replace q260 := eq_true q260
              go_wp2_with (first | ((with_reducible refine gate_builtin (b := .append) (xs := #[.tmp 20, .tmp 26]) rfl ?_); at_builtin; refine Kd.R_append k39 (w0 := w) w.heap.size rfl (.tmp 20) (.tmp 26) 22 39 (.agg #[(.int .i64 0), (.int .i64 0), (.int .i64 0), (.bool false), (.int .i64 0), (.int .i64 0), (.int .i64 0), (.int .i64 0), (.int .i64 0)]) 72 rfl Try.underlying22 info39 rfl (by decide) (by omega) u6 x6_1 (⟨(⟨(rd_T37 l1 x7_1).f0, (rd_T37 l1 x7_1).f1, (rd_T37 l1 x7_1).f2, (rd_T37 l1 x7_1).f3, (rd_T37 l1 x7_1).f4, (rd_T37 l1 x7_1).f5⟩ : S37), 0, 0, 0⟩ : S39) [.int .i64 ((rd_T37 l1 x7_1).f0), .int .i64 ((rd_T37 l1 x7_1).f1), .int .i64 ((rd_T37 l1 x7_1).f2), .bool ((rd_T37 l1 x7_1).f3), .int .i64 ((rd_T37 l1 x7_1).f4), .int .i64 ((rd_T37 l1 x7_1).f5), .int .i64 0, .int .i64 0, .int .i64 0] (fun _ => True) (fun _ => False) rfl rfl ?aP (fun _ hk => hk.elim) ?aF ?aO ?aB ?aS ?aL ?_; (case aP => exact k39_mkM _ _ _ (⟨(⟨(rd_T37 l1 x7_1).f0, (rd_T37 l1 x7_1).f1, (rd_T37 l1 x7_1).f2, (rd_T37 l1 x7_1).f3, (rd_T37 l1 x7_1).f4, (rd_T37 l1 x7_1).f5⟩ : S37), 0, 0, 0⟩ : S39)); (case aB => exact (by repeat (first | (with_reducible first | exact HB.out | apply below_alloc | apply pw_below_drewN | apply below_drew1) | exact HB.out))); (case aF => exact (fun _ _ => trivial)); (case aO => exact (by (with_reducible repeat (first | apply Kd.R_alloc | apply Kd.R_drewN | apply Kd.R_drew)); exact HO_6.out)); (case aS => exact (below_size (by repeat (first | (with_reducible first | exact HB.out | apply below_alloc | apply pw_below_drewN | apply below_drew1) | exact HB.out)))); (case aL => have := LMc8.out; omega); intro v262 w9 ho hb hg hat; rw [← Ny261.out] at ho; have n0_ := Aside0.mk (hb); have n1_ := Aside0.mk (ho); clear HB; clear HO_6; have HB := n0_; have HO263 := n1_; clear n0_ n1_; clear ho hb hg hat))
              repeat (go_quiet (first | ((with_reducible refine gate_builtin (b := .append) (xs := #[.tmp 20, .tmp 26]) rfl ?_); at_builtin; refine Kd.R_append k39 (w0 := w) w.heap.size rfl (.tmp 20) (.tmp 26) 22 39 (.agg #[(.int .i64 0), (.int .i64 0), (.int .i64 0), (.bool false), (.int .i64 0), (.int .i64 0), (.int .i64 0), (.int .i64 0), (.int .i64 0)]) 72 rfl Try.underlying22 info39 rfl (by decide) (by omega) u6 x6_1 (⟨(⟨(rd_T37 l1 x7_1).f0, (rd_T37 l1 x7_1).f1, (rd_T37 l1 x7_1).f2, (rd_T37 l1 x7_1).f3, (rd_T37 l1 x7_1).f4, (rd_T37 l1 x7_1).f5⟩ : S37), 0, 0, 0⟩ : S39) [.int .i64 ((rd_T37 l1 x7_1).f0), .int .i64 ((rd_T37 l1 x7_1).f1), .int .i64 ((rd_T37 l1 x7_1).f2), .bool ((rd_T37 l1 x7_1).f3), .int .i64 ((rd_T37 l1 x7_1).f4), .int .i64 ((rd_T37 l1 x7_1).f5), .int .i64 0, .int .i64 0, .int .i64 0] (fun _ => True) (fun _ => False) rfl rfl ?aP (fun _ hk => hk.elim) ?aF ?aO ?aB ?aS ?aL ?_; (case aP => exact k39_mkM _ _ _ (⟨(⟨(rd_T37 l1 x7_1).f0, (rd_T37 l1 x7_1).f1, (rd_T37 l1 x7_1).f2, (rd_T37 l1 x7_1).f3, (rd_T37 l1 x7_1).f4, (rd_T37 l1 x7_1).f5⟩ : S37), 0, 0, 0⟩ : S39)); (case aB => exact (by repeat (first | (with_reducible first | exact HB.out | apply below_alloc | apply pw_below_drewN | apply below_drew1) | exact HB.out))); (case aF => exact (fun _ _ => trivial)); (case aO => exact (by (with_reducible repeat (first | apply Kd.R_alloc | apply Kd.R_drewN | apply Kd.R_drew)); exact HO_6.out)); (case aS => exact (below_size (by repeat (first | (with_reducible first | exact HB.out | apply below_alloc | apply pw_below_drewN | apply below_drew1) | exact HB.out)))); (case aL => have := LMc8.out; omega); intro v262 w9 ho hb hg hat; rw [← Ny261.out] at ho; have n0_ := Aside0.mk (hb); have n1_ := Aside0.mk (ho); clear HB; clear HO_6; have HB := n0_; have HO263 := n1_; clear n0_ n1_; clear ho hb hg hat)); try go_wp2_with (first | ((with_reducible refine gate_builtin (b := .append) (xs := #[.tmp 20, .tmp 26]) rfl ?_); at_builtin; refine Kd.R_append k39 (w0 := w) w.heap.size rfl (.tmp 20) (.tmp 26) 22 39 (.agg #[(.int .i64 0), (.int .i64 0), (.int .i64 0), (.bool false), (.int .i64 0), (.int .i64 0), (.int .i64 0), (.int .i64 0), (.int .i64 0)]) 72 rfl Try.underlying22 info39 rfl (by decide) (by omega) u6 x6_1 (⟨(⟨(rd_T37 l1 x7_1).f0, (rd_T37 l1 x7_1).f1, (rd_T37 l1 x7_1).f2, (rd_T37 l1 x7_1).f3, (rd_T37 l1 x7_1).f4, (rd_T37 l1 x7_1).f5⟩ : S37), 0, 0, 0⟩ : S39) [.int .i64 ((rd_T37 l1 x7_1).f0), .int .i64 ((rd_T37 l1 x7_1).f1), .int .i64 ((rd_T37 l1 x7_1).f2), .bool ((rd_T37 l1 x7_1).f3), .int .i64 ((rd_T37 l1 x7_1).f4), .int .i64 ((rd_T37 l1 x7_1).f5), .int .i64 0, .int .i64 0, .int .i64 0] (fun _ => True) (fun _ => False) rfl rfl ?aP (fun _ hk => hk.elim) ?aF ?aO ?aB ?aS ?aL ?_; (case aP => exact k39_mkM _ _ _ (⟨(⟨(rd_T37 l1 x7_1).f0, (rd_T37 l1 x7_1).f1, (rd_T37 l1 x7_1).f2, (rd_T37 l1 x7_1).f3, (rd_T37 l1 x7_1).f4, (rd_T37 l1 x7_1).f5⟩ : S37), 0, 0, 0⟩ : S39)); (case aB => exact (by repeat (first | (with_reducible first | exact HB.out | apply below_alloc | apply pw_below_drewN | apply below_drew1) | exact HB.out))); (case aF => exact (fun _ _ => trivial)); (case aO => exact (by (with_reducible repeat (first | apply Kd.R_alloc | apply Kd.R_drewN | apply Kd.R_drew)); exact HO_6.out)); (case aS => exact (below_size (by repeat (first | (with_reducible first | exact HB.out | apply below_alloc | apply pw_below_drewN | apply below_drew1) | exact HB.out)))); (case aL => have := LMc8.out; omega); intro v262 w9 ho hb hg hat; rw [← Ny261.out] at ho; have n0_ := Aside0.mk (hb); have n1_ := Aside0.mk (ho); clear HB; clear HO_6; have HB := n0_; have HO263 := n1_; clear n0_ n1_; clear ho hb hg hat)))
              go_roundg k1
              case measure => have := HK1.out; omega
              case rel => exact ⟨(y261), (wrap64 (x7_1 + 1)), (by first | rfl | (simp; done) | (simp [*]; done)), H', ⟨by have := HK1.out; omega⟩, ⟨by (with_reducible repeat (first | apply Kd.R_alloc | apply Kd.R_drewN | apply Kd.R_drew)); exact HO263.out⟩, ⟨by repeat (first | (with_reducible first | exact HB.out | apply below_alloc | apply pw_below_drewN | apply below_drew1) | exact HB.out)⟩⟩
            · rw [if_neg c8] at H
              exact absurd H (by simp)
          · rw [if_neg c7] at H
            exact absurd H (by simp)
        · rw [if_neg c6] at H
          have c6b0 : decide (x7_1 < (l1.length : Int)) = false := decide_eq_false c6
          clear c6
          replace H := Option.bind_eq_some_iff.mp H
          obtain ⟨t264, A100, H⟩ := H
          replace H : (if t264 = 0 then (hopmeshref29_Join.l1 k1 l0 x6_1 0) else (some (([] : List (S39)), t264))) = some (r1, r2) := H
          have A10 := Aside0.mk A100
          clear A100
          by_cases c11 : t264 = 0
          · rw [if_pos c11] at H
            have c11b0 : (t264 == 0) = true := beq_iff_eq.mpr c11
            have c11b1 : (t264 != 0) = false := bne_eq_false_iff_eq.mpr c11
            clear c11
            have H' := Aside0.mk H
            clear H
            obtain ⟨Ao12, co12, eo12⟩ := Kd.R_slice HO_6.out
            subst eo12
            go_wp2_with (first | (go_at_call 32; (with_reducible refine (hopmeshref29_Check.calls _ _ x6_1 t264 _ ?side1 ?side2 A10.out).mono ?_); (case side1 => repeat (first | exact (Kd.R_reads' HO_6.out).2.2 | (with_reducible refine Kd.C_alloc ?_ _) | (with_reducible refine Kd.C_drewN ?_ _) | (with_reducible refine Kd.C_drew ?_))); (case side2 => exact (Kd.R_reads' HO_6.out).2.1); rintro e w13 ⟨rfl, hb⟩; have n0_ := Aside0.mk (Kd.R_below (by (with_reducible repeat (first | apply Kd.R_alloc | apply Kd.R_drewN | apply Kd.R_drew)); exact HO_6.out) hb); have n1_ := Aside0.mk (below_step (by repeat (first | (with_reducible first | exact HB.out | apply below_alloc | apply pw_below_drewN | apply below_drew1) | exact HB.out)) hb); clear HO_6; clear HB; have HO_6 := n0_; have HB := n1_; clear n0_ n1_; (try clear hb); (try clear hb2); (try clear hk); (try clear hi)))
            repeat (go_quiet (first | (go_at_call 32; (with_reducible refine (hopmeshref29_Check.calls _ _ x6_1 t264 _ ?side1 ?side2 A10.out).mono ?_); (case side1 => repeat (first | exact (Kd.R_reads' HO_6.out).2.2 | (with_reducible refine Kd.C_alloc ?_ _) | (with_reducible refine Kd.C_drewN ?_ _) | (with_reducible refine Kd.C_drew ?_))); (case side2 => exact (Kd.R_reads' HO_6.out).2.1); rintro e w13 ⟨rfl, hb⟩; have n0_ := Aside0.mk (Kd.R_below (by (with_reducible repeat (first | apply Kd.R_alloc | apply Kd.R_drewN | apply Kd.R_drew)); exact HO_6.out) hb); have n1_ := Aside0.mk (below_step (by repeat (first | (with_reducible first | exact HB.out | apply below_alloc | apply pw_below_drewN | apply below_drew1) | exact HB.out)) hb); clear HO_6; clear HB; have HO_6 := n0_; have HB := n1_; clear n0_ n1_; (try clear hb); (try clear hb2); (try clear hk); (try clear hi))); try go_wp2_with (first | (go_at_call 32; (with_reducible refine (hopmeshref29_Check.calls _ _ x6_1 t264 _ ?side1 ?side2 A10.out).mono ?_); (case side1 => repeat (first | exact (Kd.R_reads' HO_6.out).2.2 | (with_reducible refine Kd.C_alloc ?_ _) | (with_reducible refine Kd.C_drewN ?_ _) | (with_reducible refine Kd.C_drew ?_))); (case side2 => exact (Kd.R_reads' HO_6.out).2.1); rintro e w13 ⟨rfl, hb⟩; have n0_ := Aside0.mk (Kd.R_below (by (with_reducible repeat (first | apply Kd.R_alloc | apply Kd.R_drewN | apply Kd.R_drew)); exact HO_6.out) hb); have n1_ := Aside0.mk (below_step (by repeat (first | (with_reducible first | exact HB.out | apply below_alloc | apply pw_below_drewN | apply below_drew1) | exact HB.out)) hb); clear HO_6; clear HB; have HO_6 := n0_; have HB := n1_; clear n0_ n1_; (try clear hb); (try clear hb2); (try clear hk); (try clear hi))))
            go_loopg [9] k1 (fun kq v9 w' => ∃ (x6_2 : List (S39)) (x9_2 : Int), v9 = .int .i64 x9_2 ∧ Aside0 (hopmeshref29_Join.l1 kq l0 x6_2 x9_2 = some (r1, r2)) ∧ Aside0 (kq ≤ k1) ∧ Aside0 (Kd.R k39 39 w' w.heap.size (fun _ => True) (.slice Ao12 x6_1.length co12) x6_2) ∧ Aside0 (Below w.heap.size w w'))
            case atStart => exact ⟨(x6_1), (0), (by first | rfl | (simp; done) | (simp [*]; done)), H', ⟨Nat.le_refl _⟩, ⟨by (with_reducible repeat (first | apply Kd.R_alloc | apply Kd.R_drewN | apply Kd.R_drew)); exact HO_6.out⟩, ⟨by repeat (first | (with_reducible first | exact HB.out | apply below_alloc | apply pw_below_drewN | apply below_drew1) | exact HB.out)⟩⟩
            case round =>
              clear H'
              try clear c1
              try clear c2
              try clear p2
              try clear q2
              try clear hx2
              try clear c4
              try clear c4b0
              try clear c4b1
              try clear c6
              try clear c6b0
              try clear p6
              try clear c7
              try clear c7b0
              try clear c8
              try clear c11
              try clear c11b0
              try clear c11b1
              try clear hx260_0
              try clear hx260_1
              try clear hx260_2
              try clear hx260_3
              try clear hx260_4
              try clear hx260_5
              try clear p2
              try clear p260
              try clear q260
              obtain ⟨x6_2, x9_2, rfl, HA, HK2, HO_6, HB⟩ := hrel
              have hl6_2 := (Kd.R_reads' HO_6.out).1
              rw [hl6_2] at HO_6
              (try simp only [hl6_2])
              cases gk with
              | zero => exact absurd HA.out (by simp [hopmeshref29_Join.l1])
              | succ k2 =>
                have H := HA.out
                clear HA
                simp only [hopmeshref29_Join.l1] at H
                by_cases c14 : x9_2 < (x6_2.length : Int)
                · rw [if_pos c14] at H
                  have c14b0 : decide (x9_2 < (x6_2.length : Int)) = true := decide_eq_true c14
                  clear c14
                  have H' := Aside0.mk H
                  clear H
                  go_wp2
                  repeat (go_quiet (fail); try go_wp2)
                  go_loopg [10] k2 (fun kq v10 w' => ∃ (x6_3 : List (S39)) (x10_3 : Int), v10 = .int .i64 x10_3 ∧ Aside0 (hopmeshref29_Join.l2 kq l0 x6_3 x9_2 x10_3 = some (r1, r2)) ∧ Aside0 (kq ≤ k2) ∧ Aside0 (Kd.R k39 39 w' w.heap.size (fun _ => True) (.slice Ao12 x6_2.length co12) x6_3) ∧ Aside0 (Below w.heap.size w w'))
                  case atStart => exact ⟨(x6_2), (0), (by first | rfl | (simp; done) | (simp [*]; done)), H', ⟨Nat.le_refl _⟩, ⟨by (try simp only [hl6_2]); (with_reducible repeat (first | apply Kd.R_alloc | apply Kd.R_drewN | apply Kd.R_drew)); exact HO_6.out⟩, ⟨by repeat (first | (with_reducible first | exact HB.out | apply below_alloc | apply pw_below_drewN | apply below_drew1) | exact HB.out)⟩⟩
                  case round =>
                    clear H'
                    try clear c1
                    try clear c2
                    try clear p2
                    try clear q2
                    try clear hx2
                    try clear c4
                    try clear c4b0
                    try clear c4b1
                    try clear c6
                    try clear c6b0
                    try clear p6
                    try clear c7
                    try clear c7b0
                    try clear c8
                    try clear c11
                    try clear c11b0
                    try clear c11b1
                    try clear c14
                    try clear c14b0
                    try clear hx260_0
                    try clear hx260_1
                    try clear hx260_2
                    try clear hx260_3
                    try clear hx260_4
                    try clear hx260_5
                    try clear p2
                    try clear p260
                    try clear p6
                    try clear q2
                    try clear q260
                    obtain ⟨x6_3, x10_3, rfl, HA, HK3, HO_6, HB⟩ := hrel
                    have hl6_3 := (Kd.R_reads' HO_6.out).1
                    rw [hl6_3] at HO_6
                    (try simp only [hl6_3])
                    cases gk with
                    | zero => exact absurd HA.out (by simp [hopmeshref29_Join.l2])
                    | succ k3 =>
                      have H := HA.out
                      clear HA
                      simp only [hopmeshref29_Join.l2] at H
                      by_cases c15 : x10_3 < (l0.length : Int)
                      · rw [if_pos c15] at H
                        have c15b0 : decide (x10_3 < (l0.length : Int)) = true := decide_eq_true c15
                        clear c15
                        by_cases c16 : 0 ≤ x10_3
                        · rw [if_pos c16] at H
                          have c16b0 : decide (0 ≤ x10_3) = true := decide_eq_true c16
                          clear c16
                          by_cases c17 : 0 ≤ x9_2
                          · rw [if_pos c17] at H
                            have c17b0 : decide (0 ≤ x9_2) = true := decide_eq_true c17
                            clear c17
                            by_cases c18 : x9_2 < (x6_3.length : Int)
                            · rw [if_pos c18] at H
                              have c18b0 : decide (x9_2 < (x6_3.length : Int)) = true := decide_eq_true c18
                              clear c18
                              by_cases c19 : (((rd_T39 l0 x10_3).f0.f0) == ((rd_T39 x6_3 x9_2).f0.f0) && (((rd_T39 l0 x10_3).f0.f1) == ((rd_T39 x6_3 x9_2).f0.f1) && (((rd_T39 l0 x10_3).f0.f2) == ((rd_T39 x6_3 x9_2).f0.f2) && (((rd_T39 l0 x10_3).f0.f3) == ((rd_T39 x6_3 x9_2).f0.f3) && (((rd_T39 l0 x10_3).f0.f4) == ((rd_T39 x6_3 x9_2).f0.f4) && (((rd_T39 l0 x10_3).f0.f5) == ((rd_T39 x6_3 x9_2).f0.f5))))))) = true
                              · rw [if_pos c19] at H
                                have c19b0 : (((rd_T39 l0 x10_3).f0.f0) == ((rd_T39 x6_3 x9_2).f0.f0) && (((rd_T39 l0 x10_3).f0.f1) == ((rd_T39 x6_3 x9_2).f0.f1) && (((rd_T39 l0 x10_3).f0.f2) == ((rd_T39 x6_3 x9_2).f0.f2) && (((rd_T39 l0 x10_3).f0.f3) == ((rd_T39 x6_3 x9_2).f0.f3) && (((rd_T39 l0 x10_3).f0.f4) == ((rd_T39 x6_3 x9_2).f0.f4) && (((rd_T39 l0 x10_3).f0.f5) == ((rd_T39 x6_3 x9_2).f0.f5))))))) = true := c19
                                (try (have c19b1 : decide (((rd_T39 l0 x10_3).f0.f0) = ((rd_T39 x6_3 x9_2).f0.f0) && (((rd_T39 l0 x10_3).f0.f1) == ((rd_T39 x6_3 x9_2).f0.f1) && (((rd_T39 l0 x10_3).f0.f2) == ((rd_T39 x6_3 x9_2).f0.f2) && (((rd_T39 l0 x10_3).f0.f3) == ((rd_T39 x6_3 x9_2).f0.f3) && (((rd_T39 l0 x10_3).f0.f4) == ((rd_T39 x6_3 x9_2).f0.f4) && (((rd_T39 l0 x10_3).f0.f5) == ((rd_T39 x6_3 x9_2).f0.f5))))))) = true := by simpa using c19))
                                (try (have c19b2 : (((rd_T39 l0 x10_3).f0.f0) == ((rd_T39 x6_3 x9_2).f0.f0) && (((rd_T39 l0 x10_3).f0.f1) == ((rd_T39 x6_3 x9_2).f0.f1) && (((rd_T39 l0 x10_3).f0.f2) == ((rd_T39 x6_3 x9_2).f0.f2) && (((rd_T39 l0 x10_3).f0.f3) == ((rd_T39 x6_3 x9_2).f0.f3) && (((rd_T39 l0 x10_3).f0.f4) == ((rd_T39 x6_3 x9_2).f0.f4) && (((rd_T39 l0 x10_3).f0.f5) == ((rd_T39 x6_3 x9_2).f0.f5))))))) = true := by simpa using c19))
                                clear c19
                                obtain ⟨y268, hy268⟩ : ∃ y_ : List (S39), y_ = (x6_3.set (x9_2 : Int).toNat (⟨(⟨(rd_T39 l0 x10_3).f0.f0, (rd_T39 l0 x10_3).f0.f1, (rd_T39 l0 x10_3).f0.f2, (rd_T39 l0 x10_3).f0.f3, (rd_T39 l0 x10_3).f0.f4, (rd_T39 l0 x10_3).f0.f5⟩ : S37), (rd_T39 l0 x10_3).f1, (rd_T39 l0 x10_3).f2, (rd_T39 l0 x10_3).f3⟩ : S39)) := ⟨_, rfl⟩
                                replace H : (hopmeshref29_Join.l2 k3 l0 y268 x9_2 (wrap64 (x10_3 + 1))) = some (r1, r2) := by first | (rw [hy268]; with_reducible exact H) | (have H2_ := (Option.bind_some _ _).symm.trans H; rw [hy268]; with_reducible exact H2_) | (have H2_ := (Option.bind_some _ _).symm.trans H; with_reducible exact H2_) | with_reducible exact H | (rw [hy268]; exact H) | exact H
                                have Ny268 := Aside0.mk hy268
                                clear hy268
                                have H' := Aside0.mk H
                                clear H
                                have p265 : 0 ≤ (x10_3 : Int) := of_decide_eq_true (by first | (with_reducible assumption) | assumption)
                                have q265 : x10_3 < (l0.length : Int) := of_decide_eq_true (by first | (with_reducible assumption) | assumption)
                                obtain ⟨ad265, e265, hx265_0, hx265_1, hx265_2, hx265_3, hx265_4, hx265_5, hx265_6, hx265_7, hx265_8⟩ := at_T39 HR0.out x10_3 p265 q265
                                cases e265
                                replace hx265_0 := (HB.out.cell (World.block_lt_of_cell? w _ hx265_0)).trans hx265_0
                                replace hx265_1 := (HB.out.cell (World.block_lt_of_cell? w _ hx265_1)).trans hx265_1
                                replace hx265_2 := (HB.out.cell (World.block_lt_of_cell? w _ hx265_2)).trans hx265_2
                                replace hx265_3 := (HB.out.cell (World.block_lt_of_cell? w _ hx265_3)).trans hx265_3
                                replace hx265_4 := (HB.out.cell (World.block_lt_of_cell? w _ hx265_4)).trans hx265_4
                                replace hx265_5 := (HB.out.cell (World.block_lt_of_cell? w _ hx265_5)).trans hx265_5
                                replace hx265_6 := (HB.out.cell (World.block_lt_of_cell? w _ hx265_6)).trans hx265_6
                                replace hx265_7 := (HB.out.cell (World.block_lt_of_cell? w _ hx265_7)).trans hx265_7
                                replace hx265_8 := (HB.out.cell (World.block_lt_of_cell? w _ hx265_8)).trans hx265_8
                                replace p265 := eq_true p265
                                replace q265 := eq_true q265
                                have p266 : 0 ≤ (x9_2 : Int) := of_decide_eq_true (by first | (with_reducible assumption) | assumption)
                                have q266 : x9_2 < (x6_3.length : Int) := of_decide_eq_true (by first | (with_reducible assumption) | assumption)
                                obtain ⟨ad266, e266, hx266_0, hx266_1, hx266_2, hx266_3, hx266_4, hx266_5, hx266_6, hx266_7, hx266_8⟩ := at_T39 (Kd.R_reads' HO_6.out).2.2 x9_2 p266 q266
                                cases e266
                                replace p266 := eq_true p266
                                replace q266 := eq_true q266
                                have p267 : 0 ≤ (x10_3 : Int) := of_decide_eq_true (by first | (with_reducible assumption) | assumption)
                                have q267 : x10_3 < (l0.length : Int) := of_decide_eq_true (by first | (with_reducible assumption) | assumption)
                                obtain ⟨ad267, e267, hx267_0, hx267_1, hx267_2, hx267_3, hx267_4, hx267_5, hx267_6, hx267_7, hx267_8⟩ := at_T39 HR0.out x10_3 p267 q267
                                obtain rfl : ad265 = ad267 := (by injection e267)
                                replace hx267_0 := (HB.out.cell (World.block_lt_of_cell? w _ hx267_0)).trans hx267_0
                                replace hx267_1 := (HB.out.cell (World.block_lt_of_cell? w _ hx267_1)).trans hx267_1
                                replace hx267_2 := (HB.out.cell (World.block_lt_of_cell? w _ hx267_2)).trans hx267_2
                                replace hx267_3 := (HB.out.cell (World.block_lt_of_cell? w _ hx267_3)).trans hx267_3
                                replace hx267_4 := (HB.out.cell (World.block_lt_of_cell? w _ hx267_4)).trans hx267_4
                                replace hx267_5 := (HB.out.cell (World.block_lt_of_cell? w _ hx267_5)).trans hx267_5
                                replace hx267_6 := (HB.out.cell (World.block_lt_of_cell? w _ hx267_6)).trans hx267_6
                                replace hx267_7 := (HB.out.cell (World.block_lt_of_cell? w _ hx267_7)).trans hx267_7
                                replace hx267_8 := (HB.out.cell (World.block_lt_of_cell? w _ hx267_8)).trans hx267_8
                                replace p267 := eq_true p267
                                replace q267 := eq_true q267
                                have p20 : 0 ≤ (x9_2 : Int) := of_decide_eq_true (by first | (with_reducible assumption) | assumption)
                                have q20 : (x9_2 : Int) < ((x6_3.length : Int) : Int) := of_decide_eq_true (by first | (with_reducible assumption) | assumption)
                                obtain ⟨go20, co20, eo20, gb20, gl20, cl20, HG20⟩ := Kd.R_form HO_6.out (by omega)
                                (first | cases eo20 | (injection eo20 with ea_ en_ ec_; (first | subst ea_ | (injection ea_ with ea_; subst ea_)); subst ec_; clear en_))
                                have GB20 := Aside0.mk gb20
                                have GG20 := Aside0.mk HG20
                                clear gb20 gl20 HG20
                                (first | simp only [add_plain] at hx266_0 | skip)
                                (first | simp only [add_plain] at hx266_1 | skip)
                                (first | simp only [add_plain] at hx266_2 | skip)
                                (first | simp only [add_plain] at hx266_3 | skip)
                                (first | simp only [add_plain] at hx266_4 | skip)
                                (first | simp only [add_plain] at hx266_5 | skip)
                                (first | simp only [add_plain] at hx266_6 | skip)
                                (first | simp only [add_plain] at hx266_7 | skip)
                                (first | simp only [add_plain] at hx266_8 | skip)
                                obtain ⟨ce20, hcl20, hM20, hcc20, hfr20⟩ := Kd.R_elem HO_6.out z39 (x9_2 : Int) p20 q20
                                obtain rfl := k39_openM hM20
                                have hx20_0 : wr.cell? ⟨go20, (x9_2 : Int).toNat * 9, none⟩ = some (.int .i64 ((rd_T39 x6_3 x9_2).f0.f0)) := hcc20 0 _ rfl
                                have hx20_1 : wr.cell? ⟨go20, (x9_2 : Int).toNat * 9 + 1, none⟩ = some (.int .i64 ((rd_T39 x6_3 x9_2).f0.f1)) := hcc20 1 _ rfl
                                have hx20_2 : wr.cell? ⟨go20, (x9_2 : Int).toNat * 9 + 2, none⟩ = some (.int .i64 ((rd_T39 x6_3 x9_2).f0.f2)) := hcc20 2 _ rfl
                                have hx20_3 : wr.cell? ⟨go20, (x9_2 : Int).toNat * 9 + 3, none⟩ = some (.bool ((rd_T39 x6_3 x9_2).f0.f3)) := hcc20 3 _ rfl
                                have hx20_4 : wr.cell? ⟨go20, (x9_2 : Int).toNat * 9 + 4, none⟩ = some (.int .i64 ((rd_T39 x6_3 x9_2).f0.f4)) := hcc20 4 _ rfl
                                have hx20_5 : wr.cell? ⟨go20, (x9_2 : Int).toNat * 9 + 5, none⟩ = some (.int .i64 ((rd_T39 x6_3 x9_2).f0.f5)) := hcc20 5 _ rfl
                                have hx20_6 : wr.cell? ⟨go20, (x9_2 : Int).toNat * 9 + 6, none⟩ = some (.int .i64 ((rd_T39 x6_3 x9_2).f1)) := hcc20 6 _ rfl
                                have hx20_7 : wr.cell? ⟨go20, (x9_2 : Int).toNat * 9 + 7, none⟩ = some (.int .i64 ((rd_T39 x6_3 x9_2).f2)) := hcc20 7 _ rfl
                                have hx20_8 : wr.cell? ⟨go20, (x9_2 : Int).toNat * 9 + 8, none⟩ = some (.int .i64 ((rd_T39 x6_3 x9_2).f3)) := hcc20 8 _ rfl
                                have hf20_0 : wr.frozen? ⟨go20, (x9_2 : Int).toNat * 9, none⟩ = false := hfr20 0
                                have hf20_1 : wr.frozen? ⟨go20, (x9_2 : Int).toNat * 9 + 1, none⟩ = false := hfr20 1
                                have hf20_2 : wr.frozen? ⟨go20, (x9_2 : Int).toNat * 9 + 2, none⟩ = false := hfr20 2
                                have hf20_3 : wr.frozen? ⟨go20, (x9_2 : Int).toNat * 9 + 3, none⟩ = false := hfr20 3
                                have hf20_4 : wr.frozen? ⟨go20, (x9_2 : Int).toNat * 9 + 4, none⟩ = false := hfr20 4
                                have hf20_5 : wr.frozen? ⟨go20, (x9_2 : Int).toNat * 9 + 5, none⟩ = false := hfr20 5
                                have hf20_6 : wr.frozen? ⟨go20, (x9_2 : Int).toNat * 9 + 6, none⟩ = false := hfr20 6
                                have hf20_7 : wr.frozen? ⟨go20, (x9_2 : Int).toNat * 9 + 7, none⟩ = false := hfr20 7
                                have hf20_8 : wr.frozen? ⟨go20, (x9_2 : Int).toNat * 9 + 8, none⟩ = false := hfr20 8
                                clear hcl20 hcc20 hfr20 hM20
                                replace p20 := eq_true p20
                                replace q20 := eq_true q20
                                have HX21 := Aside0.mk (show Kd.R k39 39 wr w.heap.size (fun _ => True) (.slice (some ⟨go20, 0, none⟩) x6_3.length co12) x6_3 from (by (with_reducible repeat (first | apply Kd.R_alloc | apply Kd.R_drewN | apply Kd.R_drew)); exact HO_6.out))
                                obtain ⟨ce21, hcl21, hM21, hcc21, hfr21⟩ := Kd.R_elem HX21.out z39 (x9_2 : Int) (of_decide_eq_true (by first | (with_reducible assumption) | assumption)) (by have h_ : (x9_2 : Int) < ((x6_3.length : Int) : Int) := of_decide_eq_true (by first | (with_reducible assumption) | assumption); first | exact h_ | (have e_ := (Kd.R_reads' HO_6.out).1; omega) | simpa using h_)
                                obtain rfl := k39_openM hM21
                                have HP21 := Kd.R_seg HX21.out (x9_2 : Int) (of_decide_eq_true (by first | (with_reducible assumption) | assumption)) (by have h_ : (x9_2 : Int) < ((x6_3.length : Int) : Int) := of_decide_eq_true (by first | (with_reducible assumption) | assumption); first | exact h_ | (have e_ := (Kd.R_reads' HO_6.out).1; omega) | simpa using h_) (seg := [.int .i64 ((rd_T39 l0 x10_3).f0.f0), .int .i64 ((rd_T39 l0 x10_3).f0.f1), .int .i64 ((rd_T39 l0 x10_3).f0.f2), .bool ((rd_T39 l0 x10_3).f0.f3), .int .i64 ((rd_T39 l0 x10_3).f0.f4), .int .i64 ((rd_T39 l0 x10_3).f0.f5), .int .i64 ((rd_T39 l0 x10_3).f1), .int .i64 ((rd_T39 l0 x10_3).f2), .int .i64 ((rd_T39 l0 x10_3).f3)]) (j := 0) hcl21 hcc21 (show 9 ≤ 9 from by decide) (x' := (⟨(⟨(rd_T39 l0 x10_3).f0.f0, (rd_T39 l0 x10_3).f0.f1, (rd_T39 l0 x10_3).f0.f2, (rd_T39 l0 x10_3).f0.f3, (rd_T39 l0 x10_3).f0.f4, (rd_T39 l0 x10_3).f0.f5⟩ : S37), (rd_T39 l0 x10_3).f1, (rd_T39 l0 x10_3).f2, (rd_T39 l0 x10_3).f3⟩ : S39)) (k39_mkM _ _ _ (⟨(⟨(rd_T39 l0 x10_3).f0.f0, (rd_T39 l0 x10_3).f0.f1, (rd_T39 l0 x10_3).f0.f2, (rd_T39 l0 x10_3).f0.f3, (rd_T39 l0 x10_3).f0.f4, (rd_T39 l0 x10_3).f0.f5⟩ : S37), (rd_T39 l0 x10_3).f1, (rd_T39 l0 x10_3).f2, (rd_T39 l0 x10_3).f3⟩ : S39) ) (fun _ hk => hk)
                                have hx21_0 := hcc21 0 _ rfl
                                (try simp only [show (k39).sz = 9 from rfl, Nat.mul_one, Nat.add_zero] at hx21_0)
                                have hf21_0 := hfr21 0
                                (try simp only [show (k39).sz = 9 from rfl, Nat.mul_one, Nat.add_zero] at hf21_0)
                                have hx21_1 := hcc21 1 _ rfl
                                (try simp only [show (k39).sz = 9 from rfl, Nat.mul_one, Nat.add_zero] at hx21_1)
                                have hf21_1 := hfr21 1
                                (try simp only [show (k39).sz = 9 from rfl, Nat.mul_one, Nat.add_zero] at hf21_1)
                                have hx21_2 := hcc21 2 _ rfl
                                (try simp only [show (k39).sz = 9 from rfl, Nat.mul_one, Nat.add_zero] at hx21_2)
                                have hf21_2 := hfr21 2
                                (try simp only [show (k39).sz = 9 from rfl, Nat.mul_one, Nat.add_zero] at hf21_2)
                                have hx21_3 := hcc21 3 _ rfl
                                (try simp only [show (k39).sz = 9 from rfl, Nat.mul_one, Nat.add_zero] at hx21_3)
                                have hf21_3 := hfr21 3
                                (try simp only [show (k39).sz = 9 from rfl, Nat.mul_one, Nat.add_zero] at hf21_3)
                                have hx21_4 := hcc21 4 _ rfl
                                (try simp only [show (k39).sz = 9 from rfl, Nat.mul_one, Nat.add_zero] at hx21_4)
                                have hf21_4 := hfr21 4
                                (try simp only [show (k39).sz = 9 from rfl, Nat.mul_one, Nat.add_zero] at hf21_4)
                                have hx21_5 := hcc21 5 _ rfl
                                (try simp only [show (k39).sz = 9 from rfl, Nat.mul_one, Nat.add_zero] at hx21_5)
                                have hf21_5 := hfr21 5
                                (try simp only [show (k39).sz = 9 from rfl, Nat.mul_one, Nat.add_zero] at hf21_5)
                                have hx21_6 := hcc21 6 _ rfl
                                (try simp only [show (k39).sz = 9 from rfl, Nat.mul_one, Nat.add_zero] at hx21_6)
                                have hf21_6 := hfr21 6
                                (try simp only [show (k39).sz = 9 from rfl, Nat.mul_one, Nat.add_zero] at hf21_6)
                                have hx21_7 := hcc21 7 _ rfl
                                (try simp only [show (k39).sz = 9 from rfl, Nat.mul_one, Nat.add_zero] at hx21_7)
                                have hf21_7 := hfr21 7
                                (try simp only [show (k39).sz = 9 from rfl, Nat.mul_one, Nat.add_zero] at hf21_7)
                                have hx21_8 := hcc21 8 _ rfl
                                (try simp only [show (k39).sz = 9 from rfl, Nat.mul_one, Nat.add_zero] at hx21_8)
                                have hf21_8 := hfr21 8
                                (try simp only [show (k39).sz = 9 from rfl, Nat.mul_one, Nat.add_zero] at hf21_8)
                                clear hcl21 hcc21 hfr21 hM21
                                go_wp2_with (first | ((with_reducible refine gate_store (t := 39) (p := 62) rfl ?_); (try (rw [drewN_self wr]; generalize hq_ : World.drewN wr _ = wr; have n0_ := Aside0.mk (Kd.R_at hq_ HO_6.out); have n1_ := Aside0.mk (below_at hq_ HB.out); clear hq_ HO_6 HB; have HO_6 := n0_; have HB := n1_; clear n0_ n1_; (try (have HX21 := Aside0.mk (show Kd.R k39 39 wr w.heap.size (fun _ => True) (.slice (some ⟨go20, 0, none⟩) x6_3.length co12) x6_3 from (by (with_reducible repeat (first | apply Kd.R_alloc | apply Kd.R_drewN | apply Kd.R_drew)); exact HO_6.out)))); (try (obtain ⟨ce21, hcl21, hM21, hcc21, hfr21⟩ := Kd.R_elem HX21.out z39 (x9_2 : Int) (of_decide_eq_true (by first | (with_reducible assumption) | assumption)) (by have h_ : (x9_2 : Int) < ((x6_3.length : Int) : Int) := of_decide_eq_true (by first | (with_reducible assumption) | assumption); first | exact h_ | (have e_ := (Kd.R_reads' HO_6.out).1; omega) | simpa using h_))); (try (obtain rfl := k39_openM hM21)); (try (have HP21 := Kd.R_seg HX21.out (x9_2 : Int) (of_decide_eq_true (by first | (with_reducible assumption) | assumption)) (by have h_ : (x9_2 : Int) < ((x6_3.length : Int) : Int) := of_decide_eq_true (by first | (with_reducible assumption) | assumption); first | exact h_ | (have e_ := (Kd.R_reads' HO_6.out).1; omega) | simpa using h_) (seg := [.int .i64 ((rd_T39 l0 x10_3).f0.f0), .int .i64 ((rd_T39 l0 x10_3).f0.f1), .int .i64 ((rd_T39 l0 x10_3).f0.f2), .bool ((rd_T39 l0 x10_3).f0.f3), .int .i64 ((rd_T39 l0 x10_3).f0.f4), .int .i64 ((rd_T39 l0 x10_3).f0.f5), .int .i64 ((rd_T39 l0 x10_3).f1), .int .i64 ((rd_T39 l0 x10_3).f2), .int .i64 ((rd_T39 l0 x10_3).f3)]) (j := 0) hcl21 hcc21 (show 9 ≤ 9 from by decide) (x' := (⟨(⟨(rd_T39 l0 x10_3).f0.f0, (rd_T39 l0 x10_3).f0.f1, (rd_T39 l0 x10_3).f0.f2, (rd_T39 l0 x10_3).f0.f3, (rd_T39 l0 x10_3).f0.f4, (rd_T39 l0 x10_3).f0.f5⟩ : S37), (rd_T39 l0 x10_3).f1, (rd_T39 l0 x10_3).f2, (rd_T39 l0 x10_3).f3⟩ : S39)) (k39_mkM _ _ _ (⟨(⟨(rd_T39 l0 x10_3).f0.f0, (rd_T39 l0 x10_3).f0.f1, (rd_T39 l0 x10_3).f0.f2, (rd_T39 l0 x10_3).f0.f3, (rd_T39 l0 x10_3).f0.f4, (rd_T39 l0 x10_3).f0.f5⟩ : S37), (rd_T39 l0 x10_3).f1, (rd_T39 l0 x10_3).f2, (rd_T39 l0 x10_3).f3⟩ : S39) ) (fun _ hk => hk))); (try (have hx21_0 := hcc21 0 _ rfl)); (try (try simp only [show (k39).sz = 9 from rfl, Nat.mul_one, Nat.add_zero] at hx21_0)); (try (have hf21_0 := hfr21 0)); (try (try simp only [show (k39).sz = 9 from rfl, Nat.mul_one, Nat.add_zero] at hf21_0)); (try (have hx21_1 := hcc21 1 _ rfl)); (try (try simp only [show (k39).sz = 9 from rfl, Nat.mul_one, Nat.add_zero] at hx21_1)); (try (have hf21_1 := hfr21 1)); (try (try simp only [show (k39).sz = 9 from rfl, Nat.mul_one, Nat.add_zero] at hf21_1)); (try (have hx21_2 := hcc21 2 _ rfl)); (try (try simp only [show (k39).sz = 9 from rfl, Nat.mul_one, Nat.add_zero] at hx21_2)); (try (have hf21_2 := hfr21 2)); (try (try simp only [show (k39).sz = 9 from rfl, Nat.mul_one, Nat.add_zero] at hf21_2)); (try (have hx21_3 := hcc21 3 _ rfl)); (try (try simp only [show (k39).sz = 9 from rfl, Nat.mul_one, Nat.add_zero] at hx21_3)); (try (have hf21_3 := hfr21 3)); (try (try simp only [show (k39).sz = 9 from rfl, Nat.mul_one, Nat.add_zero] at hf21_3)); (try (have hx21_4 := hcc21 4 _ rfl)); (try (try simp only [show (k39).sz = 9 from rfl, Nat.mul_one, Nat.add_zero] at hx21_4)); (try (have hf21_4 := hfr21 4)); (try (try simp only [show (k39).sz = 9 from rfl, Nat.mul_one, Nat.add_zero] at hf21_4)); (try (have hx21_5 := hcc21 5 _ rfl)); (try (try simp only [show (k39).sz = 9 from rfl, Nat.mul_one, Nat.add_zero] at hx21_5)); (try (have hf21_5 := hfr21 5)); (try (try simp only [show (k39).sz = 9 from rfl, Nat.mul_one, Nat.add_zero] at hf21_5)); (try (have hx21_6 := hcc21 6 _ rfl)); (try (try simp only [show (k39).sz = 9 from rfl, Nat.mul_one, Nat.add_zero] at hx21_6)); (try (have hf21_6 := hfr21 6)); (try (try simp only [show (k39).sz = 9 from rfl, Nat.mul_one, Nat.add_zero] at hf21_6)); (try (have hx21_7 := hcc21 7 _ rfl)); (try (try simp only [show (k39).sz = 9 from rfl, Nat.mul_one, Nat.add_zero] at hx21_7)); (try (have hf21_7 := hfr21 7)); (try (try simp only [show (k39).sz = 9 from rfl, Nat.mul_one, Nat.add_zero] at hf21_7)); (try (have hx21_8 := hcc21 8 _ rfl)); (try (try simp only [show (k39).sz = 9 from rfl, Nat.mul_one, Nat.add_zero] at hx21_8)); (try (have hf21_8 := hfr21 8)); (try (try simp only [show (k39).sz = 9 from rfl, Nat.mul_one, Nat.add_zero] at hf21_8)); (try (clear hcl21 hcc21 hfr21 hM21)))); refine store_event (t := 39) (p := 62) (v := ?vo_w22) (w1 := (((((((((wr.setCell ⟨go20, (x9_2 : Int).toNat * 9, none⟩ (.int .i64 ((rd_T39 l0 x10_3).f0.f0))).setCell ⟨go20, (x9_2 : Int).toNat * 9 + 1, none⟩ (.int .i64 ((rd_T39 l0 x10_3).f0.f1))).setCell ⟨go20, (x9_2 : Int).toNat * 9 + 2, none⟩ (.int .i64 ((rd_T39 l0 x10_3).f0.f2))).setCell ⟨go20, (x9_2 : Int).toNat * 9 + 3, none⟩ (.bool ((rd_T39 l0 x10_3).f0.f3))).setCell ⟨go20, (x9_2 : Int).toNat * 9 + 4, none⟩ (.int .i64 ((rd_T39 l0 x10_3).f0.f4))).setCell ⟨go20, (x9_2 : Int).toNat * 9 + 5, none⟩ (.int .i64 ((rd_T39 l0 x10_3).f0.f5))).setCell ⟨go20, (x9_2 : Int).toNat * 9 + 6, none⟩ (.int .i64 ((rd_T39 l0 x10_3).f1))).setCell ⟨go20, (x9_2 : Int).toNat * 9 + 7, none⟩ (.int .i64 ((rd_T39 l0 x10_3).f2))).setCell ⟨go20, (x9_2 : Int).toNat * 9 + 8, none⟩ (.int .i64 ((rd_T39 l0 x10_3).f3)))) ?hg ?ho ?hn ?hr ?_; (case ho => rfl); (case hg => rfl); (case hn => rfl); (case hr => first | (go_simp; done) | (go_simp; rfl)); intro w22 hw; have hg : wr.grownBy w22 (some go20) := (by rw [hw]; exact HP21.2); have hp_ : Kd.R k39 39 w22 w.heap.size (fun _ => True) (.slice (some ⟨go20, 0, none⟩) x6_3.length co12) y268 := (by rw [hw, Ny268.out]; exact HP21.1); clear HP21; have n0_ := Aside0.mk (hp_); have n1_ := Aside0.mk ((by rw [hw]; exact below_set (below_set (below_set (below_set (below_set (below_set (below_set (below_set (below_set (HB.out) GB20.out) GB20.out) GB20.out) GB20.out) GB20.out) GB20.out) GB20.out) GB20.out) GB20.out : Below w.heap.size w w22)); clear HO_6; clear HB; have HO_6 := n0_; have HB := n1_; clear n0_ n1_; clear hg hw hp_))
                                repeat (go_quiet (first | ((with_reducible refine gate_store (t := 39) (p := 62) rfl ?_); (try (rw [drewN_self wr]; generalize hq_ : World.drewN wr _ = wr; have n0_ := Aside0.mk (Kd.R_at hq_ HO_6.out); have n1_ := Aside0.mk (below_at hq_ HB.out); clear hq_ HO_6 HB; have HO_6 := n0_; have HB := n1_; clear n0_ n1_; (try (have HX21 := Aside0.mk (show Kd.R k39 39 wr w.heap.size (fun _ => True) (.slice (some ⟨go20, 0, none⟩) x6_3.length co12) x6_3 from (by (with_reducible repeat (first | apply Kd.R_alloc | apply Kd.R_drewN | apply Kd.R_drew)); exact HO_6.out)))); (try (obtain ⟨ce21, hcl21, hM21, hcc21, hfr21⟩ := Kd.R_elem HX21.out z39 (x9_2 : Int) (of_decide_eq_true (by first | (with_reducible assumption) | assumption)) (by have h_ : (x9_2 : Int) < ((x6_3.length : Int) : Int) := of_decide_eq_true (by first | (with_reducible assumption) | assumption); first | exact h_ | (have e_ := (Kd.R_reads' HO_6.out).1; omega) | simpa using h_))); (try (obtain rfl := k39_openM hM21)); (try (have HP21 := Kd.R_seg HX21.out (x9_2 : Int) (of_decide_eq_true (by first | (with_reducible assumption) | assumption)) (by have h_ : (x9_2 : Int) < ((x6_3.length : Int) : Int) := of_decide_eq_true (by first | (with_reducible assumption) | assumption); first | exact h_ | (have e_ := (Kd.R_reads' HO_6.out).1; omega) | simpa using h_) (seg := [.int .i64 ((rd_T39 l0 x10_3).f0.f0), .int .i64 ((rd_T39 l0 x10_3).f0.f1), .int .i64 ((rd_T39 l0 x10_3).f0.f2), .bool ((rd_T39 l0 x10_3).f0.f3), .int .i64 ((rd_T39 l0 x10_3).f0.f4), .int .i64 ((rd_T39 l0 x10_3).f0.f5), .int .i64 ((rd_T39 l0 x10_3).f1), .int .i64 ((rd_T39 l0 x10_3).f2), .int .i64 ((rd_T39 l0 x10_3).f3)]) (j := 0) hcl21 hcc21 (show 9 ≤ 9 from by decide) (x' := (⟨(⟨(rd_T39 l0 x10_3).f0.f0, (rd_T39 l0 x10_3).f0.f1, (rd_T39 l0 x10_3).f0.f2, (rd_T39 l0 x10_3).f0.f3, (rd_T39 l0 x10_3).f0.f4, (rd_T39 l0 x10_3).f0.f5⟩ : S37), (rd_T39 l0 x10_3).f1, (rd_T39 l0 x10_3).f2, (rd_T39 l0 x10_3).f3⟩ : S39)) (k39_mkM _ _ _ (⟨(⟨(rd_T39 l0 x10_3).f0.f0, (rd_T39 l0 x10_3).f0.f1, (rd_T39 l0 x10_3).f0.f2, (rd_T39 l0 x10_3).f0.f3, (rd_T39 l0 x10_3).f0.f4, (rd_T39 l0 x10_3).f0.f5⟩ : S37), (rd_T39 l0 x10_3).f1, (rd_T39 l0 x10_3).f2, (rd_T39 l0 x10_3).f3⟩ : S39) ) (fun _ hk => hk))); (try (have hx21_0 := hcc21 0 _ rfl)); (try (try simp only [show (k39).sz = 9 from rfl, Nat.mul_one, Nat.add_zero] at hx21_0)); (try (have hf21_0 := hfr21 0)); (try (try simp only [show (k39).sz = 9 from rfl, Nat.mul_one, Nat.add_zero] at hf21_0)); (try (have hx21_1 := hcc21 1 _ rfl)); (try (try simp only [show (k39).sz = 9 from rfl, Nat.mul_one, Nat.add_zero] at hx21_1)); (try (have hf21_1 := hfr21 1)); (try (try simp only [show (k39).sz = 9 from rfl, Nat.mul_one, Nat.add_zero] at hf21_1)); (try (have hx21_2 := hcc21 2 _ rfl)); (try (try simp only [show (k39).sz = 9 from rfl, Nat.mul_one, Nat.add_zero] at hx21_2)); (try (have hf21_2 := hfr21 2)); (try (try simp only [show (k39).sz = 9 from rfl, Nat.mul_one, Nat.add_zero] at hf21_2)); (try (have hx21_3 := hcc21 3 _ rfl)); (try (try simp only [show (k39).sz = 9 from rfl, Nat.mul_one, Nat.add_zero] at hx21_3)); (try (have hf21_3 := hfr21 3)); (try (try simp only [show (k39).sz = 9 from rfl, Nat.mul_one, Nat.add_zero] at hf21_3)); (try (have hx21_4 := hcc21 4 _ rfl)); (try (try simp only [show (k39).sz = 9 from rfl, Nat.mul_one, Nat.add_zero] at hx21_4)); (try (have hf21_4 := hfr21 4)); (try (try simp only [show (k39).sz = 9 from rfl, Nat.mul_one, Nat.add_zero] at hf21_4)); (try (have hx21_5 := hcc21 5 _ rfl)); (try (try simp only [show (k39).sz = 9 from rfl, Nat.mul_one, Nat.add_zero] at hx21_5)); (try (have hf21_5 := hfr21 5)); (try (try simp only [show (k39).sz = 9 from rfl, Nat.mul_one, Nat.add_zero] at hf21_5)); (try (have hx21_6 := hcc21 6 _ rfl)); (try (try simp only [show (k39).sz = 9 from rfl, Nat.mul_one, Nat.add_zero] at hx21_6)); (try (have hf21_6 := hfr21 6)); (try (try simp only [show (k39).sz = 9 from rfl, Nat.mul_one, Nat.add_zero] at hf21_6)); (try (have hx21_7 := hcc21 7 _ rfl)); (try (try simp only [show (k39).sz = 9 from rfl, Nat.mul_one, Nat.add_zero] at hx21_7)); (try (have hf21_7 := hfr21 7)); (try (try simp only [show (k39).sz = 9 from rfl, Nat.mul_one, Nat.add_zero] at hf21_7)); (try (have hx21_8 := hcc21 8 _ rfl)); (try (try simp only [show (k39).sz = 9 from rfl, Nat.mul_one, Nat.add_zero] at hx21_8)); (try (have hf21_8 := hfr21 8)); (try (try simp only [show (k39).sz = 9 from rfl, Nat.mul_one, Nat.add_zero] at hf21_8)); (try (clear hcl21 hcc21 hfr21 hM21)))); refine store_event (t := 39) (p := 62) (v := ?vo_w22) (w1 := (((((((((wr.setCell ⟨go20, (x9_2 : Int).toNat * 9, none⟩ (.int .i64 ((rd_T39 l0 x10_3).f0.f0))).setCell ⟨go20, (x9_2 : Int).toNat * 9 + 1, none⟩ (.int .i64 ((rd_T39 l0 x10_3).f0.f1))).setCell ⟨go20, (x9_2 : Int).toNat * 9 + 2, none⟩ (.int .i64 ((rd_T39 l0 x10_3).f0.f2))).setCell ⟨go20, (x9_2 : Int).toNat * 9 + 3, none⟩ (.bool ((rd_T39 l0 x10_3).f0.f3))).setCell ⟨go20, (x9_2 : Int).toNat * 9 + 4, none⟩ (.int .i64 ((rd_T39 l0 x10_3).f0.f4))).setCell ⟨go20, (x9_2 : Int).toNat * 9 + 5, none⟩ (.int .i64 ((rd_T39 l0 x10_3).f0.f5))).setCell ⟨go20, (x9_2 : Int).toNat * 9 + 6, none⟩ (.int .i64 ((rd_T39 l0 x10_3).f1))).setCell ⟨go20, (x9_2 : Int).toNat * 9 + 7, none⟩ (.int .i64 ((rd_T39 l0 x10_3).f2))).setCell ⟨go20, (x9_2 : Int).toNat * 9 + 8, none⟩ (.int .i64 ((rd_T39 l0 x10_3).f3)))) ?hg ?ho ?hn ?hr ?_; (case ho => rfl); (case hg => rfl); (case hn => rfl); (case hr => first | (go_simp; done) | (go_simp; rfl)); intro w22 hw; have hg : wr.grownBy w22 (some go20) := (by rw [hw]; exact HP21.2); have hp_ : Kd.R k39 39 w22 w.heap.size (fun _ => True) (.slice (some ⟨go20, 0, none⟩) x6_3.length co12) y268 := (by rw [hw, Ny268.out]; exact HP21.1); clear HP21; have n0_ := Aside0.mk (hp_); have n1_ := Aside0.mk ((by rw [hw]; exact below_set (below_set (below_set (below_set (below_set (below_set (below_set (below_set (below_set (HB.out) GB20.out) GB20.out) GB20.out) GB20.out) GB20.out) GB20.out) GB20.out) GB20.out) GB20.out : Below w.heap.size w w22)); clear HO_6; clear HB; have HO_6 := n0_; have HB := n1_; clear n0_ n1_; clear hg hw hp_)); try go_wp2_with (first | ((with_reducible refine gate_store (t := 39) (p := 62) rfl ?_); (try (rw [drewN_self wr]; generalize hq_ : World.drewN wr _ = wr; have n0_ := Aside0.mk (Kd.R_at hq_ HO_6.out); have n1_ := Aside0.mk (below_at hq_ HB.out); clear hq_ HO_6 HB; have HO_6 := n0_; have HB := n1_; clear n0_ n1_; (try (have HX21 := Aside0.mk (show Kd.R k39 39 wr w.heap.size (fun _ => True) (.slice (some ⟨go20, 0, none⟩) x6_3.length co12) x6_3 from (by (with_reducible repeat (first | apply Kd.R_alloc | apply Kd.R_drewN | apply Kd.R_drew)); exact HO_6.out)))); (try (obtain ⟨ce21, hcl21, hM21, hcc21, hfr21⟩ := Kd.R_elem HX21.out z39 (x9_2 : Int) (of_decide_eq_true (by first | (with_reducible assumption) | assumption)) (by have h_ : (x9_2 : Int) < ((x6_3.length : Int) : Int) := of_decide_eq_true (by first | (with_reducible assumption) | assumption); first | exact h_ | (have e_ := (Kd.R_reads' HO_6.out).1; omega) | simpa using h_))); (try (obtain rfl := k39_openM hM21)); (try (have HP21 := Kd.R_seg HX21.out (x9_2 : Int) (of_decide_eq_true (by first | (with_reducible assumption) | assumption)) (by have h_ : (x9_2 : Int) < ((x6_3.length : Int) : Int) := of_decide_eq_true (by first | (with_reducible assumption) | assumption); first | exact h_ | (have e_ := (Kd.R_reads' HO_6.out).1; omega) | simpa using h_) (seg := [.int .i64 ((rd_T39 l0 x10_3).f0.f0), .int .i64 ((rd_T39 l0 x10_3).f0.f1), .int .i64 ((rd_T39 l0 x10_3).f0.f2), .bool ((rd_T39 l0 x10_3).f0.f3), .int .i64 ((rd_T39 l0 x10_3).f0.f4), .int .i64 ((rd_T39 l0 x10_3).f0.f5), .int .i64 ((rd_T39 l0 x10_3).f1), .int .i64 ((rd_T39 l0 x10_3).f2), .int .i64 ((rd_T39 l0 x10_3).f3)]) (j := 0) hcl21 hcc21 (show 9 ≤ 9 from by decide) (x' := (⟨(⟨(rd_T39 l0 x10_3).f0.f0, (rd_T39 l0 x10_3).f0.f1, (rd_T39 l0 x10_3).f0.f2, (rd_T39 l0 x10_3).f0.f3, (rd_T39 l0 x10_3).f0.f4, (rd_T39 l0 x10_3).f0.f5⟩ : S37), (rd_T39 l0 x10_3).f1, (rd_T39 l0 x10_3).f2, (rd_T39 l0 x10_3).f3⟩ : S39)) (k39_mkM _ _ _ (⟨(⟨(rd_T39 l0 x10_3).f0.f0, (rd_T39 l0 x10_3).f0.f1, (rd_T39 l0 x10_3).f0.f2, (rd_T39 l0 x10_3).f0.f3, (rd_T39 l0 x10_3).f0.f4, (rd_T39 l0 x10_3).f0.f5⟩ : S37), (rd_T39 l0 x10_3).f1, (rd_T39 l0 x10_3).f2, (rd_T39 l0 x10_3).f3⟩ : S39) ) (fun _ hk => hk))); (try (have hx21_0 := hcc21 0 _ rfl)); (try (try simp only [show (k39).sz = 9 from rfl, Nat.mul_one, Nat.add_zero] at hx21_0)); (try (have hf21_0 := hfr21 0)); (try (try simp only [show (k39).sz = 9 from rfl, Nat.mul_one, Nat.add_zero] at hf21_0)); (try (have hx21_1 := hcc21 1 _ rfl)); (try (try simp only [show (k39).sz = 9 from rfl, Nat.mul_one, Nat.add_zero] at hx21_1)); (try (have hf21_1 := hfr21 1)); (try (try simp only [show (k39).sz = 9 from rfl, Nat.mul_one, Nat.add_zero] at hf21_1)); (try (have hx21_2 := hcc21 2 _ rfl)); (try (try simp only [show (k39).sz = 9 from rfl, Nat.mul_one, Nat.add_zero] at hx21_2)); (try (have hf21_2 := hfr21 2)); (try (try simp only [show (k39).sz = 9 from rfl, Nat.mul_one, Nat.add_zero] at hf21_2)); (try (have hx21_3 := hcc21 3 _ rfl)); (try (try simp only [show (k39).sz = 9 from rfl, Nat.mul_one, Nat.add_zero] at hx21_3)); (try (have hf21_3 := hfr21 3)); (try (try simp only [show (k39).sz = 9 from rfl, Nat.mul_one, Nat.add_zero] at hf21_3)); (try (have hx21_4 := hcc21 4 _ rfl)); (try (try simp only [show (k39).sz = 9 from rfl, Nat.mul_one, Nat.add_zero] at hx21_4)); (try (have hf21_4 := hfr21 4)); (try (try simp only [show (k39).sz = 9 from rfl, Nat.mul_one, Nat.add_zero] at hf21_4)); (try (have hx21_5 := hcc21 5 _ rfl)); (try (try simp only [show (k39).sz = 9 from rfl, Nat.mul_one, Nat.add_zero] at hx21_5)); (try (have hf21_5 := hfr21 5)); (try (try simp only [show (k39).sz = 9 from rfl, Nat.mul_one, Nat.add_zero] at hf21_5)); (try (have hx21_6 := hcc21 6 _ rfl)); (try (try simp only [show (k39).sz = 9 from rfl, Nat.mul_one, Nat.add_zero] at hx21_6)); (try (have hf21_6 := hfr21 6)); (try (try simp only [show (k39).sz = 9 from rfl, Nat.mul_one, Nat.add_zero] at hf21_6)); (try (have hx21_7 := hcc21 7 _ rfl)); (try (try simp only [show (k39).sz = 9 from rfl, Nat.mul_one, Nat.add_zero] at hx21_7)); (try (have hf21_7 := hfr21 7)); (try (try simp only [show (k39).sz = 9 from rfl, Nat.mul_one, Nat.add_zero] at hf21_7)); (try (have hx21_8 := hcc21 8 _ rfl)); (try (try simp only [show (k39).sz = 9 from rfl, Nat.mul_one, Nat.add_zero] at hx21_8)); (try (have hf21_8 := hfr21 8)); (try (try simp only [show (k39).sz = 9 from rfl, Nat.mul_one, Nat.add_zero] at hf21_8)); (try (clear hcl21 hcc21 hfr21 hM21)))); refine store_event (t := 39) (p := 62) (v := ?vo_w22) (w1 := (((((((((wr.setCell ⟨go20, (x9_2 : Int).toNat * 9, none⟩ (.int .i64 ((rd_T39 l0 x10_3).f0.f0))).setCell ⟨go20, (x9_2 : Int).toNat * 9 + 1, none⟩ (.int .i64 ((rd_T39 l0 x10_3).f0.f1))).setCell ⟨go20, (x9_2 : Int).toNat * 9 + 2, none⟩ (.int .i64 ((rd_T39 l0 x10_3).f0.f2))).setCell ⟨go20, (x9_2 : Int).toNat * 9 + 3, none⟩ (.bool ((rd_T39 l0 x10_3).f0.f3))).setCell ⟨go20, (x9_2 : Int).toNat * 9 + 4, none⟩ (.int .i64 ((rd_T39 l0 x10_3).f0.f4))).setCell ⟨go20, (x9_2 : Int).toNat * 9 + 5, none⟩ (.int .i64 ((rd_T39 l0 x10_3).f0.f5))).setCell ⟨go20, (x9_2 : Int).toNat * 9 + 6, none⟩ (.int .i64 ((rd_T39 l0 x10_3).f1))).setCell ⟨go20, (x9_2 : Int).toNat * 9 + 7, none⟩ (.int .i64 ((rd_T39 l0 x10_3).f2))).setCell ⟨go20, (x9_2 : Int).toNat * 9 + 8, none⟩ (.int .i64 ((rd_T39 l0 x10_3).f3)))) ?hg ?ho ?hn ?hr ?_; (case ho => rfl); (case hg => rfl); (case hn => rfl); (case hr => first | (go_simp; done) | (go_simp; rfl)); intro w22 hw; have hg : wr.grownBy w22 (some go20) := (by rw [hw]; exact HP21.2); have hp_ : Kd.R k39 39 w22 w.heap.size (fun _ => True) (.slice (some ⟨go20, 0, none⟩) x6_3.length co12) y268 := (by rw [hw, Ny268.out]; exact HP21.1); clear HP21; have n0_ := Aside0.mk (hp_); have n1_ := Aside0.mk ((by rw [hw]; exact below_set (below_set (below_set (below_set (below_set (below_set (below_set (below_set (below_set (HB.out) GB20.out) GB20.out) GB20.out) GB20.out) GB20.out) GB20.out) GB20.out) GB20.out) GB20.out : Below w.heap.size w w22)); clear HO_6; clear HB; have HO_6 := n0_; have HB := n1_; clear n0_ n1_; clear hg hw hp_)))
                                (try simp only [← hl6_3])
                                go_roundg k3
                                case measure => have := HK1.out; have := HK2.out; have := HK3.out; omega
                                case rel => exact ⟨(y268), (wrap64 (x10_3 + 1)), (by first | rfl | (simp; done) | (simp [*]; done)), H', ⟨by have := HK1.out; have := HK2.out; have := HK3.out; omega⟩, ⟨by (try simp only [hl6_2]); (try simp only [hl6_3]); (with_reducible repeat (first | apply Kd.R_alloc | apply Kd.R_drewN | apply Kd.R_drew)); exact HO_6.out⟩, ⟨by repeat (first | (with_reducible first | exact HB.out | apply below_alloc | apply pw_below_drewN | apply below_drew1) | exact HB.out)⟩⟩
                              · rw [if_neg c19] at H
                                have c19b0 : (((rd_T39 l0 x10_3).f0.f0) == ((rd_T39 x6_3 x9_2).f0.f0) && (((rd_T39 l0 x10_3).f0.f1) == ((rd_T39 x6_3 x9_2).f0.f1) && (((rd_T39 l0 x10_3).f0.f2) == ((rd_T39 x6_3 x9_2).f0.f2) && (((rd_T39 l0 x10_3).f0.f3) == ((rd_T39 x6_3 x9_2).f0.f3) && (((rd_T39 l0 x10_3).f0.f4) == ((rd_T39 x6_3 x9_2).f0.f4) && (((rd_T39 l0 x10_3).f0.f5) == ((rd_T39 x6_3 x9_2).f0.f5))))))) = false := by simpa using c19
                                (try (have c19b1 : decide (((rd_T39 l0 x10_3).f0.f0) = ((rd_T39 x6_3 x9_2).f0.f0) && (((rd_T39 l0 x10_3).f0.f1) == ((rd_T39 x6_3 x9_2).f0.f1) && (((rd_T39 l0 x10_3).f0.f2) == ((rd_T39 x6_3 x9_2).f0.f2) && (((rd_T39 l0 x10_3).f0.f3) == ((rd_T39 x6_3 x9_2).f0.f3) && (((rd_T39 l0 x10_3).f0.f4) == ((rd_T39 x6_3 x9_2).f0.f4) && (((rd_T39 l0 x10_3).f0.f5) == ((rd_T39 x6_3 x9_2).f0.f5))))))) = false := by simpa using c19))
                                (try (have c19b2 : (((rd_T39 l0 x10_3).f0.f0) == ((rd_T39 x6_3 x9_2).f0.f0) && (((rd_T39 l0 x10_3).f0.f1) == ((rd_T39 x6_3 x9_2).f0.f1) && (((rd_T39 l0 x10_3).f0.f2) == ((rd_T39 x6_3 x9_2).f0.f2) && (((rd_T39 l0 x10_3).f0.f3) == ((rd_T39 x6_3 x9_2).f0.f3) && (((rd_T39 l0 x10_3).f0.f4) == ((rd_T39 x6_3 x9_2).f0.f4) && (((rd_T39 l0 x10_3).f0.f5) == ((rd_T39 x6_3 x9_2).f0.f5))))))) = false := by simpa using c19))
                                (try (have c19b3 : ¬ (((rd_T39 l0 x10_3).f0.f0) = ((rd_T39 x6_3 x9_2).f0.f0) && (((rd_T39 l0 x10_3).f0.f1) == ((rd_T39 x6_3 x9_2).f0.f1) && (((rd_T39 l0 x10_3).f0.f2) == ((rd_T39 x6_3 x9_2).f0.f2) && (((rd_T39 l0 x10_3).f0.f3) == ((rd_T39 x6_3 x9_2).f0.f3) && (((rd_T39 l0 x10_3).f0.f4) == ((rd_T39 x6_3 x9_2).f0.f4) && (((rd_T39 l0 x10_3).f0.f5) == ((rd_T39 x6_3 x9_2).f0.f5))))))) := by simpa using c19))
                                clear c19
                                have H' := Aside0.mk H
                                clear H
                                have p265 : 0 ≤ (x10_3 : Int) := of_decide_eq_true (by first | (with_reducible assumption) | assumption)
                                have q265 : x10_3 < (l0.length : Int) := of_decide_eq_true (by first | (with_reducible assumption) | assumption)
                                obtain ⟨ad265, e265, hx265_0, hx265_1, hx265_2, hx265_3, hx265_4, hx265_5, hx265_6, hx265_7, hx265_8⟩ := at_T39 HR0.out x10_3 p265 q265
                                cases e265
                                replace hx265_0 := (HB.out.cell (World.block_lt_of_cell? w _ hx265_0)).trans hx265_0
                                replace hx265_1 := (HB.out.cell (World.block_lt_of_cell? w _ hx265_1)).trans hx265_1
                                replace hx265_2 := (HB.out.cell (World.block_lt_of_cell? w _ hx265_2)).trans hx265_2
                                replace hx265_3 := (HB.out.cell (World.block_lt_of_cell? w _ hx265_3)).trans hx265_3
                                replace hx265_4 := (HB.out.cell (World.block_lt_of_cell? w _ hx265_4)).trans hx265_4
                                replace hx265_5 := (HB.out.cell (World.block_lt_of_cell? w _ hx265_5)).trans hx265_5
                                replace hx265_6 := (HB.out.cell (World.block_lt_of_cell? w _ hx265_6)).trans hx265_6
                                replace hx265_7 := (HB.out.cell (World.block_lt_of_cell? w _ hx265_7)).trans hx265_7
                                replace hx265_8 := (HB.out.cell (World.block_lt_of_cell? w _ hx265_8)).trans hx265_8
                                replace p265 := eq_true p265
                                replace q265 := eq_true q265
                                have p266 : 0 ≤ (x9_2 : Int) := of_decide_eq_true (by first | (with_reducible assumption) | assumption)
                                have q266 : x9_2 < (x6_3.length : Int) := of_decide_eq_true (by first | (with_reducible assumption) | assumption)
                                obtain ⟨ad266, e266, hx266_0, hx266_1, hx266_2, hx266_3, hx266_4, hx266_5, hx266_6, hx266_7, hx266_8⟩ := at_T39 (Kd.R_reads' HO_6.out).2.2 x9_2 p266 q266
                                cases e266
                                replace p266 := eq_true p266
                                replace q266 := eq_true q266
                                go_wp2
                                repeat (go_quiet (fail); try go_wp2)
                                (try simp only [← hl6_3])
                                go_roundg k3
                                case measure => have := HK1.out; have := HK2.out; have := HK3.out; omega
                                case rel => exact ⟨(x6_3), (wrap64 (x10_3 + 1)), (by first | rfl | (simp; done) | (simp [*]; done)), H', ⟨by have := HK1.out; have := HK2.out; have := HK3.out; omega⟩, ⟨by (try simp only [hl6_2]); (try simp only [hl6_3]); (with_reducible repeat (first | apply Kd.R_alloc | apply Kd.R_drewN | apply Kd.R_drew)); exact HO_6.out⟩, ⟨by repeat (first | (with_reducible first | exact HB.out | apply below_alloc | apply pw_below_drewN | apply below_drew1) | exact HB.out)⟩⟩
                            · rw [if_neg c18] at H
                              exact absurd H (by simp)
                          · rw [if_neg c17] at H
                            exact absurd H (by simp)
                        · rw [if_neg c16] at H
                          exact absurd H (by simp)
                      · rw [if_neg c15] at H
                        have c15b0 : decide (x10_3 < (l0.length : Int)) = false := decide_eq_false c15
                        clear c15
                        have H' := Aside0.mk H
                        clear H
                        go_wp2
                        repeat (go_quiet (fail); try go_wp2)
                        (try simp only [← hl6_2, ← hl6_3])
                        go_roundg k3
                        case measure => have := HK1.out; have := HK2.out; have := HK3.out; omega
                        case rel => exact ⟨(x6_3), (wrap64 (x9_2 + 1)), (by first | rfl | (simp; done) | (simp [*]; done)), H', ⟨by have := HK1.out; have := HK2.out; have := HK3.out; omega⟩, ⟨by (try simp only [hl6_2]); (try simp only [hl6_3]); (with_reducible repeat (first | apply Kd.R_alloc | apply Kd.R_drewN | apply Kd.R_drew)); exact HO_6.out⟩, ⟨by repeat (first | (with_reducible first | exact HB.out | apply below_alloc | apply pw_below_drewN | apply below_drew1) | exact HB.out)⟩⟩
                · rw [if_neg c14] at H
                  have c14b0 : decide (x9_2 < (x6_2.length : Int)) = false := decide_eq_false c14
                  clear c14
                  simp only [Option.some.injEq, Prod.mk.injEq] at H
                  obtain ⟨rfl, rfl⟩ := H
                  go_wp2
                  repeat (go_quiet (fail); try go_wp2)
                  go_ret2
                  exact ⟨_, by first | rfl | (simp [errW_none, errW_some] <;> rfl) | (simp [*, errW_none, errW_some] <;> rfl), by (with_reducible repeat (first | apply Kd.R_alloc | apply Kd.R_drewN | apply Kd.R_drew)); exact HO_6.out, by repeat (first | (with_reducible first | exact HB.out | apply below_alloc | apply pw_below_drewN | apply below_drew1) | exact HB.out)⟩
          · rw [if_neg c11] at H
            have c11b0 : (t264 == 0) = false := beq_eq_false_iff_ne.mpr c11
            have c11b1 : (t264 != 0) = true := bne_iff_ne.mpr c11
            simp only [Option.some.injEq, Prod.mk.injEq] at H
            obtain ⟨rfl, rfl⟩ := H
            obtain ⟨Ao23, co23, eo23⟩ := Kd.R_slice HO_6.out
            subst eo23
            go_wp2_with (first | (go_at_call 32; (with_reducible refine (hopmeshref29_Check.calls _ _ x6_1 t264 _ ?side1 ?side2 A10.out).mono ?_); (case side1 => repeat (first | exact (Kd.R_reads' HO_6.out).2.2 | (with_reducible refine Kd.C_alloc ?_ _) | (with_reducible refine Kd.C_drewN ?_ _) | (with_reducible refine Kd.C_drew ?_))); (case side2 => exact (Kd.R_reads' HO_6.out).2.1); rintro e w24 ⟨rfl, hb⟩; have n0_ := Aside0.mk (Kd.R_below (by (with_reducible repeat (first | apply Kd.R_alloc | apply Kd.R_drewN | apply Kd.R_drew)); exact HO_6.out) hb); have n1_ := Aside0.mk (below_step (by repeat (first | (with_reducible first | exact HB.out | apply below_alloc | apply pw_below_drewN | apply below_drew1) | exact HB.out)) hb); clear HO_6; clear HB; have HO_6 := n0_; have HB := n1_; clear n0_ n1_; (try clear hb); (try clear hb2); (try clear hk); (try clear hi)))
            repeat (go_quiet (first | (go_at_call 32; (with_reducible refine (hopmeshref29_Check.calls _ _ x6_1 t264 _ ?side1 ?side2 A10.out).mono ?_); (case side1 => repeat (first | exact (Kd.R_reads' HO_6.out).2.2 | (with_reducible refine Kd.C_alloc ?_ _) | (with_reducible refine Kd.C_drewN ?_ _) | (with_reducible refine Kd.C_drew ?_))); (case side2 => exact (Kd.R_reads' HO_6.out).2.1); rintro e w24 ⟨rfl, hb⟩; have n0_ := Aside0.mk (Kd.R_below (by (with_reducible repeat (first | apply Kd.R_alloc | apply Kd.R_drewN | apply Kd.R_drew)); exact HO_6.out) hb); have n1_ := Aside0.mk (below_step (by repeat (first | (with_reducible first | exact HB.out | apply below_alloc | apply pw_below_drewN | apply below_drew1) | exact HB.out)) hb); clear HO_6; clear HB; have HO_6 := n0_; have HB := n1_; clear n0_ n1_; (try clear hb); (try clear hb2); (try clear hk); (try clear hi))); try go_wp2_with (first | (go_at_call 32; (with_reducible refine (hopmeshref29_Check.calls _ _ x6_1 t264 _ ?side1 ?side2 A10.out).mono ?_); (case side1 => repeat (first | exact (Kd.R_reads' HO_6.out).2.2 | (with_reducible refine Kd.C_alloc ?_ _) | (with_reducible refine Kd.C_drewN ?_ _) | (with_reducible refine Kd.C_drew ?_))); (case side2 => exact (Kd.R_reads' HO_6.out).2.1); rintro e w24 ⟨rfl, hb⟩; have n0_ := Aside0.mk (Kd.R_below (by (with_reducible repeat (first | apply Kd.R_alloc | apply Kd.R_drewN | apply Kd.R_drew)); exact HO_6.out) hb); have n1_ := Aside0.mk (below_step (by repeat (first | (with_reducible first | exact HB.out | apply below_alloc | apply pw_below_drewN | apply below_drew1) | exact HB.out)) hb); clear HO_6; clear HB; have HO_6 := n0_; have HB := n1_; clear n0_ n1_; (try clear hb); (try clear hb2); (try clear hk); (try clear hi))))
            go_ret2
            exact ⟨_, by first | rfl | (simp [errW_none, errW_some] <;> rfl) | (simp [*, errW_none, errW_some] <;> rfl), by first | exact Kd.R_nil _ _ _ _ _ | exact Kd.N_nil _ _ _ _ _ | exact Kd.V_nil _ _ _ _ _ | exact Kd.Q_nil _ _ _ _ _ | exact Kd.S_nil _ _ _ _ _, by repeat (first | (with_reducible first | exact HB.out | apply below_alloc | apply pw_below_drewN | apply below_drew1) | exact HB.out)⟩
  · rw [if_neg c4] at H
    have c4b0 : (t259 == 0) = false := beq_eq_false_iff_ne.mpr c4
    have c4b1 : (t259 != 0) = true := bne_iff_ne.mpr c4
    simp only [Option.some.injEq, Prod.mk.injEq] at H
    obtain ⟨rfl, rfl⟩ := H
    go_enter Try.func26, Try.ntmps26
    go_wp2_with (first | (go_at_call 32; (with_reducible refine (hopmeshref29_Check.calls _ _ l0 t259 _ ?side1 ?side2 A3.out).mono ?_); (case side1 => repeat (first | exact HR0.out | (with_reducible refine Kd.C_alloc ?_ _) | (with_reducible refine Kd.C_drewN ?_ _) | (with_reducible refine Kd.C_drew ?_))); (case side2 => exact HC0.out); rintro e w25 ⟨rfl, hb⟩; have n0_ := Aside0.mk (below_step (by repeat (first | (with_reducible first | exact HB.out | apply below_alloc | apply pw_below_drewN | apply below_drew1) | exact HB.out)) hb); clear HB; have HB := n0_; clear n0_; (try clear hb); (try clear hb2); (try clear hk); (try clear hi)))
    repeat (go_quiet (first | (go_at_call 32; (with_reducible refine (hopmeshref29_Check.calls _ _ l0 t259 _ ?side1 ?side2 A3.out).mono ?_); (case side1 => repeat (first | exact HR0.out | (with_reducible refine Kd.C_alloc ?_ _) | (with_reducible refine Kd.C_drewN ?_ _) | (with_reducible refine Kd.C_drew ?_))); (case side2 => exact HC0.out); rintro e w25 ⟨rfl, hb⟩; have n0_ := Aside0.mk (below_step (by repeat (first | (with_reducible first | exact HB.out | apply below_alloc | apply pw_below_drewN | apply below_drew1) | exact HB.out)) hb); clear HB; have HB := n0_; clear n0_; (try clear hb); (try clear hb2); (try clear hk); (try clear hi))); try go_wp2_with (first | (go_at_call 32; (with_reducible refine (hopmeshref29_Check.calls _ _ l0 t259 _ ?side1 ?side2 A3.out).mono ?_); (case side1 => repeat (first | exact HR0.out | (with_reducible refine Kd.C_alloc ?_ _) | (with_reducible refine Kd.C_drewN ?_ _) | (with_reducible refine Kd.C_drew ?_))); (case side2 => exact HC0.out); rintro e w25 ⟨rfl, hb⟩; have n0_ := Aside0.mk (below_step (by repeat (first | (with_reducible first | exact HB.out | apply below_alloc | apply pw_below_drewN | apply below_drew1) | exact HB.out)) hb); clear HB; have HB := n0_; clear n0_; (try clear hb); (try clear hb2); (try clear hk); (try clear hi))))
    go_ret2
    exact ⟨_, by first | rfl | (simp [errW_none, errW_some] <;> rfl) | (simp [*, errW_none, errW_some] <;> rfl), by first | exact Kd.R_nil _ _ _ _ _ | exact Kd.N_nil _ _ _ _ _ | exact Kd.V_nil _ _ _ _ _ | exact Kd.Q_nil _ _ _ _ _ | exact Kd.S_nil _ _ _ _ _, by repeat (first | (with_reducible first | exact HB.out | apply below_alloc | apply pw_below_drewN | apply below_drew1) | exact HB.out)⟩

end Go.Proofs.Ytfbekkmmafkmpaa.PX
