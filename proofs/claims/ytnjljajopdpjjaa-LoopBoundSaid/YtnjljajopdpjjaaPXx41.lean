-- Written by wip/xprint.py, a program of this claim's own, over the kit's print program. Lean checks it.
import Derived.Test.YtnjljajopdpjjaaPXx0
import Derived.Test.YtnjljajopdpjjaaPXx12
import Derived.Test.YtnjljajopdpjjaaPXx14
import Derived.Test.YtnjljajopdpjjaaPXx26
import Derived.Test.YtnjljajopdpjjaaPXx31
namespace Go.Proofs.Ytnjljajopdpjjaa.PX
open Go.RowKit Go.Proofs.YtnjljajopdpjjaaW.PrintWords Go.Proofs.YtnjljajopdpjjaaW.PrintLast Go.Proofs.YtnjljajopdpjjaaW.PrintMore
attribute [local go_sem] max2_int min2_int max_two min_two max_three min_three max_four min_four   -- for this text's walks alone
set_option linter.unusedVariables false
set_option linter.unusedSimpArgs false

/-! ### hopmeshlaw50_LoopBound: function 9 -/
mutual
def hopmeshlaw50_LoopBound.j0 : Nat → Int → List Int → List Int → Bool → Int → Int → Int → Int → Int → Int → Int → Int → Int → Option (Bool)
  | 0, _, _, _, _, _, _, _, _, _, _, _, _, _ => none
  | k + 1, x2, x3, x4, x37, x401000, x401001, x401002, x401003, x401004, x401005, x401006, x402000, x402001 => if x37 = true then ((hopmeshlaw50_awake.f k).bind fun t403 => (some t403)) else ((loop_Worst.f x401000 x401001 x401002 x401003 x401004 x401005 x401006 x402000 x402001).bind fun bt404 => (if bt404.2 = 0 then ((hopmeshlaw50_deliver.f x401000 x401001 x401002 x401003 x401004 x401005 x401006 x402000 x402001 (wrap64 (1 + (wrap64 (Int.tmod x2 8)))) x3 x4).bind fun t406 => ((loop_Ages.f k x401000 x401001 x401002 x401003 x401004 x401005 x401006 x402000 x402001 t406 (wrap64 ((wrap64 ((wrap64 (x401005 + (wrap64 ((wrap64 ((wrap64 (1 + (wrap64 (Int.tmod x2 8)))) - 1)) * x401004)))) + bt404.1)) + 1))).bind fun bt409 => (if bt409.2 = 0 then (hopmeshlaw50_LoopBound.j1 k x3 x4 bt404.1 (wrap64 (1 + (wrap64 (Int.tmod x2 8)))) (wrap64 ((wrap64 ((wrap64 (x401005 + (wrap64 ((wrap64 ((wrap64 (1 + (wrap64 (Int.tmod x2 8)))) - 1)) * x401004)))) + bt404.1)) + 1)) bt409.1 ((bt409.1.length : Int) != (wrap64 ((wrap64 ((wrap64 (x401005 + (wrap64 ((wrap64 ((wrap64 (1 + (wrap64 (Int.tmod x2 8)))) - 1)) * x401004)))) + bt404.1)) + 1))) x401000 x401001 x401002 x401003 x401004 x401005 x401006 x402000 x402001) else (hopmeshlaw50_LoopBound.j1 k x3 x4 bt404.1 (wrap64 (1 + (wrap64 (Int.tmod x2 8)))) (wrap64 ((wrap64 ((wrap64 (x401005 + (wrap64 ((wrap64 ((wrap64 (1 + (wrap64 (Int.tmod x2 8)))) - 1)) * x401004)))) + bt404.1)) + 1)) bt409.1 true x401000 x401001 x401002 x401003 x401004 x401005 x401006 x402000 x402001)))) else (some (bt404.1 == 0))))
def hopmeshlaw50_LoopBound.j1 : Nat → List Int → List Int → Int → Int → Int → List Int → Bool → Int → Int → Int → Int → Int → Int → Int → Int → Int → Option (Bool)
  | 0, _, _, _, _, _, _, _, _, _, _, _, _, _, _, _, _ => none
  | k + 1, x3, x4, x11, x13, x14, x15, x84, x401000, x401001, x401002, x401003, x401004, x401005, x401006, x402000, x402001 => if x84 = true then (none) else (hopmeshlaw50_LoopBound.l0 k x3 x4 x11 x13 x14 x15 (x15.length : Int) 0 x401000 x401001 x401002 x401003 x401004 x401005 x401006 x402000 x402001)
def hopmeshlaw50_LoopBound.l0 : Nat → List Int → List Int → Int → Int → Int → List Int → Int → Int → Int → Int → Int → Int → Int → Int → Int → Int → Int → Option (Bool)
  | 0, _, _, _, _, _, _, _, _, _, _, _, _, _, _, _, _, _ => none
  | k + 1, x3, x4, x11, x13, x14, x85, x86, x87, x401000, x401001, x401002, x401003, x401004, x401005, x401006, x402000, x402001 => if x87 < x86 then (if 0 ≤ x87 then (if x87 < (x85.length : Int) then (if (rd x85 x87) > x11 then (none) else (if (rd x85 x87) < 0 then (if x87 ≥ (wrap64 ((wrap64 (x401005 + x402000)) + x402001)) then (none) else (hopmeshlaw50_LoopBound.l0 k x3 x4 x11 x13 x14 x85 x86 (wrap64 (x87 + 1)) x401000 x401001 x401002 x401003 x401004 x401005 x401006 x402000 x402001)) else (hopmeshlaw50_LoopBound.l0 k x3 x4 x11 x13 x14 x85 x86 (wrap64 (x87 + 1)) x401000 x401001 x401002 x401003 x401004 x401005 x401006 x402000 x402001))) else (none)) else (none)) else ((hopmeshlaw50_deliver.f x401000 x401001 x401002 x401003 x401004 x401005 x401006 x402000 x402001 x13 x3 x4).bind fun t414 => ((loop_Late.f k x401000 x401001 x401002 x401003 x401004 x401005 x401006 x402000 x402001 t414 x14).bind fun bt417 => (if bt417.2 = 0 then (some ((bt417.1.length : Int) == 0)) else (none))))
end
def hopmeshlaw50_LoopBound.f (k : Nat) (a0_0 : Int) (a0_1 : Int) (a0_2 : Int) (a0_3 : Int) (a0_4 : Int) (a0_5 : Int) (a0_6 : Int) (a1_0 : Int) (a1_1 : Int) (a2 : Int) (l3 : List Int) (l4 : List Int) : Option (Bool) := (hopmeshlaw50_awake.f k).bind fun t402 => (if t402 = true then (if (l3.length : Int) > 10 then (hopmeshlaw50_LoopBound.j0 k a2 l3 l4 true a0_0 a0_1 a0_2 a0_3 a0_4 a0_5 a0_6 a1_0 a1_1) else (if (l4.length : Int) > 10 then (hopmeshlaw50_LoopBound.j0 k a2 l3 l4 true a0_0 a0_1 a0_2 a0_3 a0_4 a0_5 a0_6 a1_0 a1_1) else (hopmeshlaw50_LoopBound.j0 k a2 l3 l4 (decide (a0_4 > 30)) a0_0 a0_1 a0_2 a0_3 a0_4 a0_5 a0_6 a1_0 a1_1))) else (hopmeshlaw50_LoopBound.j0 k a2 l3 l4 true a0_0 a0_1 a0_2 a0_3 a0_4 a0_5 a0_6 a1_0 a1_1))
theorem hopmeshlaw50_LoopBound.mono_l : ∀ k, (∀ y0 y1 y2 y3 y4 y5 y6 y7 y8 y9 y10 y11 y12, LeO (hopmeshlaw50_LoopBound.j0 k y0 y1 y2 y3 y4 y5 y6 y7 y8 y9 y10 y11 y12) (hopmeshlaw50_LoopBound.j0 (k + 1) y0 y1 y2 y3 y4 y5 y6 y7 y8 y9 y10 y11 y12)) ∧ (∀ y0 y1 y2 y3 y4 y5 y6 y7 y8 y9 y10 y11 y12 y13 y14 y15, LeO (hopmeshlaw50_LoopBound.j1 k y0 y1 y2 y3 y4 y5 y6 y7 y8 y9 y10 y11 y12 y13 y14 y15) (hopmeshlaw50_LoopBound.j1 (k + 1) y0 y1 y2 y3 y4 y5 y6 y7 y8 y9 y10 y11 y12 y13 y14 y15)) ∧ (∀ y0 y1 y2 y3 y4 y5 y6 y7 y8 y9 y10 y11 y12 y13 y14 y15 y16, LeO (hopmeshlaw50_LoopBound.l0 k y0 y1 y2 y3 y4 y5 y6 y7 y8 y9 y10 y11 y12 y13 y14 y15 y16) (hopmeshlaw50_LoopBound.l0 (k + 1) y0 y1 y2 y3 y4 y5 y6 y7 y8 y9 y10 y11 y12 y13 y14 y15 y16))
  | 0 => ⟨fun _ _ _ _ _ _ _ _ _ _ _ _ _ r h => by simp [hopmeshlaw50_LoopBound.j0] at h, fun _ _ _ _ _ _ _ _ _ _ _ _ _ _ _ _ r h => by simp [hopmeshlaw50_LoopBound.j1] at h, fun _ _ _ _ _ _ _ _ _ _ _ _ _ _ _ _ _ r h => by simp [hopmeshlaw50_LoopBound.l0] at h⟩
  | k + 1 => by
    obtain ⟨ih0, ih1, ih2⟩ := hopmeshlaw50_LoopBound.mono_l k
    refine ⟨?_, ?_, ?_⟩
    · intro y0 y1 y2 y3 y4 y5 y6 y7 y8 y9 y10 y11 y12
      unfold hopmeshlaw50_LoopBound.j0
      repeat' first
      | (with_reducible exact ih0 _ _ _ _ _ _ _ _ _ _ _ _ _)
      | (with_reducible exact ih1 _ _ _ _ _ _ _ _ _ _ _ _ _ _ _ _)
      | (with_reducible exact ih2 _ _ _ _ _ _ _ _ _ _ _ _ _ _ _ _ _)
      | (with_reducible exact hopmeshlaw50_awake.mono _)
      | (with_reducible exact loop_Ages.mono _ _ _ _ _ _ _ _ _ _ _ _)
      | (with_reducible exact loop_Late.mono _ _ _ _ _ _ _ _ _ _ _ _)
      | (with_reducible exact LeO.refl _)
      | (with_reducible exact LeO.none _)
      | (with_reducible refine LeO.ite ?_ ?_)
      | (with_reducible refine LeO.bind ?_ (fun _ => ?_))
      | exact ih0 _ _ _ _ _ _ _ _ _ _ _ _ _
      | exact ih1 _ _ _ _ _ _ _ _ _ _ _ _ _ _ _ _
      | exact ih2 _ _ _ _ _ _ _ _ _ _ _ _ _ _ _ _ _
      | exact hopmeshlaw50_awake.mono _
      | exact loop_Ages.mono _ _ _ _ _ _ _ _ _ _ _ _
      | exact loop_Late.mono _ _ _ _ _ _ _ _ _ _ _ _
      | exact LeO.none _
      | refine LeO.ite ?_ ?_
      | refine LeO.bind ?_ (fun _ => ?_)
    · intro y0 y1 y2 y3 y4 y5 y6 y7 y8 y9 y10 y11 y12 y13 y14 y15
      unfold hopmeshlaw50_LoopBound.j1
      repeat' first
      | (with_reducible exact ih0 _ _ _ _ _ _ _ _ _ _ _ _ _)
      | (with_reducible exact ih1 _ _ _ _ _ _ _ _ _ _ _ _ _ _ _ _)
      | (with_reducible exact ih2 _ _ _ _ _ _ _ _ _ _ _ _ _ _ _ _ _)
      | (with_reducible exact hopmeshlaw50_awake.mono _)
      | (with_reducible exact loop_Ages.mono _ _ _ _ _ _ _ _ _ _ _ _)
      | (with_reducible exact loop_Late.mono _ _ _ _ _ _ _ _ _ _ _ _)
      | (with_reducible exact LeO.refl _)
      | (with_reducible exact LeO.none _)
      | (with_reducible refine LeO.ite ?_ ?_)
      | (with_reducible refine LeO.bind ?_ (fun _ => ?_))
      | exact ih0 _ _ _ _ _ _ _ _ _ _ _ _ _
      | exact ih1 _ _ _ _ _ _ _ _ _ _ _ _ _ _ _ _
      | exact ih2 _ _ _ _ _ _ _ _ _ _ _ _ _ _ _ _ _
      | exact hopmeshlaw50_awake.mono _
      | exact loop_Ages.mono _ _ _ _ _ _ _ _ _ _ _ _
      | exact loop_Late.mono _ _ _ _ _ _ _ _ _ _ _ _
      | exact LeO.none _
      | refine LeO.ite ?_ ?_
      | refine LeO.bind ?_ (fun _ => ?_)
    · intro y0 y1 y2 y3 y4 y5 y6 y7 y8 y9 y10 y11 y12 y13 y14 y15 y16
      unfold hopmeshlaw50_LoopBound.l0
      repeat' first
      | (with_reducible exact ih0 _ _ _ _ _ _ _ _ _ _ _ _ _)
      | (with_reducible exact ih1 _ _ _ _ _ _ _ _ _ _ _ _ _ _ _ _)
      | (with_reducible exact ih2 _ _ _ _ _ _ _ _ _ _ _ _ _ _ _ _ _)
      | (with_reducible exact hopmeshlaw50_awake.mono _)
      | (with_reducible exact loop_Ages.mono _ _ _ _ _ _ _ _ _ _ _ _)
      | (with_reducible exact loop_Late.mono _ _ _ _ _ _ _ _ _ _ _ _)
      | (with_reducible exact LeO.refl _)
      | (with_reducible exact LeO.none _)
      | (with_reducible refine LeO.ite ?_ ?_)
      | (with_reducible refine LeO.bind ?_ (fun _ => ?_))
      | exact ih0 _ _ _ _ _ _ _ _ _ _ _ _ _
      | exact ih1 _ _ _ _ _ _ _ _ _ _ _ _ _ _ _ _
      | exact ih2 _ _ _ _ _ _ _ _ _ _ _ _ _ _ _ _ _
      | exact hopmeshlaw50_awake.mono _
      | exact loop_Ages.mono _ _ _ _ _ _ _ _ _ _ _ _
      | exact loop_Late.mono _ _ _ _ _ _ _ _ _ _ _ _
      | exact LeO.none _
      | refine LeO.ite ?_ ?_
      | refine LeO.bind ?_ (fun _ => ?_)
theorem hopmeshlaw50_LoopBound.mono : ∀ a0 a1 a2 a3 a4 a5 a6 a7 a8 a9 a10 a11 k, LeO (hopmeshlaw50_LoopBound.f k a0 a1 a2 a3 a4 a5 a6 a7 a8 a9 a10 a11) (hopmeshlaw50_LoopBound.f (k + 1) a0 a1 a2 a3 a4 a5 a6 a7 a8 a9 a10 a11) := by
  intro a0 a1 a2 a3 a4 a5 a6 a7 a8 a9 a10 a11 k
  obtain ⟨ih0, ih1, ih2⟩ := hopmeshlaw50_LoopBound.mono_l k
  unfold hopmeshlaw50_LoopBound.f
  repeat' first
      | (with_reducible exact ih0 _ _ _ _ _ _ _ _ _ _ _ _ _)
      | (with_reducible exact ih1 _ _ _ _ _ _ _ _ _ _ _ _ _ _ _ _)
      | (with_reducible exact ih2 _ _ _ _ _ _ _ _ _ _ _ _ _ _ _ _ _)
      | (with_reducible exact hopmeshlaw50_awake.mono _)
      | (with_reducible exact loop_Ages.mono _ _ _ _ _ _ _ _ _ _ _ _)
      | (with_reducible exact loop_Late.mono _ _ _ _ _ _ _ _ _ _ _ _)
      | (with_reducible exact LeO.refl _)
      | (with_reducible exact LeO.none _)
      | (with_reducible refine LeO.ite ?_ ?_)
      | (with_reducible refine LeO.bind ?_ (fun _ => ?_))
      | exact ih0 _ _ _ _ _ _ _ _ _ _ _ _ _
      | exact ih1 _ _ _ _ _ _ _ _ _ _ _ _ _ _ _ _
      | exact ih2 _ _ _ _ _ _ _ _ _ _ _ _ _ _ _ _ _
      | exact hopmeshlaw50_awake.mono _
      | exact loop_Ages.mono _ _ _ _ _ _ _ _ _ _ _ _
      | exact loop_Late.mono _ _ _ _ _ _ _ _ _ _ _ _
      | exact LeO.none _
      | refine LeO.ite ?_ ?_
      | refine LeO.bind ?_ (fun _ => ?_)
def hopmeshlaw50_LoopBound.T8 : Bool × List (List Nat × List Nat) := (true, [([], []), ([], []), ([], []), ([], []), ([], []), ([], []), ([], []), ([2, 3, 4, 5, 6], [2, 3, 4, 5, 6]), ([], []), ([0, 1, 7, 8, 7], [0, 1, 7, 8]), ([9], [9]), ([10], [10]), ([10], [10]), ([11, 9, 0, 1, 2, 3, 4, 5, 6, 7, 8, 9, 10, 11], [11]), ([12, 13, 0, 1, 2, 3, 4, 5, 6, 7, 8, 9, 10, 11, 12, 13], [12])])
def hopmeshlaw50_LoopBound.B8 : List Nat := [0, 0, 0, 0, 0, 0, 0, 124, 0, 511, 1023, 2047, 2047, 4095, 16383]
theorem hopmeshlaw50_LoopBound.tab8 : rtab .any (opsOf Try.f9 8) = hopmeshlaw50_LoopBound.T8 := by kernel_rfl
theorem hopmeshlaw50_LoopBound.bits8 : waitsOk hopmeshlaw50_LoopBound.T8.2 hopmeshlaw50_LoopBound.B8 = true := by kernel_rfl
def hopmeshlaw50_LoopBound.T17 : Bool × List (List Nat × List Nat) := (true, [([], []), ([], []), ([], []), ([], []), ([], []), ([], []), ([], []), ([2, 3, 4, 5, 6], [2, 3, 4, 5, 6]), ([], []), ([0, 1, 7, 8, 7], [0, 1, 7, 8]), ([9], [9]), ([10], [10]), ([10], [10]), ([11, 9, 0, 1, 2, 3, 4, 5, 6, 7, 8, 9, 10, 11], [11]), ([12, 13, 0, 1, 2, 3, 4, 5, 6, 7, 8, 9, 10, 11, 12, 13], [12])])
def hopmeshlaw50_LoopBound.B17 : List Nat := [0, 0, 0, 0, 0, 0, 0, 124, 0, 511, 1023, 2047, 2047, 4095, 16383]
theorem hopmeshlaw50_LoopBound.tab17 : rtab .any (opsOf Try.f9 17) = hopmeshlaw50_LoopBound.T17 := by kernel_rfl
theorem hopmeshlaw50_LoopBound.bits17 : waitsOk hopmeshlaw50_LoopBound.T17.2 hopmeshlaw50_LoopBound.B17 = true := by kernel_rfl
set_option maxHeartbeats 8000000 in
set_option maxRecDepth 100000 in
theorem hopmeshlaw50_LoopBound.calls (k : Nat) (a0_0 : Int) (a0_1 : Int) (a0_2 : Int) (a0_3 : Int) (a0_4 : Int) (a0_5 : Int) (a0_6 : Int) (a1_0 : Int) (a1_1 : Int) (a2 : Int) (A3 : Option Addr) (c3 : Nat) (l3 : List Int) (A4 : Option Addr) (c4 : Nat) (l4 : List Int) (r : Bool) (w : World) (hr3 : Kd.C (Kd.int .u8) w A3 l3.length l3) (hc3 : l3.length ≤ c3) (hr4 : Kd.C (Kd.int .u8) w A4 l4.length l4) (hc4 : l4.length ≤ c4) (h : hopmeshlaw50_LoopBound.f k a0_0 a0_1 a0_2 a0_3 a0_4 a0_5 a0_6 a1_0 a1_1 a2 l3 l4 = some r) :
    Calls Try.prog 9 #[.agg #[.int .i64 a0_0, .int .i64 a0_1, .int .i64 a0_2, .int .i64 a0_3, .int .i64 a0_4, .int .i64 a0_5, .int .i64 a0_6], .agg #[.int .i64 a1_0, .int .i64 a1_1], .int .u8 a2, .slice A3 l3.length c3, .slice A4 l4.length c4] w fun e w' => e = .returned (.bool r) ∧ Below w.heap.size w w' := by
  have hu23 := Try.underlying23
  have hu25 := Try.underlying25
  have HR3 := Aside0.mk hr3
  have HC3 := Aside0.mk hc3
  clear hr3 hc3
  have HR4 := Aside0.mk hr4
  have HC4 := Aside0.mk hc4
  clear hr4 hc4
  have HB := Aside0.mk (Below.refl w.heap.size w)
  have H : ((hopmeshlaw50_awake.f k).bind fun t402 => (if t402 = true then (if (l3.length : Int) > 10 then (hopmeshlaw50_LoopBound.j0 k a2 l3 l4 true a0_0 a0_1 a0_2 a0_3 a0_4 a0_5 a0_6 a1_0 a1_1) else (if (l4.length : Int) > 10 then (hopmeshlaw50_LoopBound.j0 k a2 l3 l4 true a0_0 a0_1 a0_2 a0_3 a0_4 a0_5 a0_6 a1_0 a1_1) else (hopmeshlaw50_LoopBound.j0 k a2 l3 l4 (decide (a0_4 > 30)) a0_0 a0_1 a0_2 a0_3 a0_4 a0_5 a0_6 a1_0 a1_1))) else (hopmeshlaw50_LoopBound.j0 k a2 l3 l4 true a0_0 a0_1 a0_2 a0_3 a0_4 a0_5 a0_6 a1_0 a1_1))) = some r := h
  clear h
  have HC6 := Aside0.mk H
  clear H
  go_enter Try.func9, Try.ntmps9
  go_upto_region 1 with (first | ((with_reducible refine gate_dst (N := 5) rfl ?_); (try (refine gate_guard (by rfl) ?_; dsimp only)); refine box_event ?hg (N := 5) ?hd (cs := #[.int .i64 a0_0, .int .i64 a0_1, .int .i64 a0_2, .int .i64 a0_3, .int .i64 a0_4, .int .i64 a0_5, .int .i64 a0_6]) (t := 23) ?hr ?_; (case hd => rfl); (case hg => rfl); (case hr => first | (go_simp; done) | (go_simp; rfl)); intro gb400 hg w7 hbox hb; have n0_ := Aside0.mk (below_step (by repeat (first | (with_reducible first | exact HB.out | apply below_alloc | apply pw_below_drewN | apply below_drew1) | exact HB.out)) hb); have n1_ := Aside0.mk (hbox); have n2_ := Aside0.mk ((by rw [hg]; exact (below_size (by repeat (first | (with_reducible first | exact HB.out | apply below_alloc | apply pw_below_drewN | apply below_drew1) | exact HB.out))) : w.heap.size ≤ gb400)); have n3_ := Aside0.mk ((by rw [hg]; exact (below_size (by repeat (first | (with_reducible first | exact HB.out | apply below_alloc | apply pw_below_drewN | apply below_drew1) | exact HB.out))) : w.heap.size ≤ gb400)); clear HB; have HB := n0_; have BK400 := n1_; have GW400 := n2_; have GE400 := n3_; clear n0_ n1_ n2_ n3_; clear hb hbox hg) | ((with_reducible refine gate_dst (N := 6) rfl ?_); (try (refine gate_guard (by rfl) ?_; dsimp only)); refine box_event ?hg (N := 6) ?hd (cs := #[.int .i64 a1_0, .int .i64 a1_1]) (t := 25) ?hr ?_; (case hd => rfl); (case hg => rfl); (case hr => first | (go_simp; done) | (go_simp; rfl)); intro gb401 hg w8 hbox hb; have n0_ := Aside0.mk (blk_below (g := gb400) (o := .cells #[.int .i64 a0_0, .int .i64 a0_1, .int .i64 a0_2, .int .i64 a0_3, .int .i64 a0_4, .int .i64 a0_5, .int .i64 a0_6] 23 (0, 0)) (by (with_reducible repeat (first | refine blk_drewN ?_ _ | refine blk_drew ?_ | refine blk_alloc ?_ _)); exact BK400.out) hb); have n1_ := Aside0.mk (below_step (by repeat (first | (with_reducible first | exact HB.out | apply below_alloc | apply pw_below_drewN | apply below_drew1 | refine below_set ?_ GE400.out) | exact HB.out)) hb); have n2_ := Aside0.mk (hbox); have n3_ := Aside0.mk ((by rw [hg]; exact (below_size (by repeat (first | (with_reducible first | exact HB.out | apply below_alloc | apply pw_below_drewN | apply below_drew1 | refine below_set ?_ GE400.out) | exact HB.out))) : w.heap.size ≤ gb401)); have n4_ := Aside0.mk ((by rw [hg]; exact (below_size (by repeat (first | (with_reducible first | exact HB.out | apply below_alloc | apply pw_below_drewN | apply below_drew1 | refine below_set ?_ GE400.out) | exact HB.out))) : w.heap.size ≤ gb401)); have n5_ := Aside0.mk ((by rw [hg]; exact Nat.ne_of_lt (blk_lt (g := gb400) (o := .cells #[.int .i64 a0_0, .int .i64 a0_1, .int .i64 a0_2, .int .i64 a0_3, .int .i64 a0_4, .int .i64 a0_5, .int .i64 a0_6] 23 (0, 0)) (by (with_reducible repeat (first | refine blk_drewN ?_ _ | refine blk_drew ?_ | refine blk_alloc ?_ _)); exact BK400.out)) : gb400 ≠ gb401)); have n6_ := Aside0.mk ((by rw [hg]; exact Nat.ne_of_gt (blk_lt (g := gb400) (o := .cells #[.int .i64 a0_0, .int .i64 a0_1, .int .i64 a0_2, .int .i64 a0_3, .int .i64 a0_4, .int .i64 a0_5, .int .i64 a0_6] 23 (0, 0)) (by (with_reducible repeat (first | refine blk_drewN ?_ _ | refine blk_drew ?_ | refine blk_alloc ?_ _)); exact BK400.out)) : gb401 ≠ gb400)); clear BK400; clear HB; have BK400 := n0_; have HB := n1_; have BK401 := n2_; have GW401 := n3_; have GE401 := n4_; have NB400_401 := n5_; have NB401_400 := n6_; clear n0_ n1_ n2_ n3_ n4_ n5_ n6_; clear hb hbox hg))
  (try simp only [Act.put, List.setIfInBounds_toArray, List.set_cons_zero, List.set_cons_succ])
  go_cut [37] (fun v37 wc => ∃ (kq : Nat) (x37_5 : Bool), v37 = .bool x37_5 ∧ Aside0 (hopmeshlaw50_LoopBound.j0 kq a2 l3 l4 x37_5 a0_0 a0_1 a0_2 a0_3 a0_4 a0_5 a0_6 a1_0 a1_1 = some r) ∧ Aside0 (kq ≤ k) ∧ Aside0 (wc.heap[gb400]? = some (.cells #[.int .i64 a0_0, .int .i64 a0_1, .int .i64 a0_2, .int .i64 a0_3, .int .i64 a0_4, .int .i64 a0_5, .int .i64 a0_6] 23 (0, 0))) ∧ Aside0 (wc.heap[gb401]? = some (.cells #[.int .i64 a1_0, .int .i64 a1_1] 25 (0, 0))) ∧ Aside0 (Below w.heap.size w wc))
  case first =>
    have H := HC6.out
    clear HC6
    replace H := Option.bind_eq_some_iff.mp H
    obtain ⟨t402, A90, H⟩ := H
    replace H : (if t402 = true then (if (l3.length : Int) > 10 then (hopmeshlaw50_LoopBound.j0 k a2 l3 l4 true a0_0 a0_1 a0_2 a0_3 a0_4 a0_5 a0_6 a1_0 a1_1) else (if (l4.length : Int) > 10 then (hopmeshlaw50_LoopBound.j0 k a2 l3 l4 true a0_0 a0_1 a0_2 a0_3 a0_4 a0_5 a0_6 a1_0 a1_1) else (hopmeshlaw50_LoopBound.j0 k a2 l3 l4 (decide (a0_4 > 30)) a0_0 a0_1 a0_2 a0_3 a0_4 a0_5 a0_6 a1_0 a1_1))) else (hopmeshlaw50_LoopBound.j0 k a2 l3 l4 true a0_0 a0_1 a0_2 a0_3 a0_4 a0_5 a0_6 a1_0 a1_1)) = some r := H
    have A9 := Aside0.mk A90
    clear A90
    by_cases c10 : t402 = true
    · subst c10
      have H1 : (if (l3.length : Int) > 10 then (hopmeshlaw50_LoopBound.j0 k a2 l3 l4 true a0_0 a0_1 a0_2 a0_3 a0_4 a0_5 a0_6 a1_0 a1_1) else (if (l4.length : Int) > 10 then (hopmeshlaw50_LoopBound.j0 k a2 l3 l4 true a0_0 a0_1 a0_2 a0_3 a0_4 a0_5 a0_6 a1_0 a1_1) else (hopmeshlaw50_LoopBound.j0 k a2 l3 l4 (decide (a0_4 > 30)) a0_0 a0_1 a0_2 a0_3 a0_4 a0_5 a0_6 a1_0 a1_1))) = some r := by rw [if_pos rfl] at H; exact H
      clear H
      have H := H1
      clear H1
      by_cases c11 : (l3.length : Int) > 10
      · rw [if_pos c11] at H
        have c11b0 : decide (10 < (l3.length : Int)) = true := decide_eq_true c11
        have c11b1 : decide (10 < l3.length) = true := decide_eq_true (by omega)
        clear c11
        (first | rw [c11b0] | (simp only [i64_w, i32_w]; rw [c11b0]) | skip)
        have H' := Aside0.mk H
        clear H
        go_wp2_with (first | ((with_reducible refine gate_callee (f := 11) rfl ?_); refine goesL_ (some 21) rfl rfl Try.func11 (by kernel_rfl) rfl #[] rfl (by (try simp only [List.map_toArray, List.map_cons, List.map_nil]); first | done | rfl | (simp only [List.length_drop, List.length_take]; rfl)) ?_; (with_reducible refine (hopmeshlaw50_awake.calls k  true _ A9.out).mono ?_); rintro e w12 ⟨rfl, hb⟩; refine ⟨_, rfl, ?_⟩; have n0_ := Aside0.mk (blk_below (g := gb400) (o := .cells #[.int .i64 a0_0, .int .i64 a0_1, .int .i64 a0_2, .int .i64 a0_3, .int .i64 a0_4, .int .i64 a0_5, .int .i64 a0_6] 23 (0, 0)) (by (with_reducible repeat (first | refine blk_drewN ?_ _ | refine blk_drew ?_ | refine blk_alloc ?_ _)); exact BK400.out) hb); have n1_ := Aside0.mk (blk_below (g := gb401) (o := .cells #[.int .i64 a1_0, .int .i64 a1_1] 25 (0, 0)) (by (with_reducible repeat (first | refine blk_drewN ?_ _ | refine blk_drew ?_ | refine blk_alloc ?_ _)); exact BK401.out) hb); have n2_ := Aside0.mk (below_step (by repeat (first | (with_reducible first | exact HB.out | apply below_alloc | apply pw_below_drewN | apply below_drew1 | refine below_set ?_ GE400.out | refine below_set ?_ GE401.out) | exact HB.out)) hb); clear BK400; clear BK401; clear HB; have BK400 := n0_; have BK401 := n1_; have HB := n2_; clear n0_ n1_ n2_; (try clear hb); (try clear hb2); (try clear hk); (try clear hi)))
        go_meet
        case rel => exact ⟨_, (true), (by first | rfl | (simp; done) | (simp [*]; done)), H', ⟨by first | omega | exact Nat.le_refl _⟩, ⟨by (with_reducible repeat (first | refine blk_drewN ?_ _ | refine blk_drew ?_ | refine blk_alloc ?_ _)); exact BK400.out⟩, ⟨by (with_reducible repeat (first | refine blk_drewN ?_ _ | refine blk_drew ?_ | refine blk_alloc ?_ _)); exact BK401.out⟩, ⟨by repeat (first | (with_reducible first | exact HB.out | apply below_alloc | apply pw_below_drewN | apply below_drew1 | refine below_set ?_ GE400.out | refine below_set ?_ GE401.out) | exact HB.out)⟩⟩
      · rw [if_neg c11] at H
        have c11b0 : decide (10 < (l3.length : Int)) = false := decide_eq_false c11
        have c11b1 : decide (10 < l3.length) = false := decide_eq_false (by omega)
        clear c11
        (first | rw [c11b0] | (simp only [i64_w, i32_w]; rw [c11b0]) | skip)
        by_cases c13 : (l4.length : Int) > 10
        · rw [if_pos c13] at H
          have c13b0 : decide (10 < (l4.length : Int)) = true := decide_eq_true c13
          have c13b1 : decide (10 < l4.length) = true := decide_eq_true (by omega)
          clear c13
          have H' := Aside0.mk H
          clear H
          go_wp2_with (first | ((with_reducible refine gate_callee (f := 11) rfl ?_); refine goesL_ (some 21) rfl rfl Try.func11 (by kernel_rfl) rfl #[] rfl (by (try simp only [List.map_toArray, List.map_cons, List.map_nil]); first | done | rfl | (simp only [List.length_drop, List.length_take]; rfl)) ?_; (with_reducible refine (hopmeshlaw50_awake.calls k  true _ A9.out).mono ?_); rintro e w14 ⟨rfl, hb⟩; refine ⟨_, rfl, ?_⟩; have n0_ := Aside0.mk (blk_below (g := gb400) (o := .cells #[.int .i64 a0_0, .int .i64 a0_1, .int .i64 a0_2, .int .i64 a0_3, .int .i64 a0_4, .int .i64 a0_5, .int .i64 a0_6] 23 (0, 0)) (by (with_reducible repeat (first | refine blk_drewN ?_ _ | refine blk_drew ?_ | refine blk_alloc ?_ _)); exact BK400.out) hb); have n1_ := Aside0.mk (blk_below (g := gb401) (o := .cells #[.int .i64 a1_0, .int .i64 a1_1] 25 (0, 0)) (by (with_reducible repeat (first | refine blk_drewN ?_ _ | refine blk_drew ?_ | refine blk_alloc ?_ _)); exact BK401.out) hb); have n2_ := Aside0.mk (below_step (by repeat (first | (with_reducible first | exact HB.out | apply below_alloc | apply pw_below_drewN | apply below_drew1 | refine below_set ?_ GE400.out | refine below_set ?_ GE401.out) | exact HB.out)) hb); clear BK400; clear BK401; clear HB; have BK400 := n0_; have BK401 := n1_; have HB := n2_; clear n0_ n1_ n2_; (try clear hb); (try clear hb2); (try clear hk); (try clear hi)))
          go_meet
          case rel => exact ⟨_, (true), (by first | rfl | (simp; done) | (simp [*]; done)), H', ⟨by first | omega | exact Nat.le_refl _⟩, ⟨by (with_reducible repeat (first | refine blk_drewN ?_ _ | refine blk_drew ?_ | refine blk_alloc ?_ _)); exact BK400.out⟩, ⟨by (with_reducible repeat (first | refine blk_drewN ?_ _ | refine blk_drew ?_ | refine blk_alloc ?_ _)); exact BK401.out⟩, ⟨by repeat (first | (with_reducible first | exact HB.out | apply below_alloc | apply pw_below_drewN | apply below_drew1 | refine below_set ?_ GE400.out | refine below_set ?_ GE401.out) | exact HB.out)⟩⟩
        · rw [if_neg c13] at H
          have c13b0 : decide (10 < (l4.length : Int)) = false := decide_eq_false c13
          have c13b1 : decide (10 < l4.length) = false := decide_eq_false (by omega)
          clear c13
          have H' := Aside0.mk H
          clear H
          go_wp2_with (first | ((with_reducible refine gate_callee (f := 11) rfl ?_); refine goesL_ (some 21) rfl rfl Try.func11 (by kernel_rfl) rfl #[] rfl (by (try simp only [List.map_toArray, List.map_cons, List.map_nil]); first | done | rfl | (simp only [List.length_drop, List.length_take]; rfl)) ?_; (with_reducible refine (hopmeshlaw50_awake.calls k  true _ A9.out).mono ?_); rintro e w15 ⟨rfl, hb⟩; refine ⟨_, rfl, ?_⟩; have n0_ := Aside0.mk (blk_below (g := gb400) (o := .cells #[.int .i64 a0_0, .int .i64 a0_1, .int .i64 a0_2, .int .i64 a0_3, .int .i64 a0_4, .int .i64 a0_5, .int .i64 a0_6] 23 (0, 0)) (by (with_reducible repeat (first | refine blk_drewN ?_ _ | refine blk_drew ?_ | refine blk_alloc ?_ _)); exact BK400.out) hb); have n1_ := Aside0.mk (blk_below (g := gb401) (o := .cells #[.int .i64 a1_0, .int .i64 a1_1] 25 (0, 0)) (by (with_reducible repeat (first | refine blk_drewN ?_ _ | refine blk_drew ?_ | refine blk_alloc ?_ _)); exact BK401.out) hb); have n2_ := Aside0.mk (below_step (by repeat (first | (with_reducible first | exact HB.out | apply below_alloc | apply pw_below_drewN | apply below_drew1 | refine below_set ?_ GE400.out | refine below_set ?_ GE401.out) | exact HB.out)) hb); clear BK400; clear BK401; clear HB; have BK400 := n0_; have BK401 := n1_; have HB := n2_; clear n0_ n1_ n2_; (try clear hb); (try clear hb2); (try clear hk); (try clear hi); have hnb16 := NB400_401.out; have hnc16 := NB401_400.out; have hcz17_0 : w15.cell? ⟨gb400, 0, none⟩ = some (.int .i64 a0_0) := (blk_cell BK400.out 0).trans rfl; have hcz17_1 : w15.cell? ⟨gb400, 1, none⟩ = some (.int .i64 a0_1) := (blk_cell BK400.out 1).trans rfl; have hcz17_2 : w15.cell? ⟨gb400, 2, none⟩ = some (.int .i64 a0_2) := (blk_cell BK400.out 2).trans rfl; have hcz17_3 : w15.cell? ⟨gb400, 3, none⟩ = some (.int .i64 a0_3) := (blk_cell BK400.out 3).trans rfl; have hcz17_4 : w15.cell? ⟨gb400, 4, none⟩ = some (.int .i64 a0_4) := (blk_cell BK400.out 4).trans rfl; have hcz17_5 : w15.cell? ⟨gb400, 5, none⟩ = some (.int .i64 a0_5) := (blk_cell BK400.out 5).trans rfl; have hcz17_6 : w15.cell? ⟨gb400, 6, none⟩ = some (.int .i64 a0_6) := (blk_cell BK400.out 6).trans rfl; have hfz17_0 := blk_frozen BK400.out 0; have hfz17_1 := blk_frozen BK400.out 1; have hfz17_2 := blk_frozen BK400.out 2; have hfz17_3 := blk_frozen BK400.out 3; have hfz17_4 := blk_frozen BK400.out 4; have hfz17_5 := blk_frozen BK400.out 5; have hfz17_6 := blk_frozen BK400.out 6))
          go_meet
          case rel => exact ⟨_, (decide (a0_4 > 30)), (by first | rfl | (simp; done) | (simp [*]; done)), H', ⟨by first | omega | exact Nat.le_refl _⟩, ⟨by (with_reducible repeat (first | refine blk_drewN ?_ _ | refine blk_drew ?_ | refine blk_alloc ?_ _)); exact BK400.out⟩, ⟨by (with_reducible repeat (first | refine blk_drewN ?_ _ | refine blk_drew ?_ | refine blk_alloc ?_ _)); exact BK401.out⟩, ⟨by repeat (first | (with_reducible first | exact HB.out | apply below_alloc | apply pw_below_drewN | apply below_drew1 | refine below_set ?_ GE400.out | refine below_set ?_ GE401.out) | exact HB.out)⟩⟩
    · replace c10 := Bool.eq_false_iff.mpr c10
      subst c10
      have H1 : (hopmeshlaw50_LoopBound.j0 k a2 l3 l4 true a0_0 a0_1 a0_2 a0_3 a0_4 a0_5 a0_6 a1_0 a1_1) = some r := by rw [if_neg (show ¬ (false = true) by decide)] at H; exact H
      clear H
      have H := H1
      clear H1
      have H' := Aside0.mk H
      clear H
      go_wp2_with (first | ((with_reducible refine gate_callee (f := 11) rfl ?_); refine goesL_ (some 21) rfl rfl Try.func11 (by kernel_rfl) rfl #[] rfl (by (try simp only [List.map_toArray, List.map_cons, List.map_nil]); first | done | rfl | (simp only [List.length_drop, List.length_take]; rfl)) ?_; (with_reducible refine (hopmeshlaw50_awake.calls k  false _ A9.out).mono ?_); rintro e w18 ⟨rfl, hb⟩; refine ⟨_, rfl, ?_⟩; have n0_ := Aside0.mk (blk_below (g := gb400) (o := .cells #[.int .i64 a0_0, .int .i64 a0_1, .int .i64 a0_2, .int .i64 a0_3, .int .i64 a0_4, .int .i64 a0_5, .int .i64 a0_6] 23 (0, 0)) (by (with_reducible repeat (first | refine blk_drewN ?_ _ | refine blk_drew ?_ | refine blk_alloc ?_ _)); exact BK400.out) hb); have n1_ := Aside0.mk (blk_below (g := gb401) (o := .cells #[.int .i64 a1_0, .int .i64 a1_1] 25 (0, 0)) (by (with_reducible repeat (first | refine blk_drewN ?_ _ | refine blk_drew ?_ | refine blk_alloc ?_ _)); exact BK401.out) hb); have n2_ := Aside0.mk (below_step (by repeat (first | (with_reducible first | exact HB.out | apply below_alloc | apply pw_below_drewN | apply below_drew1 | refine below_set ?_ GE400.out | refine below_set ?_ GE401.out) | exact HB.out)) hb); clear BK400; clear BK401; clear HB; have BK400 := n0_; have BK401 := n1_; have HB := n2_; clear n0_ n1_ n2_; (try clear hb); (try clear hb2); (try clear hk); (try clear hi)))
      go_meet
      case rel => exact ⟨_, (true), (by first | rfl | (simp; done) | (simp [*]; done)), H', ⟨by first | omega | exact Nat.le_refl _⟩, ⟨by (with_reducible repeat (first | refine blk_drewN ?_ _ | refine blk_drew ?_ | refine blk_alloc ?_ _)); exact BK400.out⟩, ⟨by (with_reducible repeat (first | refine blk_drewN ?_ _ | refine blk_drew ?_ | refine blk_alloc ?_ _)); exact BK401.out⟩, ⟨by repeat (first | (with_reducible first | exact HB.out | apply below_alloc | apply pw_below_drewN | apply below_drew1 | refine below_set ?_ GE400.out | refine below_set ?_ GE401.out) | exact HB.out)⟩⟩
  case rest =>
    clear HC6
    try clear c1
    try clear p2
    try clear c3
    try clear c4
    try clear c9
    try clear c10
    try clear c11
    try clear c11b0
    try clear c11b1
    try clear c13
    try clear c13b0
    try clear c13b1
    try clear c16
    try clear hcz17_0
    try clear hcz17_1
    try clear hcz17_2
    try clear hcz17_3
    try clear hcz17_4
    try clear hcz17_5
    try clear hcz17_6
    try clear hfz17_0
    try clear hfz17_1
    try clear hfz17_2
    try clear hfz17_3
    try clear hfz17_4
    try clear hfz17_5
    try clear hfz17_6
    obtain ⟨kq, x37_5, rfl, HA, HJ5, BK400, BK401, HB⟩ := hcut
    cases kq with
    | zero => exact absurd HA.out (by simp [hopmeshlaw50_LoopBound.j0])
    | succ kj5 =>
      have H := HA.out
      clear HA
      simp only [hopmeshlaw50_LoopBound.j0] at H
      by_cases c19 : x37_5 = true
      · subst c19
        have H1 : ((hopmeshlaw50_awake.f kj5).bind fun t403 => (some t403)) = some r := by rw [if_pos rfl] at H; exact H
        clear H
        have H := H1
        clear H1
        replace H := Option.bind_eq_some_iff.mp H
        obtain ⟨t403, A200, H⟩ := H
        replace H : (some t403) = some r := H
        have A20 := Aside0.mk A200
        clear A200
        obtain rfl := Option.some.inj H
        go_wp2_with (first | ((with_reducible refine gate_callee (f := 11) rfl ?_); refine goesL_ (some 38) rfl rfl Try.func11 (by kernel_rfl) rfl #[] rfl (by (try simp only [List.map_toArray, List.map_cons, List.map_nil]); first | done | rfl | (simp only [List.length_drop, List.length_take]; rfl)) ?_; (with_reducible refine (hopmeshlaw50_awake.calls kj5  t403 _ A20.out).mono ?_); rintro e w21 ⟨rfl, hb⟩; refine ⟨_, rfl, ?_⟩; have n0_ := Aside0.mk (blk_below (g := gb400) (o := .cells #[.int .i64 a0_0, .int .i64 a0_1, .int .i64 a0_2, .int .i64 a0_3, .int .i64 a0_4, .int .i64 a0_5, .int .i64 a0_6] 23 (0, 0)) (by (with_reducible repeat (first | refine blk_drewN ?_ _ | refine blk_drew ?_ | refine blk_alloc ?_ _)); exact BK400.out) hb); have n1_ := Aside0.mk (blk_below (g := gb401) (o := .cells #[.int .i64 a1_0, .int .i64 a1_1] 25 (0, 0)) (by (with_reducible repeat (first | refine blk_drewN ?_ _ | refine blk_drew ?_ | refine blk_alloc ?_ _)); exact BK401.out) hb); have n2_ := Aside0.mk (below_step (by repeat (first | (with_reducible first | exact HB.out | apply below_alloc | apply pw_below_drewN | apply below_drew1 | refine below_set ?_ GE400.out | refine below_set ?_ GE401.out) | exact HB.out)) hb); clear BK400; clear BK401; clear HB; have BK400 := n0_; have BK401 := n1_; have HB := n2_; clear n0_ n1_ n2_; (try clear hb); (try clear hb2); (try clear hk); (try clear hi)))
        go_ret
        exact ⟨by first | rfl | (simp [errW_none, errW_some] <;> rfl) | (simp [*, errW_none, errW_some] <;> rfl), by repeat (first | (with_reducible first | exact HB.out | apply below_alloc | apply pw_below_drewN | apply below_drew1 | refine below_set ?_ GE400.out | refine below_set ?_ GE401.out) | exact HB.out)⟩
      · replace c19 := Bool.eq_false_iff.mpr c19
        subst c19
        have H1 : ((loop_Worst.f a0_0 a0_1 a0_2 a0_3 a0_4 a0_5 a0_6 a1_0 a1_1).bind fun bt404 => (if bt404.2 = 0 then ((hopmeshlaw50_deliver.f a0_0 a0_1 a0_2 a0_3 a0_4 a0_5 a0_6 a1_0 a1_1 (wrap64 (1 + (wrap64 (Int.tmod a2 8)))) l3 l4).bind fun t406 => ((loop_Ages.f kj5 a0_0 a0_1 a0_2 a0_3 a0_4 a0_5 a0_6 a1_0 a1_1 t406 (wrap64 ((wrap64 ((wrap64 (a0_5 + (wrap64 ((wrap64 ((wrap64 (1 + (wrap64 (Int.tmod a2 8)))) - 1)) * a0_4)))) + bt404.1)) + 1))).bind fun bt409 => (if bt409.2 = 0 then (hopmeshlaw50_LoopBound.j1 kj5 l3 l4 bt404.1 (wrap64 (1 + (wrap64 (Int.tmod a2 8)))) (wrap64 ((wrap64 ((wrap64 (a0_5 + (wrap64 ((wrap64 ((wrap64 (1 + (wrap64 (Int.tmod a2 8)))) - 1)) * a0_4)))) + bt404.1)) + 1)) bt409.1 ((bt409.1.length : Int) != (wrap64 ((wrap64 ((wrap64 (a0_5 + (wrap64 ((wrap64 ((wrap64 (1 + (wrap64 (Int.tmod a2 8)))) - 1)) * a0_4)))) + bt404.1)) + 1))) a0_0 a0_1 a0_2 a0_3 a0_4 a0_5 a0_6 a1_0 a1_1) else (hopmeshlaw50_LoopBound.j1 kj5 l3 l4 bt404.1 (wrap64 (1 + (wrap64 (Int.tmod a2 8)))) (wrap64 ((wrap64 ((wrap64 (a0_5 + (wrap64 ((wrap64 ((wrap64 (1 + (wrap64 (Int.tmod a2 8)))) - 1)) * a0_4)))) + bt404.1)) + 1)) bt409.1 true a0_0 a0_1 a0_2 a0_3 a0_4 a0_5 a0_6 a1_0 a1_1)))) else (some (bt404.1 == 0)))) = some r := by rw [if_neg (show ¬ (false = true) by decide)] at H; exact H
        clear H
        have H := H1
        clear H1
        replace H := Option.bind_eq_some_iff.mp H
        obtain ⟨⟨t404, t405⟩, A220, H⟩ := H
        replace H : (if t405 = 0 then ((hopmeshlaw50_deliver.f a0_0 a0_1 a0_2 a0_3 a0_4 a0_5 a0_6 a1_0 a1_1 (wrap64 (1 + (wrap64 (Int.tmod a2 8)))) l3 l4).bind fun t406 => ((loop_Ages.f kj5 a0_0 a0_1 a0_2 a0_3 a0_4 a0_5 a0_6 a1_0 a1_1 t406 (wrap64 ((wrap64 ((wrap64 (a0_5 + (wrap64 ((wrap64 ((wrap64 (1 + (wrap64 (Int.tmod a2 8)))) - 1)) * a0_4)))) + t404)) + 1))).bind fun bt409 => (if bt409.2 = 0 then (hopmeshlaw50_LoopBound.j1 kj5 l3 l4 t404 (wrap64 (1 + (wrap64 (Int.tmod a2 8)))) (wrap64 ((wrap64 ((wrap64 (a0_5 + (wrap64 ((wrap64 ((wrap64 (1 + (wrap64 (Int.tmod a2 8)))) - 1)) * a0_4)))) + t404)) + 1)) bt409.1 ((bt409.1.length : Int) != (wrap64 ((wrap64 ((wrap64 (a0_5 + (wrap64 ((wrap64 ((wrap64 (1 + (wrap64 (Int.tmod a2 8)))) - 1)) * a0_4)))) + t404)) + 1))) a0_0 a0_1 a0_2 a0_3 a0_4 a0_5 a0_6 a1_0 a1_1) else (hopmeshlaw50_LoopBound.j1 kj5 l3 l4 t404 (wrap64 (1 + (wrap64 (Int.tmod a2 8)))) (wrap64 ((wrap64 ((wrap64 (a0_5 + (wrap64 ((wrap64 ((wrap64 (1 + (wrap64 (Int.tmod a2 8)))) - 1)) * a0_4)))) + t404)) + 1)) bt409.1 true a0_0 a0_1 a0_2 a0_3 a0_4 a0_5 a0_6 a1_0 a1_1)))) else (some (t404 == 0))) = some r := H
        have A22 := Aside0.mk A220
        clear A220
        by_cases c23 : t405 = 0
        · rw [if_pos c23] at H
          have c23b0 : (t405 == 0) = true := beq_iff_eq.mpr c23
          have c23b1 : (t405 != 0) = false := bne_eq_false_iff_eq.mpr c23
          clear c23
          replace H := Option.bind_eq_some_iff.mp H
          obtain ⟨t406, A240, H⟩ := H
          replace H : ((loop_Ages.f kj5 a0_0 a0_1 a0_2 a0_3 a0_4 a0_5 a0_6 a1_0 a1_1 t406 (wrap64 ((wrap64 ((wrap64 (a0_5 + (wrap64 ((wrap64 ((wrap64 (1 + (wrap64 (Int.tmod a2 8)))) - 1)) * a0_4)))) + t404)) + 1))).bind fun bt409 => (if bt409.2 = 0 then (hopmeshlaw50_LoopBound.j1 kj5 l3 l4 t404 (wrap64 (1 + (wrap64 (Int.tmod a2 8)))) (wrap64 ((wrap64 ((wrap64 (a0_5 + (wrap64 ((wrap64 ((wrap64 (1 + (wrap64 (Int.tmod a2 8)))) - 1)) * a0_4)))) + t404)) + 1)) bt409.1 ((bt409.1.length : Int) != (wrap64 ((wrap64 ((wrap64 (a0_5 + (wrap64 ((wrap64 ((wrap64 (1 + (wrap64 (Int.tmod a2 8)))) - 1)) * a0_4)))) + t404)) + 1))) a0_0 a0_1 a0_2 a0_3 a0_4 a0_5 a0_6 a1_0 a1_1) else (hopmeshlaw50_LoopBound.j1 kj5 l3 l4 t404 (wrap64 (1 + (wrap64 (Int.tmod a2 8)))) (wrap64 ((wrap64 ((wrap64 (a0_5 + (wrap64 ((wrap64 ((wrap64 (1 + (wrap64 (Int.tmod a2 8)))) - 1)) * a0_4)))) + t404)) + 1)) bt409.1 true a0_0 a0_1 a0_2 a0_3 a0_4 a0_5 a0_6 a1_0 a1_1))) = some r := H
          have A24 := Aside0.mk A240
          clear A240
          replace H := Option.bind_eq_some_iff.mp H
          obtain ⟨⟨t409, t412⟩, A250, H⟩ := H
          replace H : (if t412 = 0 then (hopmeshlaw50_LoopBound.j1 kj5 l3 l4 t404 (wrap64 (1 + (wrap64 (Int.tmod a2 8)))) (wrap64 ((wrap64 ((wrap64 (a0_5 + (wrap64 ((wrap64 ((wrap64 (1 + (wrap64 (Int.tmod a2 8)))) - 1)) * a0_4)))) + t404)) + 1)) t409 ((t409.length : Int) != (wrap64 ((wrap64 ((wrap64 (a0_5 + (wrap64 ((wrap64 ((wrap64 (1 + (wrap64 (Int.tmod a2 8)))) - 1)) * a0_4)))) + t404)) + 1))) a0_0 a0_1 a0_2 a0_3 a0_4 a0_5 a0_6 a1_0 a1_1) else (hopmeshlaw50_LoopBound.j1 kj5 l3 l4 t404 (wrap64 (1 + (wrap64 (Int.tmod a2 8)))) (wrap64 ((wrap64 ((wrap64 (a0_5 + (wrap64 ((wrap64 ((wrap64 (1 + (wrap64 (Int.tmod a2 8)))) - 1)) * a0_4)))) + t404)) + 1)) t409 true a0_0 a0_1 a0_2 a0_3 a0_4 a0_5 a0_6 a1_0 a1_1)) = some r := H
          have A25 := Aside0.mk A250
          clear A250
          have HC26 := Aside0.mk H
          clear H
          have hnb27 := NB400_401.out
          have hnc27 := NB401_400.out
          have hcz28_0 : wc.cell? ⟨gb400, 0, none⟩ = some (.int .i64 a0_0) := (blk_cell BK400.out 0).trans rfl
          have hcz28_1 : wc.cell? ⟨gb400, 1, none⟩ = some (.int .i64 a0_1) := (blk_cell BK400.out 1).trans rfl
          have hcz28_2 : wc.cell? ⟨gb400, 2, none⟩ = some (.int .i64 a0_2) := (blk_cell BK400.out 2).trans rfl
          have hcz28_3 : wc.cell? ⟨gb400, 3, none⟩ = some (.int .i64 a0_3) := (blk_cell BK400.out 3).trans rfl
          have hcz28_4 : wc.cell? ⟨gb400, 4, none⟩ = some (.int .i64 a0_4) := (blk_cell BK400.out 4).trans rfl
          have hcz28_5 : wc.cell? ⟨gb400, 5, none⟩ = some (.int .i64 a0_5) := (blk_cell BK400.out 5).trans rfl
          have hcz28_6 : wc.cell? ⟨gb400, 6, none⟩ = some (.int .i64 a0_6) := (blk_cell BK400.out 6).trans rfl
          have hfz28_0 := blk_frozen BK400.out 0
          have hfz28_1 := blk_frozen BK400.out 1
          have hfz28_2 := blk_frozen BK400.out 2
          have hfz28_3 := blk_frozen BK400.out 3
          have hfz28_4 := blk_frozen BK400.out 4
          have hfz28_5 := blk_frozen BK400.out 5
          have hfz28_6 := blk_frozen BK400.out 6
          have hcz29_0 : wc.cell? ⟨gb401, 0, none⟩ = some (.int .i64 a1_0) := (blk_cell BK401.out 0).trans rfl
          have hcz29_1 : wc.cell? ⟨gb401, 1, none⟩ = some (.int .i64 a1_1) := (blk_cell BK401.out 1).trans rfl
          have hfz29_0 := blk_frozen BK401.out 0
          have hfz29_1 := blk_frozen BK401.out 1
          try go_wp2_with (first | ((with_reducible refine gate_callee (f := 24) rfl ?_); refine goesL_ (some 42) rfl rfl Try.func24 (by kernel_rfl) rfl #[.agg #[.int .i64 a0_0, .int .i64 a0_1, .int .i64 a0_2, .int .i64 a0_3, .int .i64 a0_4, .int .i64 a0_5, .int .i64 a0_6], .agg #[.int .i64 a1_0, .int .i64 a1_1]] rfl (by (try simp only [List.map_toArray, List.map_cons, List.map_nil]); first | done | rfl | (simp only [List.length_drop, List.length_take]; rfl)) ?_; (with_reducible refine (loop_Worst.calls a0_0 a0_1 a0_2 a0_3 a0_4 a0_5 a0_6 a1_0 a1_1 t404 t405 _ A22.out).mono ?_); rintro e w30 ⟨rfl, hb⟩; refine ⟨_, rfl, ?_⟩; have n0_ := Aside0.mk (blk_below (g := gb400) (o := .cells #[.int .i64 a0_0, .int .i64 a0_1, .int .i64 a0_2, .int .i64 a0_3, .int .i64 a0_4, .int .i64 a0_5, .int .i64 a0_6] 23 (0, 0)) (by (with_reducible repeat (first | refine blk_drewN ?_ _ | refine blk_drew ?_ | refine blk_alloc ?_ _)); exact BK400.out) hb); have n1_ := Aside0.mk (blk_below (g := gb401) (o := .cells #[.int .i64 a1_0, .int .i64 a1_1] 25 (0, 0)) (by (with_reducible repeat (first | refine blk_drewN ?_ _ | refine blk_drew ?_ | refine blk_alloc ?_ _)); exact BK401.out) hb); have n2_ := Aside0.mk (below_step (by repeat (first | (with_reducible first | exact HB.out | apply below_alloc | apply pw_below_drewN | apply below_drew1 | refine below_set ?_ GE400.out | refine below_set ?_ GE401.out) | exact HB.out)) hb); clear BK400; clear BK401; clear HB; have BK400 := n0_; have BK401 := n1_; have HB := n2_; clear n0_ n1_ n2_; (try clear hb); (try clear hb2); (try clear hk); (try clear hi); have hcz31_0 : w30.cell? ⟨gb400, 0, none⟩ = some (.int .i64 a0_0) := (blk_cell BK400.out 0).trans rfl; have hcz31_1 : w30.cell? ⟨gb400, 1, none⟩ = some (.int .i64 a0_1) := (blk_cell BK400.out 1).trans rfl; have hcz31_2 : w30.cell? ⟨gb400, 2, none⟩ = some (.int .i64 a0_2) := (blk_cell BK400.out 2).trans rfl; have hcz31_3 : w30.cell? ⟨gb400, 3, none⟩ = some (.int .i64 a0_3) := (blk_cell BK400.out 3).trans rfl; have hcz31_4 : w30.cell? ⟨gb400, 4, none⟩ = some (.int .i64 a0_4) := (blk_cell BK400.out 4).trans rfl; have hcz31_5 : w30.cell? ⟨gb400, 5, none⟩ = some (.int .i64 a0_5) := (blk_cell BK400.out 5).trans rfl; have hcz31_6 : w30.cell? ⟨gb400, 6, none⟩ = some (.int .i64 a0_6) := (blk_cell BK400.out 6).trans rfl; have hfz31_0 := blk_frozen BK400.out 0; have hfz31_1 := blk_frozen BK400.out 1; have hfz31_2 := blk_frozen BK400.out 2; have hfz31_3 := blk_frozen BK400.out 3; have hfz31_4 := blk_frozen BK400.out 4; have hfz31_5 := blk_frozen BK400.out 5; have hfz31_6 := blk_frozen BK400.out 6))
          have n0_ := Aside0.mk (blk_drew BK400.out)
          have n1_ := Aside0.mk (blk_drew BK401.out)
          have n2_ := Aside0.mk (below_drew1 HB.out)
          clear BK400
          clear BK401
          clear HB
          have BK400 := n0_
          have BK401 := n1_
          have HB := n2_
          clear n0_ n1_ n2_
          refine start_ (n := 15) (S := fun w' => w'.cell? ⟨gb400, 0, none⟩ = some (.int .i64 a0_0) ∧ w'.cell? ⟨gb400, 1, none⟩ = some (.int .i64 a0_1) ∧ w'.cell? ⟨gb400, 2, none⟩ = some (.int .i64 a0_2) ∧ w'.cell? ⟨gb400, 3, none⟩ = some (.int .i64 a0_3) ∧ w'.cell? ⟨gb400, 4, none⟩ = some (.int .i64 a0_4) ∧ w'.cell? ⟨gb400, 5, none⟩ = some (.int .i64 a0_5) ∧ w'.cell? ⟨gb400, 6, none⟩ = some (.int .i64 a0_6) ∧ w'.cell? ⟨gb401, 0, none⟩ = some (.int .i64 a1_0) ∧ w'.cell? ⟨gb401, 1, none⟩ = some (.int .i64 a1_1)) (ds := []) #[false, false, false, false, false, false, false, false, false, false, false, false, false, false, false] (by kernel_rfl) rfl rfl ⟨(blk_cell BK400.out 0).trans rfl, (blk_cell BK400.out 1).trans rfl, (blk_cell BK400.out 2).trans rfl, (blk_cell BK400.out 3).trans rfl, (blk_cell BK400.out 4).trans rfl, (blk_cell BK400.out 5).trans rfl, (blk_cell BK400.out 6).trans rfl, (blk_cell BK401.out 0).trans rfl, (blk_cell BK401.out 1).trans rfl⟩ (fun hHeld => ?_); refine with_tabW hopmeshlaw50_LoopBound.tab8 hopmeshlaw50_LoopBound.bits8 (fun HT_ HW_ => ?_)
          generalize w30.drew = w32 at BK400 BK401 HB hHeld ⊢
          refine pure_ (i := 4) (N := some 69) (v := ?_) (a' := ?_) #[false, false, false, false, true, false, false, false, false, false, false, false, false, false, false] rfl rfl (any_of HT_.out (by kernel_rfl)) (fun _ _ _ h => h) (Or.inl ⟨by rfl, ?_⟩) ?_ ?_
          rotate_left
          · intro w'
            go_simp
            with_reducible rfl
          rotate_left
          · simp only [Act.put, List.setIfInBounds_toArray, List.set_cons_zero, List.set_cons_succ, i64_w, i32_w]
            rfl
          refine pure_ (i := 5) (N := some 70) (v := ?_) (a' := ?_) #[false, false, false, false, true, true, false, false, false, false, false, false, false, false, false] rfl rfl (any_of HT_.out (by kernel_rfl)) (fun _ _ _ h => h) (Or.inl ⟨by rfl, ?_⟩) ?_ ?_
          rotate_left
          · intro w'
            go_simp
            with_reducible rfl
          rotate_left
          · simp only [Act.put, List.setIfInBounds_toArray, List.set_cons_zero, List.set_cons_succ, i64_w, i32_w]
            rfl
          refine pure_ (i := 6) (N := some 71) (v := ?_) (a' := ?_) #[false, false, false, false, true, true, true, false, false, false, false, false, false, false, false] rfl rfl (any_of HT_.out (by kernel_rfl)) (fun _ _ _ h => h) (Or.inl ⟨by rfl, ?_⟩) ?_ ?_
          rotate_left
          · intro w'
            go_simp
            with_reducible rfl
          rotate_left
          · simp only [Act.put, List.setIfInBounds_toArray, List.set_cons_zero, List.set_cons_succ, i64_w, i32_w]
            rfl
          refine pure_ (i := 8) (N := some 73) (v := ?_) (a' := ?_) #[false, false, false, false, true, true, true, false, true, false, false, false, false, false, false] rfl rfl (any_of HT_.out (by kernel_rfl)) (fun _ _ _ h => h) (Or.inl ⟨by rfl, ?_⟩) ?_ ?_
          rotate_left
          · intro w'
            go_simp
            with_reducible rfl
          rotate_left
          · simp only [Act.put, List.setIfInBounds_toArray, List.set_cons_zero, List.set_cons_succ, i64_w, i32_w]
            rfl
          refine take_ (i := 0) (N := some 65) (v := ?_) (a' := ?_) #[true, false, false, false, true, true, true, false, true, false, false, false, false, false, false] rfl rfl (take_ofW HT_.out HW_.out (by kernel_rfl)) (fun _ _ _ h => h) (Or.inl ⟨by rfl, ?_⟩) hHeld ?_ ?_
          rotate_left
          · rintro w' ⟨s0, s1, s2, s3, s4, s5, s6, s7, s8⟩
            go_simp
            with_reducible rfl
          rotate_left
          · simp only [Act.put, List.setIfInBounds_toArray, List.set_cons_zero, List.set_cons_succ, i64_w, i32_w]
            rfl
          refine take_ (i := 1) (N := some 66) (v := ?_) (a' := ?_) #[true, true, false, false, true, true, true, false, true, false, false, false, false, false, false] rfl rfl (take_ofW HT_.out HW_.out (by kernel_rfl)) (fun _ _ _ h => h) (Or.inl ⟨by rfl, ?_⟩) hHeld ?_ ?_
          rotate_left
          · rintro w' ⟨s0, s1, s2, s3, s4, s5, s6, s7, s8⟩
            go_simp
            with_reducible rfl
          rotate_left
          · simp only [Act.put, List.setIfInBounds_toArray, List.set_cons_zero, List.set_cons_succ, i64_w, i32_w]
            rfl
          refine take_ (i := 2) (N := some 67) (v := ?_) (a' := ?_) #[true, true, true, false, true, true, true, false, true, false, false, false, false, false, false] rfl rfl (take_ofW HT_.out HW_.out (by kernel_rfl)) (fun _ _ _ h => h) (Or.inl ⟨by rfl, ?_⟩) hHeld ?_ ?_
          rotate_left
          · rintro w' ⟨s0, s1, s2, s3, s4, s5, s6, s7, s8⟩
            go_simp
            with_reducible rfl
          rotate_left
          · simp only [Act.put, List.setIfInBounds_toArray, List.set_cons_zero, List.set_cons_succ, i64_w, i32_w]
            rfl
          refine take_ (i := 3) (N := some 68) (v := ?_) (a' := ?_) #[true, true, true, true, true, true, true, false, true, false, false, false, false, false, false] rfl rfl (take_ofW HT_.out HW_.out (by kernel_rfl)) (fun _ _ _ h => h) (Or.inl ⟨by rfl, ?_⟩) hHeld ?_ ?_
          rotate_left
          · rintro w' ⟨s0, s1, s2, s3, s4, s5, s6, s7, s8⟩
            go_simp
            with_reducible rfl
          rotate_left
          · simp only [Act.put, List.setIfInBounds_toArray, List.set_cons_zero, List.set_cons_succ, i64_w, i32_w]
            rfl
          refine one_ (i := 7) (N := some 72) #[true, true, true, true, true, true, true, true, true, false, false, false, false, false, false] rfl rfl (one_of HT_.out (by kernel_rfl)) (by decide) (fun K hK => ?_)
          refine goes_ Try.func25 (by kernel_rfl) rfl #[.agg #[.int .i64 a0_0, .int .i64 a0_1, .int .i64 a0_2, .int .i64 a0_3, .int .i64 a0_4, .int .i64 a0_5, .int .i64 a0_6], .agg #[.int .i64 a1_0, .int .i64 a1_1], .int .i64 (wrap64 (1 + (wrap64 (Int.tmod a2 8)))), .slice A3 l3.length c3, .slice A4 l4.length c4] (by rfl) rfl rfl (by (try simp only [List.map_toArray, List.map_cons, List.map_nil]); first | done | rfl | (simp only [List.length_drop, List.length_take]; rfl)) ?_
          with_reducible refine (hopmeshlaw50_deliver.calls a0_0 a0_1 a0_2 a0_3 a0_4 a0_5 a0_6 a1_0 a1_1 (wrap64 (1 + (wrap64 (Int.tmod a2 8)))) _ _ l3 _ _ l4 t406 _ ?side1 ?side2 ?side3 ?side4 A24.out).mono ?_
          (case side1 => repeat (first | exact (Kd.C_below HR3.out HB.out) | (with_reducible refine Kd.C_alloc ?_ _) | (with_reducible refine Kd.C_drewN ?_ _) | (with_reducible refine Kd.C_drew ?_)))
          (case side2 => exact HC3.out)
          (case side3 => repeat (first | exact (Kd.C_below HR4.out HB.out) | (with_reducible refine Kd.C_alloc ?_ _) | (with_reducible refine Kd.C_drewN ?_ _) | (with_reducible refine Kd.C_drew ?_)))
          (case side4 => exact HC4.out)
          rintro e w33 ⟨v407, rfl, ho0, hb⟩
          refine ⟨_, rfl, ?_⟩
          have n0_ := Aside0.mk (Kd.R_lower ho0 (below_size (by repeat (first | (with_reducible first | exact HB.out | apply below_alloc | apply pw_below_drewN | apply below_drew1 | refine below_set ?_ GE400.out | refine below_set ?_ GE401.out) | exact HB.out))))
          have n1_ := Aside0.mk (blk_below (g := gb400) (o := .cells #[.int .i64 a0_0, .int .i64 a0_1, .int .i64 a0_2, .int .i64 a0_3, .int .i64 a0_4, .int .i64 a0_5, .int .i64 a0_6] 23 (0, 0)) (by (with_reducible repeat (first | refine blk_drewN ?_ _ | refine blk_drew ?_ | refine blk_alloc ?_ _)); exact BK400.out) hb)
          have n2_ := Aside0.mk (blk_below (g := gb401) (o := .cells #[.int .i64 a1_0, .int .i64 a1_1] 25 (0, 0)) (by (with_reducible repeat (first | refine blk_drewN ?_ _ | refine blk_drew ?_ | refine blk_alloc ?_ _)); exact BK401.out) hb)
          have n3_ := Aside0.mk (below_step (by repeat (first | (with_reducible first | exact HB.out | apply below_alloc | apply pw_below_drewN | apply below_drew1 | refine below_set ?_ GE400.out | refine below_set ?_ GE401.out) | exact HB.out)) hb)
          clear BK400
          clear BK401
          clear HB
          have HO408 := n0_
          have BK400 := n1_
          have BK401 := n2_
          have HB := n3_
          clear n0_ n1_ n2_ n3_
          (try clear hb)
          (try clear hb2)
          (try clear hk)
          (try clear hi)
          (try clear ho0)
          obtain ⟨Ao34, co34, eo34⟩ := Kd.R_slice HO408.out
          (first | subst eo34 | (injection eo34 with f1_ f2_ f3_; have f4_ := f1_.symm; have f5_ := f3_.symm; clear f1_ f2_ f3_; subst f4_; subst f5_))
          refine hK.out _ _ ⟨(blk_cell BK400.out 0).trans rfl, (blk_cell BK400.out 1).trans rfl, (blk_cell BK400.out 2).trans rfl, (blk_cell BK400.out 3).trans rfl, (blk_cell BK400.out 4).trans rfl, (blk_cell BK400.out 5).trans rfl, (blk_cell BK400.out 6).trans rfl, (blk_cell BK401.out 0).trans rfl, (blk_cell BK401.out 1).trans rfl⟩ (fun hHeld => ?_)
          clear hK K
          refine norm_ (a' := ?_) ?_ ?_
          rotate_left
          · show Act.put _ (some 72) _ = _
            simp only [Act.put, List.setIfInBounds_toArray, List.set_cons_zero, List.set_cons_succ, i64_w, i32_w]
            rfl
          refine one_ (i := 9) (N := some 74) #[true, true, true, true, true, true, true, true, true, true, false, false, false, false, false] rfl rfl (one_of HT_.out (by kernel_rfl)) (by decide) (fun K hK => ?_)
          refine goes_ Try.func17 (by kernel_rfl) rfl #[.agg #[.int .i64 a0_0, .int .i64 a0_1, .int .i64 a0_2, .int .i64 a0_3, .int .i64 a0_4, .int .i64 a0_5, .int .i64 a0_6], .agg #[.int .i64 a1_0, .int .i64 a1_1], .slice Ao34 t406.length co34, .int .i64 (wrap64 ((wrap64 ((wrap64 (a0_5 + (wrap64 ((wrap64 ((wrap64 (1 + (wrap64 (Int.tmod a2 8)))) - 1)) * a0_4)))) + t404)) + 1))] (by rfl) rfl rfl (by (try simp only [List.map_toArray, List.map_cons, List.map_nil]); first | done | rfl | (simp only [List.length_drop, List.length_take]; rfl)) ?_
          with_reducible refine (loop_Ages.calls kj5 a0_0 a0_1 a0_2 a0_3 a0_4 a0_5 a0_6 a1_0 a1_1 _ _ t406 (wrap64 ((wrap64 ((wrap64 (a0_5 + (wrap64 ((wrap64 ((wrap64 (1 + (wrap64 (Int.tmod a2 8)))) - 1)) * a0_4)))) + t404)) + 1)) t409 t412 _ ?side1 ?side2 A25.out).mono ?_
          (case side1 => repeat (first | exact (Kd.R_reads' HO408.out).2.2 | (with_reducible refine Kd.C_alloc ?_ _) | (with_reducible refine Kd.C_drewN ?_ _) | (with_reducible refine Kd.C_drew ?_)))
          (case side2 => exact (Kd.R_reads' HO408.out).2.1)
          rintro e w35 ⟨v410, rfl, ho0, hb⟩
          refine ⟨_, rfl, ?_⟩
          have n0_ := Aside0.mk (Kd.R_below (by (with_reducible repeat (first | apply Kd.R_alloc | apply Kd.R_drewN | apply Kd.R_drew)); exact HO408.out) hb)
          have n1_ := Aside0.mk (Kd.R_lower ho0 (below_size (by repeat (first | (with_reducible first | exact HB.out | apply below_alloc | apply pw_below_drewN | apply below_drew1 | refine below_set ?_ GE400.out | refine below_set ?_ GE401.out) | exact HB.out))))
          have n2_ := Aside0.mk (blk_below (g := gb400) (o := .cells #[.int .i64 a0_0, .int .i64 a0_1, .int .i64 a0_2, .int .i64 a0_3, .int .i64 a0_4, .int .i64 a0_5, .int .i64 a0_6] 23 (0, 0)) (by (with_reducible repeat (first | refine blk_drewN ?_ _ | refine blk_drew ?_ | refine blk_alloc ?_ _)); exact BK400.out) hb)
          have n3_ := Aside0.mk (blk_below (g := gb401) (o := .cells #[.int .i64 a1_0, .int .i64 a1_1] 25 (0, 0)) (by (with_reducible repeat (first | refine blk_drewN ?_ _ | refine blk_drew ?_ | refine blk_alloc ?_ _)); exact BK401.out) hb)
          have n4_ := Aside0.mk (below_step (by repeat (first | (with_reducible first | exact HB.out | apply below_alloc | apply pw_below_drewN | apply below_drew1 | refine below_set ?_ GE400.out | refine below_set ?_ GE401.out) | exact HB.out)) hb)
          clear HO408
          clear BK400
          clear BK401
          clear HB
          have HO408 := n0_
          have HO411 := n1_
          have BK400 := n2_
          have BK401 := n3_
          have HB := n4_
          clear n0_ n1_ n2_ n3_ n4_
          (try clear hb)
          (try clear hb2)
          (try clear hk)
          (try clear hi)
          (try clear ho0)
          refine hK.out _ _ ⟨(blk_cell BK400.out 0).trans rfl, (blk_cell BK400.out 1).trans rfl, (blk_cell BK400.out 2).trans rfl, (blk_cell BK400.out 3).trans rfl, (blk_cell BK400.out 4).trans rfl, (blk_cell BK400.out 5).trans rfl, (blk_cell BK400.out 6).trans rfl, (blk_cell BK401.out 0).trans rfl, (blk_cell BK401.out 1).trans rfl⟩ (fun hHeld => ?_)
          clear hK K
          refine norm_ (a' := ?_) ?_ ?_
          rotate_left
          · show Act.put _ (some 74) _ = _
            simp only [Act.put, List.setIfInBounds_toArray, List.set_cons_zero, List.set_cons_succ, i64_w, i32_w]
            rfl
          refine pure_ (i := 10) (N := some 64) (v := ?_) (a' := ?_) #[true, true, true, true, true, true, true, true, true, true, true, false, false, false, false] rfl rfl (any_of HT_.out (by kernel_rfl)) (fun _ _ _ h => h) (Or.inl ⟨by rfl, ?_⟩) ?_ ?_
          rotate_left
          · intro w'
            go_simp
            with_reducible rfl
          rotate_left
          · simp only [Act.put, List.setIfInBounds_toArray, List.set_cons_zero, List.set_cons_succ, i64_w, i32_w]
            rfl
          refine pure_ (i := 11) (N := some 75) (v := ?_) (a' := ?_) #[true, true, true, true, true, true, true, true, true, true, true, true, false, false, false] rfl rfl (any_of HT_.out (by kernel_rfl)) (fun _ _ _ h => h) (Or.inl ⟨by rfl, ?_⟩) ?_ ?_
          rotate_left
          · intro w'
            go_simp
            with_reducible rfl
          rotate_left
          · simp only [Act.put, List.setIfInBounds_toArray, List.set_cons_zero, List.set_cons_succ, i64_w, i32_w]
            rfl
          refine pure_ (i := 12) (N := some 76) (v := ?_) (a' := ?_) #[true, true, true, true, true, true, true, true, true, true, true, true, true, false, false] rfl rfl (any_of HT_.out (by kernel_rfl)) (fun _ _ _ h => h) (Or.inl ⟨by rfl, ?_⟩) ?_ ?_
          rotate_left
          · intro w'
            go_simp
            with_reducible rfl
          rotate_left
          · simp only [Act.put, List.setIfInBounds_toArray, List.set_cons_zero, List.set_cons_succ, i64_w, i32_w]
            rfl
          refine pure_ (i := 13) (N := some 15) (v := ?_) (a' := ?_) #[true, true, true, true, true, true, true, true, true, true, true, true, true, true, false] rfl rfl (any_of HT_.out (by kernel_rfl)) (fun _ _ _ h => h) (Or.inl ⟨by rfl, ?_⟩) ?_ ?_
          rotate_left
          · intro w'
            go_simp
            with_reducible rfl
          rotate_left
          · simp only [Act.put, List.setIfInBounds_toArray, List.set_cons_zero, List.set_cons_succ, i64_w, i32_w]
            rfl
          refine pure_ (i := 14) (N := some 16) (v := ?_) (a' := ?_) #[true, true, true, true, true, true, true, true, true, true, true, true, true, true, true] rfl rfl (any_of HT_.out (by kernel_rfl)) (fun _ _ _ h => h) (Or.inl ⟨by rfl, ?_⟩) ?_ ?_
          rotate_left
          · intro w'
            go_simp
            with_reducible rfl
          rotate_left
          · simp only [Act.put, List.setIfInBounds_toArray, List.set_cons_zero, List.set_cons_succ, i64_w, i32_w]
            rfl
          refine done_ (done_of HT_.out (by kernel_rfl)) ?_
          go_upto_region 9 with (fail)
          go_cut [84] (fun v84 wc => ∃ (kq : Nat) (x84_25 : Bool), v84 = .bool x84_25 ∧ Aside0 (hopmeshlaw50_LoopBound.j1 kq l3 l4 t404 (wrap64 (1 + (wrap64 (Int.tmod a2 8)))) (wrap64 ((wrap64 ((wrap64 (a0_5 + (wrap64 ((wrap64 ((wrap64 (1 + (wrap64 (Int.tmod a2 8)))) - 1)) * a0_4)))) + t404)) + 1)) t409 x84_25 a0_0 a0_1 a0_2 a0_3 a0_4 a0_5 a0_6 a1_0 a1_1 = some r) ∧ Aside0 (kq ≤ kj5) ∧ Aside0 (Kd.R (Kd.int .i64) 3 wc w.heap.size (fun _ => True) v410 t409) ∧ Aside0 (wc.heap[gb400]? = some (.cells #[.int .i64 a0_0, .int .i64 a0_1, .int .i64 a0_2, .int .i64 a0_3, .int .i64 a0_4, .int .i64 a0_5, .int .i64 a0_6] 23 (0, 0))) ∧ Aside0 (wc.heap[gb401]? = some (.cells #[.int .i64 a1_0, .int .i64 a1_1] 25 (0, 0))) ∧ Aside0 (Below w.heap.size w wc))
          case first =>
            have H := HC26.out
            clear HC26
            by_cases c36 : t412 = 0
            · rw [if_pos c36] at H
              have c36b0 : (t412 == 0) = true := beq_iff_eq.mpr c36
              have c36b1 : (t412 != 0) = false := bne_eq_false_iff_eq.mpr c36
              clear c36
              (first | rw [c36b0] | (simp only [i64_w, i32_w]; rw [c36b0]) | skip)
              have H' := Aside0.mk H
              clear H
              obtain ⟨Ao37, co37, eo37⟩ := Kd.R_slice HO411.out
              subst eo37
              go_wp2
              go_meet
              case rel => exact ⟨_, (((t409.length : Int) != (wrap64 ((wrap64 ((wrap64 (a0_5 + (wrap64 ((wrap64 ((wrap64 (1 + (wrap64 (Int.tmod a2 8)))) - 1)) * a0_4)))) + t404)) + 1)))), (by first | rfl | (simp; done) | (simp [*]; done)), H', ⟨by have := HJ5.out; first | omega | exact Nat.le_refl _⟩, ⟨by (with_reducible repeat (first | apply Kd.R_alloc | apply Kd.R_drewN | apply Kd.R_drew)); exact HO411.out⟩, ⟨by (with_reducible repeat (first | refine blk_drewN ?_ _ | refine blk_drew ?_ | refine blk_alloc ?_ _)); exact BK400.out⟩, ⟨by (with_reducible repeat (first | refine blk_drewN ?_ _ | refine blk_drew ?_ | refine blk_alloc ?_ _)); exact BK401.out⟩, ⟨by repeat (first | (with_reducible first | exact HB.out | apply below_alloc | apply pw_below_drewN | apply below_drew1 | refine below_set ?_ GE400.out | refine below_set ?_ GE401.out) | exact HB.out)⟩⟩
            · rw [if_neg c36] at H
              have c36b0 : (t412 == 0) = false := beq_eq_false_iff_ne.mpr c36
              have c36b1 : (t412 != 0) = true := bne_iff_ne.mpr c36
              (first | rw [c36b0] | (simp only [i64_w, i32_w]; rw [c36b0]) | skip)
              have H' := Aside0.mk H
              clear H
              go_wp2
              go_meet
              case rel => exact ⟨_, (true), (by first | rfl | (simp; done) | (simp [*]; done)), H', ⟨by have := HJ5.out; first | omega | exact Nat.le_refl _⟩, ⟨by (with_reducible repeat (first | apply Kd.R_alloc | apply Kd.R_drewN | apply Kd.R_drew)); exact HO411.out⟩, ⟨by (with_reducible repeat (first | refine blk_drewN ?_ _ | refine blk_drew ?_ | refine blk_alloc ?_ _)); exact BK400.out⟩, ⟨by (with_reducible repeat (first | refine blk_drewN ?_ _ | refine blk_drew ?_ | refine blk_alloc ?_ _)); exact BK401.out⟩, ⟨by repeat (first | (with_reducible first | exact HB.out | apply below_alloc | apply pw_below_drewN | apply below_drew1 | refine below_set ?_ GE400.out | refine below_set ?_ GE401.out) | exact HB.out)⟩⟩
          case rest =>
            clear HC26
            try clear c1
            try clear c2
            try clear p2
            try clear c3
            try clear c4
            try clear p6
            try clear c9
            try clear c10
            try clear c11
            try clear c11b0
            try clear c11b1
            try clear c13
            try clear c13b0
            try clear c13b1
            try clear c16
            try clear c17
            try clear c19
            try clear c23
            try clear c23b0
            try clear c23b1
            try clear c24
            try clear c25
            try clear c27
            try clear c36
            try clear c36b0
            try clear c36b1
            try clear hcz17_0
            try clear hcz17_1
            try clear hcz17_2
            try clear hcz17_3
            try clear hcz17_4
            try clear hcz17_5
            try clear hcz17_6
            try clear hcz28_0
            try clear hcz28_1
            try clear hcz28_2
            try clear hcz28_3
            try clear hcz28_4
            try clear hcz28_5
            try clear hcz28_6
            try clear hcz29_0
            try clear hcz29_1
            try clear hcz31_0
            try clear hcz31_1
            try clear hcz31_2
            try clear hcz31_3
            try clear hcz31_4
            try clear hcz31_5
            try clear hcz31_6
            try clear hfz17_0
            try clear hfz17_1
            try clear hfz17_2
            try clear hfz17_3
            try clear hfz17_4
            try clear hfz17_5
            try clear hfz17_6
            try clear hfz28_0
            try clear hfz28_1
            try clear hfz28_2
            try clear hfz28_3
            try clear hfz28_4
            try clear hfz28_5
            try clear hfz28_6
            try clear hfz29_0
            try clear hfz29_1
            try clear hfz31_0
            try clear hfz31_1
            try clear hfz31_2
            try clear hfz31_3
            try clear hfz31_4
            try clear hfz31_5
            try clear hfz31_6
            try clear p2
            obtain ⟨kq, x84_25, rfl, HA, HJ25, HO_15, BK400, BK401, HB⟩ := hcut
            cases kq with
            | zero => exact absurd HA.out (by simp [hopmeshlaw50_LoopBound.j1])
            | succ kj25 =>
              have H := HA.out
              clear HA
              simp only [hopmeshlaw50_LoopBound.j1] at H
              by_cases c38 : x84_25 = true
              · subst c38
                have H1 : (none) = some r := by rw [if_pos rfl] at H; exact H
                clear H
                have H := H1
                clear H1
                exact absurd H (by simp)
              · replace c38 := Bool.eq_false_iff.mpr c38
                subst c38
                have H1 : (hopmeshlaw50_LoopBound.l0 kj25 l3 l4 t404 (wrap64 (1 + (wrap64 (Int.tmod a2 8)))) (wrap64 ((wrap64 ((wrap64 (a0_5 + (wrap64 ((wrap64 ((wrap64 (1 + (wrap64 (Int.tmod a2 8)))) - 1)) * a0_4)))) + t404)) + 1)) t409 (t409.length : Int) 0 a0_0 a0_1 a0_2 a0_3 a0_4 a0_5 a0_6 a1_0 a1_1) = some r := by rw [if_neg (show ¬ (false = true) by decide)] at H; exact H
                clear H
                have H := H1
                clear H1
                have H' := Aside0.mk H
                clear H
                obtain ⟨Ao39, co39, eo39⟩ := Kd.R_slice HO_15.out
                subst eo39
                go_wp2
                go_loopg [87] kj25 (fun kq v87 w' => ∃ (x87_3 : Int), v87 = .int .i64 x87_3 ∧ Aside0 (hopmeshlaw50_LoopBound.l0 kq l3 l4 t404 (wrap64 (1 + (wrap64 (Int.tmod a2 8)))) (wrap64 ((wrap64 ((wrap64 (a0_5 + (wrap64 ((wrap64 ((wrap64 (1 + (wrap64 (Int.tmod a2 8)))) - 1)) * a0_4)))) + t404)) + 1)) t409 (t409.length : Int) x87_3 a0_0 a0_1 a0_2 a0_3 a0_4 a0_5 a0_6 a1_0 a1_1 = some r) ∧ Aside0 (kq ≤ kj25) ∧ Aside0 (Kd.R (Kd.int .i64) 3 w' w.heap.size (fun _ => True) (.slice Ao39 t409.length co39) t409) ∧ Aside0 (w'.heap[gb400]? = some (.cells #[.int .i64 a0_0, .int .i64 a0_1, .int .i64 a0_2, .int .i64 a0_3, .int .i64 a0_4, .int .i64 a0_5, .int .i64 a0_6] 23 (0, 0))) ∧ Aside0 (w'.heap[gb401]? = some (.cells #[.int .i64 a1_0, .int .i64 a1_1] 25 (0, 0))) ∧ Aside0 (Below w.heap.size w w'))
                case atStart => exact ⟨(0), (by first | rfl | (simp; done) | (simp [*]; done)), H', ⟨Nat.le_refl _⟩, ⟨by (with_reducible repeat (first | apply Kd.R_alloc | apply Kd.R_drewN | apply Kd.R_drew)); exact HO_15.out⟩, ⟨by (with_reducible repeat (first | refine blk_drewN ?_ _ | refine blk_drew ?_ | refine blk_alloc ?_ _)); exact BK400.out⟩, ⟨by (with_reducible repeat (first | refine blk_drewN ?_ _ | refine blk_drew ?_ | refine blk_alloc ?_ _)); exact BK401.out⟩, ⟨by repeat (first | (with_reducible first | exact HB.out | apply below_alloc | apply pw_below_drewN | apply below_drew1 | refine below_set ?_ GE400.out | refine below_set ?_ GE401.out) | exact HB.out)⟩⟩
                case round =>
                  clear H'
                  try clear c1
                  try clear c2
                  try clear p2
                  try clear c3
                  try clear c4
                  try clear p6
                  try clear c9
                  try clear c10
                  try clear c11
                  try clear c11b0
                  try clear c11b1
                  try clear c13
                  try clear c13b0
                  try clear c13b1
                  try clear c16
                  try clear c17
                  try clear c19
                  try clear c23
                  try clear c23b0
                  try clear c23b1
                  try clear c24
                  try clear c25
                  try clear c27
                  try clear c36
                  try clear c36b0
                  try clear c36b1
                  try clear c38
                  try clear hcz17_0
                  try clear hcz17_1
                  try clear hcz17_2
                  try clear hcz17_3
                  try clear hcz17_4
                  try clear hcz17_5
                  try clear hcz17_6
                  try clear hcz28_0
                  try clear hcz28_1
                  try clear hcz28_2
                  try clear hcz28_3
                  try clear hcz28_4
                  try clear hcz28_5
                  try clear hcz28_6
                  try clear hcz29_0
                  try clear hcz29_1
                  try clear hcz31_0
                  try clear hcz31_1
                  try clear hcz31_2
                  try clear hcz31_3
                  try clear hcz31_4
                  try clear hcz31_5
                  try clear hcz31_6
                  try clear hfz17_0
                  try clear hfz17_1
                  try clear hfz17_2
                  try clear hfz17_3
                  try clear hfz17_4
                  try clear hfz17_5
                  try clear hfz17_6
                  try clear hfz28_0
                  try clear hfz28_1
                  try clear hfz28_2
                  try clear hfz28_3
                  try clear hfz28_4
                  try clear hfz28_5
                  try clear hfz28_6
                  try clear hfz29_0
                  try clear hfz29_1
                  try clear hfz31_0
                  try clear hfz31_1
                  try clear hfz31_2
                  try clear hfz31_3
                  try clear hfz31_4
                  try clear hfz31_5
                  try clear hfz31_6
                  try clear p2
                  try clear p6
                  obtain ⟨x87_3, rfl, HA, HK3, HO_85, BK400, BK401, HB⟩ := hrel
                  cases gk with
                  | zero => exact absurd HA.out (by simp [hopmeshlaw50_LoopBound.l0])
                  | succ k3 =>
                    have H := HA.out
                    clear HA
                    simp only [hopmeshlaw50_LoopBound.l0] at H
                    by_cases c40 : x87_3 < (t409.length : Int)
                    · rw [if_pos c40] at H
                      have c40b0 : decide (x87_3 < (t409.length : Int)) = true := decide_eq_true c40
                      clear c40
                      by_cases c41 : 0 ≤ x87_3
                      · rw [if_pos c41] at H
                        have c41b0 : decide (0 ≤ x87_3) = true := decide_eq_true c41
                        clear c41
                        by_cases c42 : x87_3 < (t409.length : Int)
                        · rw [if_pos c42] at H
                          have c42b0 : decide (x87_3 < (t409.length : Int)) = true := decide_eq_true c42
                          clear c42
                          by_cases c43 : (rd t409 x87_3) > t404
                          · rw [if_pos c43] at H
                            exact absurd H (by simp)
                          · rw [if_neg c43] at H
                            have c43b0 : decide (t404 < (rd t409 x87_3)) = false := decide_eq_false c43
                            clear c43
                            by_cases c44 : (rd t409 x87_3) < 0
                            · rw [if_pos c44] at H
                              have c44b0 : decide ((rd t409 x87_3) < 0) = true := decide_eq_true c44
                              clear c44
                              by_cases c45 : x87_3 ≥ (wrap64 ((wrap64 (a0_5 + a1_0)) + a1_1))
                              · rw [if_pos c45] at H
                                exact absurd H (by simp)
                              · rw [if_neg c45] at H
                                have c45b0 : decide ((wrap64 ((wrap64 (a0_5 + a1_0)) + a1_1)) ≤ x87_3) = false := decide_eq_false c45
                                clear c45
                                have H' := Aside0.mk H
                                clear H
                                have p413 : 0 ≤ (x87_3 : Int) := of_decide_eq_true (by first | (with_reducible assumption) | assumption)
                                have q413 : x87_3 < (t409.length : Int) := of_decide_eq_true (by first | (with_reducible assumption) | assumption)
                                obtain ⟨ad413, e413, hx413_0⟩ := Kd.at_int (Kd.R_reads' HO_85.out).2.2 x87_3 p413 q413
                                cases e413
                                replace p413 := eq_true p413
                                replace q413 := eq_true q413
                                have hnb46 := NB400_401.out
                                have hnc46 := NB401_400.out
                                have hcz47_0 : wr.cell? ⟨gb400, 0, none⟩ = some (.int .i64 a0_0) := (blk_cell BK400.out 0).trans rfl
                                have hcz47_1 : wr.cell? ⟨gb400, 1, none⟩ = some (.int .i64 a0_1) := (blk_cell BK400.out 1).trans rfl
                                have hcz47_2 : wr.cell? ⟨gb400, 2, none⟩ = some (.int .i64 a0_2) := (blk_cell BK400.out 2).trans rfl
                                have hcz47_3 : wr.cell? ⟨gb400, 3, none⟩ = some (.int .i64 a0_3) := (blk_cell BK400.out 3).trans rfl
                                have hcz47_4 : wr.cell? ⟨gb400, 4, none⟩ = some (.int .i64 a0_4) := (blk_cell BK400.out 4).trans rfl
                                have hcz47_5 : wr.cell? ⟨gb400, 5, none⟩ = some (.int .i64 a0_5) := (blk_cell BK400.out 5).trans rfl
                                have hcz47_6 : wr.cell? ⟨gb400, 6, none⟩ = some (.int .i64 a0_6) := (blk_cell BK400.out 6).trans rfl
                                have hfz47_0 := blk_frozen BK400.out 0
                                have hfz47_1 := blk_frozen BK400.out 1
                                have hfz47_2 := blk_frozen BK400.out 2
                                have hfz47_3 := blk_frozen BK400.out 3
                                have hfz47_4 := blk_frozen BK400.out 4
                                have hfz47_5 := blk_frozen BK400.out 5
                                have hfz47_6 := blk_frozen BK400.out 6
                                have hcz48_0 : wr.cell? ⟨gb401, 0, none⟩ = some (.int .i64 a1_0) := (blk_cell BK401.out 0).trans rfl
                                have hcz48_1 : wr.cell? ⟨gb401, 1, none⟩ = some (.int .i64 a1_1) := (blk_cell BK401.out 1).trans rfl
                                have hfz48_0 := blk_frozen BK401.out 0
                                have hfz48_1 := blk_frozen BK401.out 1
                                go_wp2
                                go_roundg k3
                                case measure => have := HJ5.out; have := HJ25.out; have := HK3.out; omega
                                case rel => exact ⟨(wrap64 (x87_3 + 1)), (by first | rfl | (simp; done) | (simp [*]; done)), H', ⟨by have := HJ5.out; have := HJ25.out; have := HK3.out; omega⟩, ⟨by (with_reducible repeat (first | apply Kd.R_alloc | apply Kd.R_drewN | apply Kd.R_drew)); exact HO_85.out⟩, ⟨by (with_reducible repeat (first | refine blk_drewN ?_ _ | refine blk_drew ?_ | refine blk_alloc ?_ _)); exact BK400.out⟩, ⟨by (with_reducible repeat (first | refine blk_drewN ?_ _ | refine blk_drew ?_ | refine blk_alloc ?_ _)); exact BK401.out⟩, ⟨by repeat (first | (with_reducible first | exact HB.out | apply below_alloc | apply pw_below_drewN | apply below_drew1 | refine below_set ?_ GE400.out | refine below_set ?_ GE401.out) | exact HB.out)⟩⟩
                            · rw [if_neg c44] at H
                              have c44b0 : decide ((rd t409 x87_3) < 0) = false := decide_eq_false c44
                              clear c44
                              have H' := Aside0.mk H
                              clear H
                              have p413 : 0 ≤ (x87_3 : Int) := of_decide_eq_true (by first | (with_reducible assumption) | assumption)
                              have q413 : x87_3 < (t409.length : Int) := of_decide_eq_true (by first | (with_reducible assumption) | assumption)
                              obtain ⟨ad413, e413, hx413_0⟩ := Kd.at_int (Kd.R_reads' HO_85.out).2.2 x87_3 p413 q413
                              cases e413
                              replace p413 := eq_true p413
                              replace q413 := eq_true q413
                              go_wp2
                              go_roundg k3
                              case measure => have := HJ5.out; have := HJ25.out; have := HK3.out; omega
                              case rel => exact ⟨(wrap64 (x87_3 + 1)), (by first | rfl | (simp; done) | (simp [*]; done)), H', ⟨by have := HJ5.out; have := HJ25.out; have := HK3.out; omega⟩, ⟨by (with_reducible repeat (first | apply Kd.R_alloc | apply Kd.R_drewN | apply Kd.R_drew)); exact HO_85.out⟩, ⟨by (with_reducible repeat (first | refine blk_drewN ?_ _ | refine blk_drew ?_ | refine blk_alloc ?_ _)); exact BK400.out⟩, ⟨by (with_reducible repeat (first | refine blk_drewN ?_ _ | refine blk_drew ?_ | refine blk_alloc ?_ _)); exact BK401.out⟩, ⟨by repeat (first | (with_reducible first | exact HB.out | apply below_alloc | apply pw_below_drewN | apply below_drew1 | refine below_set ?_ GE400.out | refine below_set ?_ GE401.out) | exact HB.out)⟩⟩
                        · rw [if_neg c42] at H
                          exact absurd H (by simp)
                      · rw [if_neg c41] at H
                        exact absurd H (by simp)
                    · rw [if_neg c40] at H
                      have c40b0 : decide (x87_3 < (t409.length : Int)) = false := decide_eq_false c40
                      clear c40
                      replace H := Option.bind_eq_some_iff.mp H
                      obtain ⟨t414, A490, H⟩ := H
                      replace H : ((loop_Late.f k3 a0_0 a0_1 a0_2 a0_3 a0_4 a0_5 a0_6 a1_0 a1_1 t414 (wrap64 ((wrap64 ((wrap64 (a0_5 + (wrap64 ((wrap64 ((wrap64 (1 + (wrap64 (Int.tmod a2 8)))) - 1)) * a0_4)))) + t404)) + 1))).bind fun bt417 => (if bt417.2 = 0 then (some ((bt417.1.length : Int) == 0)) else (none))) = some r := H
                      have A49 := Aside0.mk A490
                      clear A490
                      replace H := Option.bind_eq_some_iff.mp H
                      obtain ⟨⟨t417, t420⟩, A500, H⟩ := H
                      replace H : (if t420 = 0 then (some ((t417.length : Int) == 0)) else (none)) = some r := H
                      have A50 := Aside0.mk A500
                      clear A500
                      by_cases c51 : t420 = 0
                      · rw [if_pos c51] at H
                        have c51b0 : (t420 == 0) = true := beq_iff_eq.mpr c51
                        have c51b1 : (t420 != 0) = false := bne_eq_false_iff_eq.mpr c51
                        clear c51
                        obtain rfl := Option.some.inj H
                        try go_wp2
                        have n0_ := Aside0.mk (Kd.R_drew HO_85.out)
                        have n1_ := Aside0.mk (blk_drew BK400.out)
                        have n2_ := Aside0.mk (blk_drew BK401.out)
                        have n3_ := Aside0.mk (below_drew1 HB.out)
                        clear HO_85
                        clear BK400
                        clear BK401
                        clear HB
                        have HO_85 := n0_
                        have BK400 := n1_
                        have BK401 := n2_
                        have HB := n3_
                        clear n0_ n1_ n2_ n3_
                        refine start_ (n := 15) (S := fun w' => w'.cell? ⟨gb400, 0, none⟩ = some (.int .i64 a0_0) ∧ w'.cell? ⟨gb400, 1, none⟩ = some (.int .i64 a0_1) ∧ w'.cell? ⟨gb400, 2, none⟩ = some (.int .i64 a0_2) ∧ w'.cell? ⟨gb400, 3, none⟩ = some (.int .i64 a0_3) ∧ w'.cell? ⟨gb400, 4, none⟩ = some (.int .i64 a0_4) ∧ w'.cell? ⟨gb400, 5, none⟩ = some (.int .i64 a0_5) ∧ w'.cell? ⟨gb400, 6, none⟩ = some (.int .i64 a0_6) ∧ w'.cell? ⟨gb401, 0, none⟩ = some (.int .i64 a1_0) ∧ w'.cell? ⟨gb401, 1, none⟩ = some (.int .i64 a1_1)) (ds := []) #[false, false, false, false, false, false, false, false, false, false, false, false, false, false, false] (by kernel_rfl) rfl rfl ⟨(blk_cell BK400.out 0).trans rfl, (blk_cell BK400.out 1).trans rfl, (blk_cell BK400.out 2).trans rfl, (blk_cell BK400.out 3).trans rfl, (blk_cell BK400.out 4).trans rfl, (blk_cell BK400.out 5).trans rfl, (blk_cell BK400.out 6).trans rfl, (blk_cell BK401.out 0).trans rfl, (blk_cell BK401.out 1).trans rfl⟩ (fun hHeld => ?_); refine with_tabW hopmeshlaw50_LoopBound.tab17 hopmeshlaw50_LoopBound.bits17 (fun HT_ HW_ => ?_)
                        generalize wr.drew = w52 at HO_85 BK400 BK401 HB hHeld ⊢
                        refine pure_ (i := 4) (N := some 117) (v := ?_) (a' := ?_) #[false, false, false, false, true, false, false, false, false, false, false, false, false, false, false] rfl rfl (any_of HT_.out (by kernel_rfl)) (fun _ _ _ h => h) (Or.inl ⟨by rfl, ?_⟩) ?_ ?_
                        rotate_left
                        · intro w'
                          go_simp
                          with_reducible rfl
                        rotate_left
                        · simp only [Act.put, List.setIfInBounds_toArray, List.set_cons_zero, List.set_cons_succ, i64_w, i32_w]
                          rfl
                        refine pure_ (i := 5) (N := some 118) (v := ?_) (a' := ?_) #[false, false, false, false, true, true, false, false, false, false, false, false, false, false, false] rfl rfl (any_of HT_.out (by kernel_rfl)) (fun _ _ _ h => h) (Or.inl ⟨by rfl, ?_⟩) ?_ ?_
                        rotate_left
                        · intro w'
                          go_simp
                          with_reducible rfl
                        rotate_left
                        · simp only [Act.put, List.setIfInBounds_toArray, List.set_cons_zero, List.set_cons_succ, i64_w, i32_w]
                          rfl
                        refine pure_ (i := 6) (N := some 119) (v := ?_) (a' := ?_) #[false, false, false, false, true, true, true, false, false, false, false, false, false, false, false] rfl rfl (any_of HT_.out (by kernel_rfl)) (fun _ _ _ h => h) (Or.inl ⟨by rfl, ?_⟩) ?_ ?_
                        rotate_left
                        · intro w'
                          go_simp
                          with_reducible rfl
                        rotate_left
                        · simp only [Act.put, List.setIfInBounds_toArray, List.set_cons_zero, List.set_cons_succ, i64_w, i32_w]
                          rfl
                        refine pure_ (i := 8) (N := some 121) (v := ?_) (a' := ?_) #[false, false, false, false, true, true, true, false, true, false, false, false, false, false, false] rfl rfl (any_of HT_.out (by kernel_rfl)) (fun _ _ _ h => h) (Or.inl ⟨by rfl, ?_⟩) ?_ ?_
                        rotate_left
                        · intro w'
                          go_simp
                          with_reducible rfl
                        rotate_left
                        · simp only [Act.put, List.setIfInBounds_toArray, List.set_cons_zero, List.set_cons_succ, i64_w, i32_w]
                          rfl
                        refine take_ (i := 0) (N := some 113) (v := ?_) (a' := ?_) #[true, false, false, false, true, true, true, false, true, false, false, false, false, false, false] rfl rfl (take_ofW HT_.out HW_.out (by kernel_rfl)) (fun _ _ _ h => h) (Or.inl ⟨by rfl, ?_⟩) hHeld ?_ ?_
                        rotate_left
                        · rintro w' ⟨s0, s1, s2, s3, s4, s5, s6, s7, s8⟩
                          go_simp
                          with_reducible rfl
                        rotate_left
                        · simp only [Act.put, List.setIfInBounds_toArray, List.set_cons_zero, List.set_cons_succ, i64_w, i32_w]
                          rfl
                        refine take_ (i := 1) (N := some 114) (v := ?_) (a' := ?_) #[true, true, false, false, true, true, true, false, true, false, false, false, false, false, false] rfl rfl (take_ofW HT_.out HW_.out (by kernel_rfl)) (fun _ _ _ h => h) (Or.inl ⟨by rfl, ?_⟩) hHeld ?_ ?_
                        rotate_left
                        · rintro w' ⟨s0, s1, s2, s3, s4, s5, s6, s7, s8⟩
                          go_simp
                          with_reducible rfl
                        rotate_left
                        · simp only [Act.put, List.setIfInBounds_toArray, List.set_cons_zero, List.set_cons_succ, i64_w, i32_w]
                          rfl
                        refine take_ (i := 2) (N := some 115) (v := ?_) (a' := ?_) #[true, true, true, false, true, true, true, false, true, false, false, false, false, false, false] rfl rfl (take_ofW HT_.out HW_.out (by kernel_rfl)) (fun _ _ _ h => h) (Or.inl ⟨by rfl, ?_⟩) hHeld ?_ ?_
                        rotate_left
                        · rintro w' ⟨s0, s1, s2, s3, s4, s5, s6, s7, s8⟩
                          go_simp
                          with_reducible rfl
                        rotate_left
                        · simp only [Act.put, List.setIfInBounds_toArray, List.set_cons_zero, List.set_cons_succ, i64_w, i32_w]
                          rfl
                        refine take_ (i := 3) (N := some 116) (v := ?_) (a' := ?_) #[true, true, true, true, true, true, true, false, true, false, false, false, false, false, false] rfl rfl (take_ofW HT_.out HW_.out (by kernel_rfl)) (fun _ _ _ h => h) (Or.inl ⟨by rfl, ?_⟩) hHeld ?_ ?_
                        rotate_left
                        · rintro w' ⟨s0, s1, s2, s3, s4, s5, s6, s7, s8⟩
                          go_simp
                          with_reducible rfl
                        rotate_left
                        · simp only [Act.put, List.setIfInBounds_toArray, List.set_cons_zero, List.set_cons_succ, i64_w, i32_w]
                          rfl
                        refine one_ (i := 7) (N := some 120) #[true, true, true, true, true, true, true, true, true, false, false, false, false, false, false] rfl rfl (one_of HT_.out (by kernel_rfl)) (by decide) (fun K hK => ?_)
                        refine goes_ Try.func25 (by kernel_rfl) rfl #[.agg #[.int .i64 a0_0, .int .i64 a0_1, .int .i64 a0_2, .int .i64 a0_3, .int .i64 a0_4, .int .i64 a0_5, .int .i64 a0_6], .agg #[.int .i64 a1_0, .int .i64 a1_1], .int .i64 (wrap64 (1 + (wrap64 (Int.tmod a2 8)))), .slice A3 l3.length c3, .slice A4 l4.length c4] (by rfl) rfl rfl (by (try simp only [List.map_toArray, List.map_cons, List.map_nil]); first | done | rfl | (simp only [List.length_drop, List.length_take]; rfl)) ?_
                        with_reducible refine (hopmeshlaw50_deliver.calls a0_0 a0_1 a0_2 a0_3 a0_4 a0_5 a0_6 a1_0 a1_1 (wrap64 (1 + (wrap64 (Int.tmod a2 8)))) _ _ l3 _ _ l4 t414 _ ?side1 ?side2 ?side3 ?side4 A49.out).mono ?_
                        (case side1 => repeat (first | exact (Kd.C_below HR3.out HB.out) | (with_reducible refine Kd.C_alloc ?_ _) | (with_reducible refine Kd.C_drewN ?_ _) | (with_reducible refine Kd.C_drew ?_)))
                        (case side2 => exact HC3.out)
                        (case side3 => repeat (first | exact (Kd.C_below HR4.out HB.out) | (with_reducible refine Kd.C_alloc ?_ _) | (with_reducible refine Kd.C_drewN ?_ _) | (with_reducible refine Kd.C_drew ?_)))
                        (case side4 => exact HC4.out)
                        rintro e w53 ⟨v415, rfl, ho0, hb⟩
                        refine ⟨_, rfl, ?_⟩
                        have n0_ := Aside0.mk (Kd.R_below (by (with_reducible repeat (first | apply Kd.R_alloc | apply Kd.R_drewN | apply Kd.R_drew)); exact HO_85.out) hb)
                        have n1_ := Aside0.mk (Kd.R_lower ho0 (below_size (by repeat (first | (with_reducible first | exact HB.out | apply below_alloc | apply pw_below_drewN | apply below_drew1 | refine below_set ?_ GE400.out | refine below_set ?_ GE401.out) | exact HB.out))))
                        have n2_ := Aside0.mk (blk_below (g := gb400) (o := .cells #[.int .i64 a0_0, .int .i64 a0_1, .int .i64 a0_2, .int .i64 a0_3, .int .i64 a0_4, .int .i64 a0_5, .int .i64 a0_6] 23 (0, 0)) (by (with_reducible repeat (first | refine blk_drewN ?_ _ | refine blk_drew ?_ | refine blk_alloc ?_ _)); exact BK400.out) hb)
                        have n3_ := Aside0.mk (blk_below (g := gb401) (o := .cells #[.int .i64 a1_0, .int .i64 a1_1] 25 (0, 0)) (by (with_reducible repeat (first | refine blk_drewN ?_ _ | refine blk_drew ?_ | refine blk_alloc ?_ _)); exact BK401.out) hb)
                        have n4_ := Aside0.mk (below_step (by repeat (first | (with_reducible first | exact HB.out | apply below_alloc | apply pw_below_drewN | apply below_drew1 | refine below_set ?_ GE400.out | refine below_set ?_ GE401.out) | exact HB.out)) hb)
                        clear HO_85
                        clear BK400
                        clear BK401
                        clear HB
                        have HO_85 := n0_
                        have HO416 := n1_
                        have BK400 := n2_
                        have BK401 := n3_
                        have HB := n4_
                        clear n0_ n1_ n2_ n3_ n4_
                        (try clear hb)
                        (try clear hb2)
                        (try clear hk)
                        (try clear hi)
                        (try clear ho0)
                        obtain ⟨Ao54, co54, eo54⟩ := Kd.R_slice HO416.out
                        (first | subst eo54 | (injection eo54 with f1_ f2_ f3_; have f4_ := f1_.symm; have f5_ := f3_.symm; clear f1_ f2_ f3_; subst f4_; subst f5_))
                        refine hK.out _ _ ⟨(blk_cell BK400.out 0).trans rfl, (blk_cell BK400.out 1).trans rfl, (blk_cell BK400.out 2).trans rfl, (blk_cell BK400.out 3).trans rfl, (blk_cell BK400.out 4).trans rfl, (blk_cell BK400.out 5).trans rfl, (blk_cell BK400.out 6).trans rfl, (blk_cell BK401.out 0).trans rfl, (blk_cell BK401.out 1).trans rfl⟩ (fun hHeld => ?_)
                        clear hK K
                        refine norm_ (a' := ?_) ?_ ?_
                        rotate_left
                        · show Act.put _ (some 120) _ = _
                          simp only [Act.put, List.setIfInBounds_toArray, List.set_cons_zero, List.set_cons_succ, i64_w, i32_w]
                          rfl
                        refine one_ (i := 9) (N := some 122) #[true, true, true, true, true, true, true, true, true, true, false, false, false, false, false] rfl rfl (one_of HT_.out (by kernel_rfl)) (by decide) (fun K hK => ?_)
                        refine goes_ Try.func21 (by kernel_rfl) rfl #[.agg #[.int .i64 a0_0, .int .i64 a0_1, .int .i64 a0_2, .int .i64 a0_3, .int .i64 a0_4, .int .i64 a0_5, .int .i64 a0_6], .agg #[.int .i64 a1_0, .int .i64 a1_1], .slice Ao54 t414.length co54, .int .i64 (wrap64 ((wrap64 ((wrap64 (a0_5 + (wrap64 ((wrap64 ((wrap64 (1 + (wrap64 (Int.tmod a2 8)))) - 1)) * a0_4)))) + t404)) + 1))] (by rfl) rfl rfl (by (try simp only [List.map_toArray, List.map_cons, List.map_nil]); first | done | rfl | (simp only [List.length_drop, List.length_take]; rfl)) ?_
                        with_reducible refine (loop_Late.calls k3 a0_0 a0_1 a0_2 a0_3 a0_4 a0_5 a0_6 a1_0 a1_1 _ _ t414 (wrap64 ((wrap64 ((wrap64 (a0_5 + (wrap64 ((wrap64 ((wrap64 (1 + (wrap64 (Int.tmod a2 8)))) - 1)) * a0_4)))) + t404)) + 1)) t417 t420 _ ?side1 ?side2 A50.out).mono ?_
                        (case side1 => repeat (first | exact (Kd.R_reads' HO416.out).2.2 | (with_reducible refine Kd.C_alloc ?_ _) | (with_reducible refine Kd.C_drewN ?_ _) | (with_reducible refine Kd.C_drew ?_)))
                        (case side2 => exact (Kd.R_reads' HO416.out).2.1)
                        rintro e w55 ⟨v418, rfl, ho0, hb⟩
                        refine ⟨_, rfl, ?_⟩
                        have n0_ := Aside0.mk (Kd.R_elder' (by (with_reducible repeat (first | apply Kd.R_alloc | apply Kd.R_drewN | apply Kd.R_drew)); exact HO_85.out) (Kd.R_base ho0) hb)
                        have n1_ := Aside0.mk (Kd.R_below (by (with_reducible repeat (first | apply Kd.R_alloc | apply Kd.R_drewN | apply Kd.R_drew)); exact HO416.out) hb)
                        have n2_ := Aside0.mk (Kd.R_lower (Kd.R_new' ho0 (Kd.R_lt (by (with_reducible repeat (first | apply Kd.R_alloc | apply Kd.R_drewN | apply Kd.R_drew)); exact HO_85.out))) (below_size (by repeat (first | (with_reducible first | exact HB.out | apply below_alloc | apply pw_below_drewN | apply below_drew1 | refine below_set ?_ GE400.out | refine below_set ?_ GE401.out) | exact HB.out))))
                        have n3_ := Aside0.mk (blk_below (g := gb400) (o := .cells #[.int .i64 a0_0, .int .i64 a0_1, .int .i64 a0_2, .int .i64 a0_3, .int .i64 a0_4, .int .i64 a0_5, .int .i64 a0_6] 23 (0, 0)) (by (with_reducible repeat (first | refine blk_drewN ?_ _ | refine blk_drew ?_ | refine blk_alloc ?_ _)); exact BK400.out) hb)
                        have n4_ := Aside0.mk (blk_below (g := gb401) (o := .cells #[.int .i64 a1_0, .int .i64 a1_1] 25 (0, 0)) (by (with_reducible repeat (first | refine blk_drewN ?_ _ | refine blk_drew ?_ | refine blk_alloc ?_ _)); exact BK401.out) hb)
                        have n5_ := Aside0.mk (below_step (by repeat (first | (with_reducible first | exact HB.out | apply below_alloc | apply pw_below_drewN | apply below_drew1 | refine below_set ?_ GE400.out | refine below_set ?_ GE401.out) | exact HB.out)) hb)
                        clear HO_85
                        clear HO416
                        clear BK400
                        clear BK401
                        clear HB
                        have HO_85 := n0_
                        have HO416 := n1_
                        have HO419 := n2_
                        have BK400 := n3_
                        have BK401 := n4_
                        have HB := n5_
                        clear n0_ n1_ n2_ n3_ n4_ n5_
                        (try clear hb)
                        (try clear hb2)
                        (try clear hk)
                        (try clear hi)
                        (try clear ho0)
                        refine hK.out _ _ ⟨(blk_cell BK400.out 0).trans rfl, (blk_cell BK400.out 1).trans rfl, (blk_cell BK400.out 2).trans rfl, (blk_cell BK400.out 3).trans rfl, (blk_cell BK400.out 4).trans rfl, (blk_cell BK400.out 5).trans rfl, (blk_cell BK400.out 6).trans rfl, (blk_cell BK401.out 0).trans rfl, (blk_cell BK401.out 1).trans rfl⟩ (fun hHeld => ?_)
                        clear hK K
                        refine norm_ (a' := ?_) ?_ ?_
                        rotate_left
                        · show Act.put _ (some 122) _ = _
                          simp only [Act.put, List.setIfInBounds_toArray, List.set_cons_zero, List.set_cons_succ, i64_w, i32_w]
                          rfl
                        refine pure_ (i := 10) (N := some 112) (v := ?_) (a' := ?_) #[true, true, true, true, true, true, true, true, true, true, true, false, false, false, false] rfl rfl (any_of HT_.out (by kernel_rfl)) (fun _ _ _ h => h) (Or.inl ⟨by rfl, ?_⟩) ?_ ?_
                        rotate_left
                        · intro w'
                          go_simp
                          with_reducible rfl
                        rotate_left
                        · simp only [Act.put, List.setIfInBounds_toArray, List.set_cons_zero, List.set_cons_succ, i64_w, i32_w]
                          rfl
                        refine pure_ (i := 11) (N := some 123) (v := ?_) (a' := ?_) #[true, true, true, true, true, true, true, true, true, true, true, true, false, false, false] rfl rfl (any_of HT_.out (by kernel_rfl)) (fun _ _ _ h => h) (Or.inl ⟨by rfl, ?_⟩) ?_ ?_
                        rotate_left
                        · intro w'
                          go_simp
                          with_reducible rfl
                        rotate_left
                        · simp only [Act.put, List.setIfInBounds_toArray, List.set_cons_zero, List.set_cons_succ, i64_w, i32_w]
                          rfl
                        refine pure_ (i := 12) (N := some 124) (v := ?_) (a' := ?_) #[true, true, true, true, true, true, true, true, true, true, true, true, true, false, false] rfl rfl (any_of HT_.out (by kernel_rfl)) (fun _ _ _ h => h) (Or.inl ⟨by rfl, ?_⟩) ?_ ?_
                        rotate_left
                        · intro w'
                          go_simp
                          with_reducible rfl
                        rotate_left
                        · simp only [Act.put, List.setIfInBounds_toArray, List.set_cons_zero, List.set_cons_succ, i64_w, i32_w]
                          rfl
                        refine pure_ (i := 13) (N := some 19) (v := ?_) (a' := ?_) #[true, true, true, true, true, true, true, true, true, true, true, true, true, true, false] rfl rfl (any_of HT_.out (by kernel_rfl)) (fun _ _ _ h => h) (Or.inl ⟨by rfl, ?_⟩) ?_ ?_
                        rotate_left
                        · intro w'
                          go_simp
                          with_reducible rfl
                        rotate_left
                        · simp only [Act.put, List.setIfInBounds_toArray, List.set_cons_zero, List.set_cons_succ, i64_w, i32_w]
                          rfl
                        refine pure_ (i := 14) (N := some 20) (v := ?_) (a' := ?_) #[true, true, true, true, true, true, true, true, true, true, true, true, true, true, true] rfl rfl (any_of HT_.out (by kernel_rfl)) (fun _ _ _ h => h) (Or.inl ⟨by rfl, ?_⟩) ?_ ?_
                        rotate_left
                        · intro w'
                          go_simp
                          with_reducible rfl
                        rotate_left
                        · simp only [Act.put, List.setIfInBounds_toArray, List.set_cons_zero, List.set_cons_succ, i64_w, i32_w]
                          rfl
                        refine done_ (done_of HT_.out (by kernel_rfl)) ?_
                        obtain ⟨Ao56, co56, eo56⟩ := Kd.R_slice HO419.out
                        subst eo56
                        try go_wp2
                        go_ret
                        exact ⟨by first | rfl | (simp [errW_none, errW_some] <;> rfl) | (simp [*, errW_none, errW_some] <;> rfl), by repeat (first | (with_reducible first | exact HB.out | apply below_alloc | apply pw_below_drewN | apply below_drew1 | refine below_set ?_ GE400.out | refine below_set ?_ GE401.out) | exact HB.out)⟩
                      · rw [if_neg c51] at H
                        exact absurd H (by simp)
        · rw [if_neg c23] at H
          have c23b0 : (t405 == 0) = false := beq_eq_false_iff_ne.mpr c23
          have c23b1 : (t405 != 0) = true := bne_iff_ne.mpr c23
          obtain rfl := Option.some.inj H
          have hnb57 := NB400_401.out
          have hnc57 := NB401_400.out
          have hcz58_0 : wc.cell? ⟨gb400, 0, none⟩ = some (.int .i64 a0_0) := (blk_cell BK400.out 0).trans rfl
          have hcz58_1 : wc.cell? ⟨gb400, 1, none⟩ = some (.int .i64 a0_1) := (blk_cell BK400.out 1).trans rfl
          have hcz58_2 : wc.cell? ⟨gb400, 2, none⟩ = some (.int .i64 a0_2) := (blk_cell BK400.out 2).trans rfl
          have hcz58_3 : wc.cell? ⟨gb400, 3, none⟩ = some (.int .i64 a0_3) := (blk_cell BK400.out 3).trans rfl
          have hcz58_4 : wc.cell? ⟨gb400, 4, none⟩ = some (.int .i64 a0_4) := (blk_cell BK400.out 4).trans rfl
          have hcz58_5 : wc.cell? ⟨gb400, 5, none⟩ = some (.int .i64 a0_5) := (blk_cell BK400.out 5).trans rfl
          have hcz58_6 : wc.cell? ⟨gb400, 6, none⟩ = some (.int .i64 a0_6) := (blk_cell BK400.out 6).trans rfl
          have hfz58_0 := blk_frozen BK400.out 0
          have hfz58_1 := blk_frozen BK400.out 1
          have hfz58_2 := blk_frozen BK400.out 2
          have hfz58_3 := blk_frozen BK400.out 3
          have hfz58_4 := blk_frozen BK400.out 4
          have hfz58_5 := blk_frozen BK400.out 5
          have hfz58_6 := blk_frozen BK400.out 6
          have hcz59_0 : wc.cell? ⟨gb401, 0, none⟩ = some (.int .i64 a1_0) := (blk_cell BK401.out 0).trans rfl
          have hcz59_1 : wc.cell? ⟨gb401, 1, none⟩ = some (.int .i64 a1_1) := (blk_cell BK401.out 1).trans rfl
          have hfz59_0 := blk_frozen BK401.out 0
          have hfz59_1 := blk_frozen BK401.out 1
          go_wp2_with (first | ((with_reducible refine gate_callee (f := 24) rfl ?_); refine goesL_ (some 42) rfl rfl Try.func24 (by kernel_rfl) rfl #[.agg #[.int .i64 a0_0, .int .i64 a0_1, .int .i64 a0_2, .int .i64 a0_3, .int .i64 a0_4, .int .i64 a0_5, .int .i64 a0_6], .agg #[.int .i64 a1_0, .int .i64 a1_1]] rfl (by (try simp only [List.map_toArray, List.map_cons, List.map_nil]); first | done | rfl | (simp only [List.length_drop, List.length_take]; rfl)) ?_; (with_reducible refine (loop_Worst.calls a0_0 a0_1 a0_2 a0_3 a0_4 a0_5 a0_6 a1_0 a1_1 t404 t405 _ A22.out).mono ?_); rintro e w60 ⟨rfl, hb⟩; refine ⟨_, rfl, ?_⟩; have n0_ := Aside0.mk (blk_below (g := gb400) (o := .cells #[.int .i64 a0_0, .int .i64 a0_1, .int .i64 a0_2, .int .i64 a0_3, .int .i64 a0_4, .int .i64 a0_5, .int .i64 a0_6] 23 (0, 0)) (by (with_reducible repeat (first | refine blk_drewN ?_ _ | refine blk_drew ?_ | refine blk_alloc ?_ _)); exact BK400.out) hb); have n1_ := Aside0.mk (blk_below (g := gb401) (o := .cells #[.int .i64 a1_0, .int .i64 a1_1] 25 (0, 0)) (by (with_reducible repeat (first | refine blk_drewN ?_ _ | refine blk_drew ?_ | refine blk_alloc ?_ _)); exact BK401.out) hb); have n2_ := Aside0.mk (below_step (by repeat (first | (with_reducible first | exact HB.out | apply below_alloc | apply pw_below_drewN | apply below_drew1 | refine below_set ?_ GE400.out | refine below_set ?_ GE401.out) | exact HB.out)) hb); clear BK400; clear BK401; clear HB; have BK400 := n0_; have BK401 := n1_; have HB := n2_; clear n0_ n1_ n2_; (try clear hb); (try clear hb2); (try clear hk); (try clear hi)))
          go_ret
          exact ⟨by first | rfl | (simp [errW_none, errW_some] <;> rfl) | (simp [*, errW_none, errW_some] <;> rfl), by repeat (first | (with_reducible first | exact HB.out | apply below_alloc | apply pw_below_drewN | apply below_drew1 | refine below_set ?_ GE400.out | refine below_set ?_ GE401.out) | exact HB.out)⟩

end Go.Proofs.Ytnjljajopdpjjaa.PX
