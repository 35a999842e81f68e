-- Written by wip/xprint.py, a program of this claim's own, over the kit's print program. Lean checks it.
import Derived.Test.YthlgnbeoanafbaaPXx0
import Derived.Test.YthlgnbeoanafbaaPXx1
import Derived.Test.YthlgnbeoanafbaaPXx2
namespace Go.Proofs.Ythlgnbeoanafbaa.PX
open Go.RowKit Go.Proofs.YthlgnbeoanafbaaW.PrintWords Go.Proofs.YthlgnbeoanafbaaW.PrintLast Go.Proofs.YthlgnbeoanafbaaW.PrintMore
attribute [local go_sem] max2_int min2_int max_two min_two max_three min_three max_four min_four   -- for this text's walks alone
set_option linter.unusedVariables false
set_option linter.unusedSimpArgs false

/-! ### hopmeshlaw32_FlowFollows: function 4 -/
def hopmeshlaw32_FlowFollows.j0 : Nat → Int → Int → Int → Bool → Int → Int → Int → Int → Int → Int → Option (Bool)
  | 0, _, _, _, _, _, _, _, _, _, _ => none
  | k + 1, x2, x7, x8, x97, x162000, x162001, x162002, x162003, x162004, x162005 => if x97 = true then (some false) else (if x162003 = 0 then (none) else ((flow_Current.f x162000 x162001 x162002 x162003 x162004 x162005 (wrap64 (x8 + (Int.tmod (wrap64 (x2)) x162003)))).bind fun bt171 => ((flow_Current.f x162000 x162001 x162002 x162003 x162004 x162005 (wrap64 (x162004 - 1))).bind fun bt173 => (if bt171.2 = true then (if bt171.1 = x7 then (if bt173.2 = true then (some false) else (some (bt173.1 == 0))) else (some false)) else (some false)))))
def hopmeshlaw32_FlowFollows.f (k : Nat) (a0_0 : Int) (a0_1 : Int) (a0_2 : Int) (a0_3 : Int) (a0_4 : Int) (a0_5 : Int) (a1 : Int) (a2 : Int) : Option (Bool) := (hopmeshlaw32_awake.f k).bind fun t162 => (if t162 = true then ((flow_Window.f a0_0 a0_1 a0_2 a0_3 a0_4 a0_5 (wrap64 (a1))).bind fun bt163 => ((flow_Window.f a0_0 a0_1 a0_2 a0_3 a0_4 a0_5 (wrap64 ((wrap64 (a1)) + 1))).bind fun bt166 => ((flow_Due.f a0_0 a0_1 a0_2 a0_3 a0_4 a0_5 (wrap64 (a1))).bind fun bt169 => (if bt163.2.2 = 0 then (if bt166.2.2 = 0 then (if bt169.2 = 0 then (if bt166.1 = (wrap64 (bt163.2.1 + 1)) then (if (wrap64 ((wrap64 (bt163.2.1 - bt163.1)) + 1)) = a0_3 then (if bt169.1 < bt163.1 then (hopmeshlaw32_FlowFollows.j0 k a2 (wrap64 (a1)) bt163.1 true a0_0 a0_1 a0_2 a0_3 a0_4 a0_5) else (if bt169.1 > bt163.2.1 then (hopmeshlaw32_FlowFollows.j0 k a2 (wrap64 (a1)) bt163.1 true a0_0 a0_1 a0_2 a0_3 a0_4 a0_5) else (hopmeshlaw32_FlowFollows.j0 k a2 (wrap64 (a1)) bt163.1 ((wrap64 ((wrap64 (bt169.1 - bt163.1)) + 1)) != a0_5) a0_0 a0_1 a0_2 a0_3 a0_4 a0_5))) else (hopmeshlaw32_FlowFollows.j0 k a2 (wrap64 (a1)) bt163.1 true a0_0 a0_1 a0_2 a0_3 a0_4 a0_5)) else (hopmeshlaw32_FlowFollows.j0 k a2 (wrap64 (a1)) bt163.1 true a0_0 a0_1 a0_2 a0_3 a0_4 a0_5)) else (hopmeshlaw32_FlowFollows.j0 k a2 (wrap64 (a1)) bt163.1 true a0_0 a0_1 a0_2 a0_3 a0_4 a0_5)) else (hopmeshlaw32_FlowFollows.j0 k a2 (wrap64 (a1)) bt163.1 true a0_0 a0_1 a0_2 a0_3 a0_4 a0_5)) else (if bt163.2.2 = 1 then (if bt166.2.2 = 1 then (some (bt169.2 == 1)) else (some false)) else (some false)))))) else (some false))
theorem hopmeshlaw32_FlowFollows.mono_l : ∀ k, (∀ y0 y1 y2 y3 y4 y5 y6 y7 y8 y9, LeO (hopmeshlaw32_FlowFollows.j0 k y0 y1 y2 y3 y4 y5 y6 y7 y8 y9) (hopmeshlaw32_FlowFollows.j0 (k + 1) y0 y1 y2 y3 y4 y5 y6 y7 y8 y9))
  | 0 => fun _ _ _ _ _ _ _ _ _ _ r h => by simp [hopmeshlaw32_FlowFollows.j0] at h
  | k + 1 => by
    have ih0 := hopmeshlaw32_FlowFollows.mono_l k
    · intro y0 y1 y2 y3 y4 y5 y6 y7 y8 y9
      unfold hopmeshlaw32_FlowFollows.j0
      repeat' first
      | (with_reducible exact ih0 _ _ _ _ _ _ _ _ _ _)
      | (with_reducible exact hopmeshlaw32_awake.mono _)
      | (with_reducible exact LeO.refl _)
      | (with_reducible exact LeO.none _)
      | (with_reducible refine LeO.ite ?_ ?_)
      | (with_reducible refine LeO.bind ?_ (fun _ => ?_))
      | exact ih0 _ _ _ _ _ _ _ _ _ _
      | exact hopmeshlaw32_awake.mono _
      | exact LeO.none _
      | refine LeO.ite ?_ ?_
      | refine LeO.bind ?_ (fun _ => ?_)
theorem hopmeshlaw32_FlowFollows.mono : ∀ a0 a1 a2 a3 a4 a5 a6 a7 k, LeO (hopmeshlaw32_FlowFollows.f k a0 a1 a2 a3 a4 a5 a6 a7) (hopmeshlaw32_FlowFollows.f (k + 1) a0 a1 a2 a3 a4 a5 a6 a7) := by
  intro a0 a1 a2 a3 a4 a5 a6 a7 k
  have ih0 := hopmeshlaw32_FlowFollows.mono_l k
  unfold hopmeshlaw32_FlowFollows.f
  repeat' first
      | (with_reducible exact ih0 _ _ _ _ _ _ _ _ _ _)
      | (with_reducible exact hopmeshlaw32_awake.mono _)
      | (with_reducible exact LeO.refl _)
      | (with_reducible exact LeO.none _)
      | (with_reducible refine LeO.ite ?_ ?_)
      | (with_reducible refine LeO.bind ?_ (fun _ => ?_))
      | exact ih0 _ _ _ _ _ _ _ _ _ _
      | exact hopmeshlaw32_awake.mono _
      | exact LeO.none _
      | refine LeO.ite ?_ ?_
      | refine LeO.bind ?_ (fun _ => ?_)
set_option maxHeartbeats 8000000 in
set_option maxRecDepth 100000 in
theorem hopmeshlaw32_FlowFollows.calls (k : Nat) (a0_0 : Int) (a0_1 : Int) (a0_2 : Int) (a0_3 : Int) (a0_4 : Int) (a0_5 : Int) (a1 : Int) (a2 : Int) (r : Bool) (w : World) (h : hopmeshlaw32_FlowFollows.f k a0_0 a0_1 a0_2 a0_3 a0_4 a0_5 a1 a2 = some r) :
    Calls Try.prog 4 #[.agg #[.int .i64 a0_0, .int .i64 a0_1, .int .i64 a0_2, .int .i64 a0_3, .int .i64 a0_4, .int .i64 a0_5], .int .u16 a1, .int .u16 a2] w fun e w' => e = .returned (.bool r) ∧ Below w.heap.size w w' := by
  have hu23 := Try.underlying23
  have HB := Aside0.mk (Below.refl w.heap.size w)
  have H : ((hopmeshlaw32_awake.f k).bind fun t162 => (if t162 = true then ((flow_Window.f a0_0 a0_1 a0_2 a0_3 a0_4 a0_5 (wrap64 (a1))).bind fun bt163 => ((flow_Window.f a0_0 a0_1 a0_2 a0_3 a0_4 a0_5 (wrap64 ((wrap64 (a1)) + 1))).bind fun bt166 => ((flow_Due.f a0_0 a0_1 a0_2 a0_3 a0_4 a0_5 (wrap64 (a1))).bind fun bt169 => (if bt163.2.2 = 0 then (if bt166.2.2 = 0 then (if bt169.2 = 0 then (if bt166.1 = (wrap64 (bt163.2.1 + 1)) then (if (wrap64 ((wrap64 (bt163.2.1 - bt163.1)) + 1)) = a0_3 then (if bt169.1 < bt163.1 then (hopmeshlaw32_FlowFollows.j0 k a2 (wrap64 (a1)) bt163.1 true a0_0 a0_1 a0_2 a0_3 a0_4 a0_5) else (if bt169.1 > bt163.2.1 then (hopmeshlaw32_FlowFollows.j0 k a2 (wrap64 (a1)) bt163.1 true a0_0 a0_1 a0_2 a0_3 a0_4 a0_5) else (hopmeshlaw32_FlowFollows.j0 k a2 (wrap64 (a1)) bt163.1 ((wrap64 ((wrap64 (bt169.1 - bt163.1)) + 1)) != a0_5) a0_0 a0_1 a0_2 a0_3 a0_4 a0_5))) else (hopmeshlaw32_FlowFollows.j0 k a2 (wrap64 (a1)) bt163.1 true a0_0 a0_1 a0_2 a0_3 a0_4 a0_5)) else (hopmeshlaw32_FlowFollows.j0 k a2 (wrap64 (a1)) bt163.1 true a0_0 a0_1 a0_2 a0_3 a0_4 a0_5)) else (hopmeshlaw32_FlowFollows.j0 k a2 (wrap64 (a1)) bt163.1 true a0_0 a0_1 a0_2 a0_3 a0_4 a0_5)) else (hopmeshlaw32_FlowFollows.j0 k a2 (wrap64 (a1)) bt163.1 true a0_0 a0_1 a0_2 a0_3 a0_4 a0_5)) else (if bt163.2.2 = 1 then (if bt166.2.2 = 1 then (some (bt169.2 == 1)) else (some false)) else (some false)))))) else (some false))) = some r := h
  clear h
  replace H := Option.bind_eq_some_iff.mp H
  obtain ⟨t162, A40, H⟩ := H
  replace H : (if t162 = true then ((flow_Window.f a0_0 a0_1 a0_2 a0_3 a0_4 a0_5 (wrap64 (a1))).bind fun bt163 => ((flow_Window.f a0_0 a0_1 a0_2 a0_3 a0_4 a0_5 (wrap64 ((wrap64 (a1)) + 1))).bind fun bt166 => ((flow_Due.f a0_0 a0_1 a0_2 a0_3 a0_4 a0_5 (wrap64 (a1))).bind fun bt169 => (if bt163.2.2 = 0 then (if bt166.2.2 = 0 then (if bt169.2 = 0 then (if bt166.1 = (wrap64 (bt163.2.1 + 1)) then (if (wrap64 ((wrap64 (bt163.2.1 - bt163.1)) + 1)) = a0_3 then (if bt169.1 < bt163.1 then (hopmeshlaw32_FlowFollows.j0 k a2 (wrap64 (a1)) bt163.1 true a0_0 a0_1 a0_2 a0_3 a0_4 a0_5) else (if bt169.1 > bt163.2.1 then (hopmeshlaw32_FlowFollows.j0 k a2 (wrap64 (a1)) bt163.1 true a0_0 a0_1 a0_2 a0_3 a0_4 a0_5) else (hopmeshlaw32_FlowFollows.j0 k a2 (wrap64 (a1)) bt163.1 ((wrap64 ((wrap64 (bt169.1 - bt163.1)) + 1)) != a0_5) a0_0 a0_1 a0_2 a0_3 a0_4 a0_5))) else (hopmeshlaw32_FlowFollows.j0 k a2 (wrap64 (a1)) bt163.1 true a0_0 a0_1 a0_2 a0_3 a0_4 a0_5)) else (hopmeshlaw32_FlowFollows.j0 k a2 (wrap64 (a1)) bt163.1 true a0_0 a0_1 a0_2 a0_3 a0_4 a0_5)) else (hopmeshlaw32_FlowFollows.j0 k a2 (wrap64 (a1)) bt163.1 true a0_0 a0_1 a0_2 a0_3 a0_4 a0_5)) else (hopmeshlaw32_FlowFollows.j0 k a2 (wrap64 (a1)) bt163.1 true a0_0 a0_1 a0_2 a0_3 a0_4 a0_5)) else (if bt163.2.2 = 1 then (if bt166.2.2 = 1 then (some (bt169.2 == 1)) else (some false)) else (some false)))))) else (some false)) = some r := H
  have A4 := Aside0.mk A40
  clear A40
  by_cases c5 : t162 = true
  · subst c5
    have H1 : ((flow_Window.f a0_0 a0_1 a0_2 a0_3 a0_4 a0_5 (wrap64 (a1))).bind fun bt163 => ((flow_Window.f a0_0 a0_1 a0_2 a0_3 a0_4 a0_5 (wrap64 ((wrap64 (a1)) + 1))).bind fun bt166 => ((flow_Due.f a0_0 a0_1 a0_2 a0_3 a0_4 a0_5 (wrap64 (a1))).bind fun bt169 => (if bt163.2.2 = 0 then (if bt166.2.2 = 0 then (if bt169.2 = 0 then (if bt166.1 = (wrap64 (bt163.2.1 + 1)) then (if (wrap64 ((wrap64 (bt163.2.1 - bt163.1)) + 1)) = a0_3 then (if bt169.1 < bt163.1 then (hopmeshlaw32_FlowFollows.j0 k a2 (wrap64 (a1)) bt163.1 true a0_0 a0_1 a0_2 a0_3 a0_4 a0_5) else (if bt169.1 > bt163.2.1 then (hopmeshlaw32_FlowFollows.j0 k a2 (wrap64 (a1)) bt163.1 true a0_0 a0_1 a0_2 a0_3 a0_4 a0_5) else (hopmeshlaw32_FlowFollows.j0 k a2 (wrap64 (a1)) bt163.1 ((wrap64 ((wrap64 (bt169.1 - bt163.1)) + 1)) != a0_5) a0_0 a0_1 a0_2 a0_3 a0_4 a0_5))) else (hopmeshlaw32_FlowFollows.j0 k a2 (wrap64 (a1)) bt163.1 true a0_0 a0_1 a0_2 a0_3 a0_4 a0_5)) else (hopmeshlaw32_FlowFollows.j0 k a2 (wrap64 (a1)) bt163.1 true a0_0 a0_1 a0_2 a0_3 a0_4 a0_5)) else (hopmeshlaw32_FlowFollows.j0 k a2 (wrap64 (a1)) bt163.1 true a0_0 a0_1 a0_2 a0_3 a0_4 a0_5)) else (hopmeshlaw32_FlowFollows.j0 k a2 (wrap64 (a1)) bt163.1 true a0_0 a0_1 a0_2 a0_3 a0_4 a0_5)) else (if bt163.2.2 = 1 then (if bt166.2.2 = 1 then (some (bt169.2 == 1)) else (some false)) else (some false)))))) = some r := by rw [if_pos rfl] at H; exact H
    clear H
    have H := H1
    clear H1
    replace H := Option.bind_eq_some_iff.mp H
    obtain ⟨⟨t163, t164, t165⟩, A60, H⟩ := H
    replace H : ((flow_Window.f a0_0 a0_1 a0_2 a0_3 a0_4 a0_5 (wrap64 ((wrap64 (a1)) + 1))).bind fun bt166 => ((flow_Due.f a0_0 a0_1 a0_2 a0_3 a0_4 a0_5 (wrap64 (a1))).bind fun bt169 => (if t165 = 0 then (if bt166.2.2 = 0 then (if bt169.2 = 0 then (if bt166.1 = (wrap64 (t164 + 1)) then (if (wrap64 ((wrap64 (t164 - t163)) + 1)) = a0_3 then (if bt169.1 < t163 then (hopmeshlaw32_FlowFollows.j0 k a2 (wrap64 (a1)) t163 true a0_0 a0_1 a0_2 a0_3 a0_4 a0_5) else (if bt169.1 > t164 then (hopmeshlaw32_FlowFollows.j0 k a2 (wrap64 (a1)) t163 true a0_0 a0_1 a0_2 a0_3 a0_4 a0_5) else (hopmeshlaw32_FlowFollows.j0 k a2 (wrap64 (a1)) t163 ((wrap64 ((wrap64 (bt169.1 - t163)) + 1)) != a0_5) a0_0 a0_1 a0_2 a0_3 a0_4 a0_5))) else (hopmeshlaw32_FlowFollows.j0 k a2 (wrap64 (a1)) t163 true a0_0 a0_1 a0_2 a0_3 a0_4 a0_5)) else (hopmeshlaw32_FlowFollows.j0 k a2 (wrap64 (a1)) t163 true a0_0 a0_1 a0_2 a0_3 a0_4 a0_5)) else (hopmeshlaw32_FlowFollows.j0 k a2 (wrap64 (a1)) t163 true a0_0 a0_1 a0_2 a0_3 a0_4 a0_5)) else (hopmeshlaw32_FlowFollows.j0 k a2 (wrap64 (a1)) t163 true a0_0 a0_1 a0_2 a0_3 a0_4 a0_5)) else (if t165 = 1 then (if bt166.2.2 = 1 then (some (bt169.2 == 1)) else (some false)) else (some false))))) = some r := H
    have A6 := Aside0.mk A60
    clear A60
    replace H := Option.bind_eq_some_iff.mp H
    obtain ⟨⟨t166, t167, t168⟩, A70, H⟩ := H
    replace H : ((flow_Due.f a0_0 a0_1 a0_2 a0_3 a0_4 a0_5 (wrap64 (a1))).bind fun bt169 => (if t165 = 0 then (if t168 = 0 then (if bt169.2 = 0 then (if t166 = (wrap64 (t164 + 1)) then (if (wrap64 ((wrap64 (t164 - t163)) + 1)) = a0_3 then (if bt169.1 < t163 then (hopmeshlaw32_FlowFollows.j0 k a2 (wrap64 (a1)) t163 true a0_0 a0_1 a0_2 a0_3 a0_4 a0_5) else (if bt169.1 > t164 then (hopmeshlaw32_FlowFollows.j0 k a2 (wrap64 (a1)) t163 true a0_0 a0_1 a0_2 a0_3 a0_4 a0_5) else (hopmeshlaw32_FlowFollows.j0 k a2 (wrap64 (a1)) t163 ((wrap64 ((wrap64 (bt169.1 - t163)) + 1)) != a0_5) a0_0 a0_1 a0_2 a0_3 a0_4 a0_5))) else (hopmeshlaw32_FlowFollows.j0 k a2 (wrap64 (a1)) t163 true a0_0 a0_1 a0_2 a0_3 a0_4 a0_5)) else (hopmeshlaw32_FlowFollows.j0 k a2 (wrap64 (a1)) t163 true a0_0 a0_1 a0_2 a0_3 a0_4 a0_5)) else (hopmeshlaw32_FlowFollows.j0 k a2 (wrap64 (a1)) t163 true a0_0 a0_1 a0_2 a0_3 a0_4 a0_5)) else (hopmeshlaw32_FlowFollows.j0 k a2 (wrap64 (a1)) t163 true a0_0 a0_1 a0_2 a0_3 a0_4 a0_5)) else (if t165 = 1 then (if t168 = 1 then (some (bt169.2 == 1)) else (some false)) else (some false)))) = some r := H
    have A7 := Aside0.mk A70
    clear A70
    replace H := Option.bind_eq_some_iff.mp H
    obtain ⟨⟨t169, t170⟩, A80, H⟩ := H
    replace H : (if t165 = 0 then (if t168 = 0 then (if t170 = 0 then (if t166 = (wrap64 (t164 + 1)) then (if (wrap64 ((wrap64 (t164 - t163)) + 1)) = a0_3 then (if t169 < t163 then (hopmeshlaw32_FlowFollows.j0 k a2 (wrap64 (a1)) t163 true a0_0 a0_1 a0_2 a0_3 a0_4 a0_5) else (if t169 > t164 then (hopmeshlaw32_FlowFollows.j0 k a2 (wrap64 (a1)) t163 true a0_0 a0_1 a0_2 a0_3 a0_4 a0_5) else (hopmeshlaw32_FlowFollows.j0 k a2 (wrap64 (a1)) t163 ((wrap64 ((wrap64 (t169 - t163)) + 1)) != a0_5) a0_0 a0_1 a0_2 a0_3 a0_4 a0_5))) else (hopmeshlaw32_FlowFollows.j0 k a2 (wrap64 (a1)) t163 true a0_0 a0_1 a0_2 a0_3 a0_4 a0_5)) else (hopmeshlaw32_FlowFollows.j0 k a2 (wrap64 (a1)) t163 true a0_0 a0_1 a0_2 a0_3 a0_4 a0_5)) else (hopmeshlaw32_FlowFollows.j0 k a2 (wrap64 (a1)) t163 true a0_0 a0_1 a0_2 a0_3 a0_4 a0_5)) else (hopmeshlaw32_FlowFollows.j0 k a2 (wrap64 (a1)) t163 true a0_0 a0_1 a0_2 a0_3 a0_4 a0_5)) else (if t165 = 1 then (if t168 = 1 then (some (t170 == 1)) else (some false)) else (some false))) = some r := H
    have A8 := Aside0.mk A80
    clear A80
    by_cases c9 : t165 = 0
    · rw [if_pos c9] at H
      have c9b0 : (t165 == 0) = true := beq_iff_eq.mpr c9
      have c9b1 : (t165 != 0) = false := bne_eq_false_iff_eq.mpr c9
      clear c9
      have HC10 := Aside0.mk H
      clear H
      go_enter Try.func4, Try.ntmps4
      go_upto_region 9 with (first | ((with_reducible refine gate_dst (N := 3) rfl ?_); refine box_event ?hg (N := 3) ?hd (cs := #[.int .i64 a0_0, .int .i64 a0_1, .int .i64 a0_2, .int .i64 a0_3, .int .i64 a0_4, .int .i64 a0_5]) (t := 23) ?hr ?_; (case hd => rfl); (case hg => rfl); (case hr => first | (go_simp; done) | (go_simp; rfl)); intro gb161 hg w11 hbox hb; have n0_ := Aside0.mk (below_step (by repeat (first | (with_reducible first | exact HB.out | apply below_alloc | apply pw_below_drewN | apply below_drew1) | exact HB.out)) hb); have n1_ := Aside0.mk (hbox); have n2_ := Aside0.mk ((by rw [hg]; exact (below_size (by repeat (first | (with_reducible first | exact HB.out | apply below_alloc | apply pw_below_drewN | apply below_drew1) | exact HB.out))) : w.heap.size ≤ gb161)); have n3_ := Aside0.mk ((by rw [hg]; exact (below_size (by repeat (first | (with_reducible first | exact HB.out | apply below_alloc | apply pw_below_drewN | apply below_drew1) | exact HB.out))) : w.heap.size ≤ gb161)); clear HB; have HB := n0_; have BK161 := n1_; have GW161 := n2_; have GE161 := n3_; clear n0_ n1_ n2_ n3_; clear hb hbox hg) | ((with_reducible refine gate_callee (f := 10) rfl ?_); refine goesL_ (some 21) rfl rfl Try.func10 (by kernel_rfl) rfl #[] rfl (by (try simp only [List.map_toArray, List.map_cons, List.map_nil]); first | done | rfl | (simp only [List.length_drop, List.length_take]; rfl)) ?_; (with_reducible refine (hopmeshlaw32_awake.calls k  true _ A4.out).mono ?_); rintro e w12 ⟨rfl, hb⟩; refine ⟨_, rfl, ?_⟩; have n0_ := Aside0.mk (blk_below (g := gb161) (o := .cells #[.int .i64 a0_0, .int .i64 a0_1, .int .i64 a0_2, .int .i64 a0_3, .int .i64 a0_4, .int .i64 a0_5] 23 (0, 0)) (by (with_reducible repeat (first | refine blk_drewN ?_ _ | refine blk_drew ?_ | refine blk_alloc ?_ _)); exact BK161.out) hb); have n1_ := Aside0.mk (below_step (by repeat (first | (with_reducible first | exact HB.out | apply below_alloc | apply pw_below_drewN | apply below_drew1 | refine below_set ?_ GE161.out) | exact HB.out)) hb); clear BK161; clear HB; have BK161 := n0_; have HB := n1_; clear n0_ n1_; (try clear hb); (try clear hb2); (try clear hk); (try clear hi); have hcz13_0 : w12.cell? ⟨gb161, 0, none⟩ = some (.int .i64 a0_0) := (blk_cell BK161.out 0).trans rfl; have hcz13_1 : w12.cell? ⟨gb161, 1, none⟩ = some (.int .i64 a0_1) := (blk_cell BK161.out 1).trans rfl; have hcz13_2 : w12.cell? ⟨gb161, 2, none⟩ = some (.int .i64 a0_2) := (blk_cell BK161.out 2).trans rfl; have hcz13_3 : w12.cell? ⟨gb161, 3, none⟩ = some (.int .i64 a0_3) := (blk_cell BK161.out 3).trans rfl; have hcz13_4 : w12.cell? ⟨gb161, 4, none⟩ = some (.int .i64 a0_4) := (blk_cell BK161.out 4).trans rfl; have hcz13_5 : w12.cell? ⟨gb161, 5, none⟩ = some (.int .i64 a0_5) := (blk_cell BK161.out 5).trans rfl; have hfz13_0 := blk_frozen BK161.out 0; have hfz13_1 := blk_frozen BK161.out 1; have hfz13_2 := blk_frozen BK161.out 2; have hfz13_3 := blk_frozen BK161.out 3; have hfz13_4 := blk_frozen BK161.out 4; have hfz13_5 := blk_frozen BK161.out 5) | ((with_reducible refine gate_callee (f := 11) rfl ?_); refine goesL_ (some 28) rfl rfl Try.func11 (by kernel_rfl) rfl #[.agg #[.int .i64 a0_0, .int .i64 a0_1, .int .i64 a0_2, .int .i64 a0_3, .int .i64 a0_4, .int .i64 a0_5], .int .i64 (wrap64 (a1))] rfl (by (try simp only [List.map_toArray, List.map_cons, List.map_nil]); first | done | rfl | (simp only [List.length_drop, List.length_take]; rfl)) ?_; (with_reducible refine (flow_Window.calls a0_0 a0_1 a0_2 a0_3 a0_4 a0_5 (wrap64 (a1)) t163 t164 t165 _ A6.out).mono ?_); rintro e w14 ⟨rfl, hb⟩; refine ⟨_, rfl, ?_⟩; have n0_ := Aside0.mk (blk_below (g := gb161) (o := .cells #[.int .i64 a0_0, .int .i64 a0_1, .int .i64 a0_2, .int .i64 a0_3, .int .i64 a0_4, .int .i64 a0_5] 23 (0, 0)) (by (with_reducible repeat (first | refine blk_drewN ?_ _ | refine blk_drew ?_ | refine blk_alloc ?_ _)); exact BK161.out) hb); have n1_ := Aside0.mk (below_step (by repeat (first | (with_reducible first | exact HB.out | apply below_alloc | apply pw_below_drewN | apply below_drew1 | refine below_set ?_ GE161.out) | exact HB.out)) hb); clear BK161; clear HB; have BK161 := n0_; have HB := n1_; clear n0_ n1_; (try clear hb); (try clear hb2); (try clear hk); (try clear hi); have hcz15_0 : w14.cell? ⟨gb161, 0, none⟩ = some (.int .i64 a0_0) := (blk_cell BK161.out 0).trans rfl; have hcz15_1 : w14.cell? ⟨gb161, 1, none⟩ = some (.int .i64 a0_1) := (blk_cell BK161.out 1).trans rfl; have hcz15_2 : w14.cell? ⟨gb161, 2, none⟩ = some (.int .i64 a0_2) := (blk_cell BK161.out 2).trans rfl; have hcz15_3 : w14.cell? ⟨gb161, 3, none⟩ = some (.int .i64 a0_3) := (blk_cell BK161.out 3).trans rfl; have hcz15_4 : w14.cell? ⟨gb161, 4, none⟩ = some (.int .i64 a0_4) := (blk_cell BK161.out 4).trans rfl; have hcz15_5 : w14.cell? ⟨gb161, 5, none⟩ = some (.int .i64 a0_5) := (blk_cell BK161.out 5).trans rfl; have hfz15_0 := blk_frozen BK161.out 0; have hfz15_1 := blk_frozen BK161.out 1; have hfz15_2 := blk_frozen BK161.out 2; have hfz15_3 := blk_frozen BK161.out 3; have hfz15_4 := blk_frozen BK161.out 4; have hfz15_5 := blk_frozen BK161.out 5) | ((with_reducible refine gate_callee (f := 11) rfl ?_); refine goesL_ (some 36) rfl rfl Try.func11 (by kernel_rfl) rfl #[.agg #[.int .i64 a0_0, .int .i64 a0_1, .int .i64 a0_2, .int .i64 a0_3, .int .i64 a0_4, .int .i64 a0_5], .int .i64 (wrap64 ((wrap64 (a1)) + 1))] rfl (by (try simp only [List.map_toArray, List.map_cons, List.map_nil]); first | done | rfl | (simp only [List.length_drop, List.length_take]; rfl)) ?_; (with_reducible refine (flow_Window.calls a0_0 a0_1 a0_2 a0_3 a0_4 a0_5 (wrap64 ((wrap64 (a1)) + 1)) t166 t167 t168 _ A7.out).mono ?_); rintro e w16 ⟨rfl, hb⟩; refine ⟨_, rfl, ?_⟩; have n0_ := Aside0.mk (blk_below (g := gb161) (o := .cells #[.int .i64 a0_0, .int .i64 a0_1, .int .i64 a0_2, .int .i64 a0_3, .int .i64 a0_4, .int .i64 a0_5] 23 (0, 0)) (by (with_reducible repeat (first | refine blk_drewN ?_ _ | refine blk_drew ?_ | refine blk_alloc ?_ _)); exact BK161.out) hb); have n1_ := Aside0.mk (below_step (by repeat (first | (with_reducible first | exact HB.out | apply below_alloc | apply pw_below_drewN | apply below_drew1 | refine below_set ?_ GE161.out) | exact HB.out)) hb); clear BK161; clear HB; have BK161 := n0_; have HB := n1_; clear n0_ n1_; (try clear hb); (try clear hb2); (try clear hk); (try clear hi); have hcz17_0 : w16.cell? ⟨gb161, 0, none⟩ = some (.int .i64 a0_0) := (blk_cell BK161.out 0).trans rfl; have hcz17_1 : w16.cell? ⟨gb161, 1, none⟩ = some (.int .i64 a0_1) := (blk_cell BK161.out 1).trans rfl; have hcz17_2 : w16.cell? ⟨gb161, 2, none⟩ = some (.int .i64 a0_2) := (blk_cell BK161.out 2).trans rfl; have hcz17_3 : w16.cell? ⟨gb161, 3, none⟩ = some (.int .i64 a0_3) := (blk_cell BK161.out 3).trans rfl; have hcz17_4 : w16.cell? ⟨gb161, 4, none⟩ = some (.int .i64 a0_4) := (blk_cell BK161.out 4).trans rfl; have hcz17_5 : w16.cell? ⟨gb161, 5, none⟩ = some (.int .i64 a0_5) := (blk_cell BK161.out 5).trans rfl; have hfz17_0 := blk_frozen BK161.out 0; have hfz17_1 := blk_frozen BK161.out 1; have hfz17_2 := blk_frozen BK161.out 2; have hfz17_3 := blk_frozen BK161.out 3; have hfz17_4 := blk_frozen BK161.out 4; have hfz17_5 := blk_frozen BK161.out 5) | ((with_reducible refine gate_callee (f := 13) rfl ?_); refine goesL_ (some 43) rfl rfl Try.func13 (by kernel_rfl) rfl #[.agg #[.int .i64 a0_0, .int .i64 a0_1, .int .i64 a0_2, .int .i64 a0_3, .int .i64 a0_4, .int .i64 a0_5], .int .i64 (wrap64 (a1))] rfl (by (try simp only [List.map_toArray, List.map_cons, List.map_nil]); first | done | rfl | (simp only [List.length_drop, List.length_take]; rfl)) ?_; (with_reducible refine (flow_Due.calls a0_0 a0_1 a0_2 a0_3 a0_4 a0_5 (wrap64 (a1)) t169 t170 _ A8.out).mono ?_); rintro e w18 ⟨rfl, hb⟩; refine ⟨_, rfl, ?_⟩; have n0_ := Aside0.mk (blk_below (g := gb161) (o := .cells #[.int .i64 a0_0, .int .i64 a0_1, .int .i64 a0_2, .int .i64 a0_3, .int .i64 a0_4, .int .i64 a0_5] 23 (0, 0)) (by (with_reducible repeat (first | refine blk_drewN ?_ _ | refine blk_drew ?_ | refine blk_alloc ?_ _)); exact BK161.out) hb); have n1_ := Aside0.mk (below_step (by repeat (first | (with_reducible first | exact HB.out | apply below_alloc | apply pw_below_drewN | apply below_drew1 | refine below_set ?_ GE161.out) | exact HB.out)) hb); clear BK161; clear HB; have BK161 := n0_; have HB := n1_; clear n0_ n1_; (try clear hb); (try clear hb2); (try clear hk); (try clear hi)))
      (try simp only [Act.put, List.setIfInBounds_toArray, List.set_cons_zero, List.set_cons_succ])
      go_cut [97] (fun v97 wc => ∃ (kq : Nat) (x97_9 : Bool), v97 = .bool x97_9 ∧ Aside0 (hopmeshlaw32_FlowFollows.j0 kq a2 (wrap64 (a1)) t163 x97_9 a0_0 a0_1 a0_2 a0_3 a0_4 a0_5 = some r) ∧ Aside0 (kq ≤ k) ∧ Aside0 (wc.heap[gb161]? = some (.cells #[.int .i64 a0_0, .int .i64 a0_1, .int .i64 a0_2, .int .i64 a0_3, .int .i64 a0_4, .int .i64 a0_5] 23 (0, 0))) ∧ Aside0 (Below w.heap.size w wc))
      case first =>
        have H := HC10.out
        clear HC10
        by_cases c19 : t168 = 0
        · rw [if_pos c19] at H
          have c19b0 : (t168 == 0) = true := beq_iff_eq.mpr c19
          have c19b1 : (t168 != 0) = false := bne_eq_false_iff_eq.mpr c19
          clear c19
          (first | rw [c19b0] | (simp only [i64_w, i32_w]; rw [c19b0]) | skip)
          by_cases c20 : t170 = 0
          · rw [if_pos c20] at H
            have c20b0 : (t170 == 0) = true := beq_iff_eq.mpr c20
            have c20b1 : (t170 != 0) = false := bne_eq_false_iff_eq.mpr c20
            clear c20
            by_cases c21 : t166 = (wrap64 (t164 + 1))
            · rw [if_pos c21] at H
              have c21b0 : (t166 == (wrap64 (t164 + 1))) = true := beq_iff_eq.mpr c21
              have c21b1 : (t166 != (wrap64 (t164 + 1))) = false := bne_eq_false_iff_eq.mpr c21
              clear c21
              by_cases c22 : (wrap64 ((wrap64 (t164 - t163)) + 1)) = a0_3
              · rw [if_pos c22] at H
                have c22b0 : ((wrap64 ((wrap64 (t164 - t163)) + 1)) == a0_3) = true := beq_iff_eq.mpr c22
                have c22b1 : ((wrap64 ((wrap64 (t164 - t163)) + 1)) != a0_3) = false := bne_eq_false_iff_eq.mpr c22
                clear c22
                by_cases c23 : t169 < t163
                · rw [if_pos c23] at H
                  have c23b0 : decide (t169 < t163) = true := decide_eq_true c23
                  clear c23
                  have H' := Aside0.mk H
                  clear H
                  have hcz24_0 : w18.cell? ⟨gb161, 0, none⟩ = some (.int .i64 a0_0) := (blk_cell BK161.out 0).trans rfl
                  have hcz24_1 : w18.cell? ⟨gb161, 1, none⟩ = some (.int .i64 a0_1) := (blk_cell BK161.out 1).trans rfl
                  have hcz24_2 : w18.cell? ⟨gb161, 2, none⟩ = some (.int .i64 a0_2) := (blk_cell BK161.out 2).trans rfl
                  have hcz24_3 : w18.cell? ⟨gb161, 3, none⟩ = some (.int .i64 a0_3) := (blk_cell BK161.out 3).trans rfl
                  have hcz24_4 : w18.cell? ⟨gb161, 4, none⟩ = some (.int .i64 a0_4) := (blk_cell BK161.out 4).trans rfl
                  have hcz24_5 : w18.cell? ⟨gb161, 5, none⟩ = some (.int .i64 a0_5) := (blk_cell BK161.out 5).trans rfl
                  have hfz24_0 := blk_frozen BK161.out 0
                  have hfz24_1 := blk_frozen BK161.out 1
                  have hfz24_2 := blk_frozen BK161.out 2
                  have hfz24_3 := blk_frozen BK161.out 3
                  have hfz24_4 := blk_frozen BK161.out 4
                  have hfz24_5 := blk_frozen BK161.out 5
                  go_wp2
                  go_meet
                  case rel => exact ⟨_, (true), (by first | rfl | (simp; done) | (simp [*]; done)), H', ⟨by first | omega | exact Nat.le_refl _⟩, ⟨by (with_reducible repeat (first | refine blk_drewN ?_ _ | refine blk_drew ?_ | refine blk_alloc ?_ _)); exact BK161.out⟩, ⟨by repeat (first | (with_reducible first | exact HB.out | apply below_alloc | apply pw_below_drewN | apply below_drew1 | refine below_set ?_ GE161.out) | exact HB.out)⟩⟩
                · rw [if_neg c23] at H
                  have c23b0 : decide (t169 < t163) = false := decide_eq_false c23
                  clear c23
                  by_cases c25 : t169 > t164
                  · rw [if_pos c25] at H
                    have c25b0 : decide (t164 < t169) = true := decide_eq_true c25
                    clear c25
                    have H' := Aside0.mk H
                    clear H
                    have hcz26_0 : w18.cell? ⟨gb161, 0, none⟩ = some (.int .i64 a0_0) := (blk_cell BK161.out 0).trans rfl
                    have hcz26_1 : w18.cell? ⟨gb161, 1, none⟩ = some (.int .i64 a0_1) := (blk_cell BK161.out 1).trans rfl
                    have hcz26_2 : w18.cell? ⟨gb161, 2, none⟩ = some (.int .i64 a0_2) := (blk_cell BK161.out 2).trans rfl
                    have hcz26_3 : w18.cell? ⟨gb161, 3, none⟩ = some (.int .i64 a0_3) := (blk_cell BK161.out 3).trans rfl
                    have hcz26_4 : w18.cell? ⟨gb161, 4, none⟩ = some (.int .i64 a0_4) := (blk_cell BK161.out 4).trans rfl
                    have hcz26_5 : w18.cell? ⟨gb161, 5, none⟩ = some (.int .i64 a0_5) := (blk_cell BK161.out 5).trans rfl
                    have hfz26_0 := blk_frozen BK161.out 0
                    have hfz26_1 := blk_frozen BK161.out 1
                    have hfz26_2 := blk_frozen BK161.out 2
                    have hfz26_3 := blk_frozen BK161.out 3
                    have hfz26_4 := blk_frozen BK161.out 4
                    have hfz26_5 := blk_frozen BK161.out 5
                    go_wp2
                    go_meet
                    case rel => exact ⟨_, (true), (by first | rfl | (simp; done) | (simp [*]; done)), H', ⟨by first | omega | exact Nat.le_refl _⟩, ⟨by (with_reducible repeat (first | refine blk_drewN ?_ _ | refine blk_drew ?_ | refine blk_alloc ?_ _)); exact BK161.out⟩, ⟨by repeat (first | (with_reducible first | exact HB.out | apply below_alloc | apply pw_below_drewN | apply below_drew1 | refine below_set ?_ GE161.out) | exact HB.out)⟩⟩
                  · rw [if_neg c25] at H
                    have c25b0 : decide (t164 < t169) = false := decide_eq_false c25
                    clear c25
                    have H' := Aside0.mk H
                    clear H
                    have hcz27_0 : w18.cell? ⟨gb161, 0, none⟩ = some (.int .i64 a0_0) := (blk_cell BK161.out 0).trans rfl
                    have hcz27_1 : w18.cell? ⟨gb161, 1, none⟩ = some (.int .i64 a0_1) := (blk_cell BK161.out 1).trans rfl
                    have hcz27_2 : w18.cell? ⟨gb161, 2, none⟩ = some (.int .i64 a0_2) := (blk_cell BK161.out 2).trans rfl
                    have hcz27_3 : w18.cell? ⟨gb161, 3, none⟩ = some (.int .i64 a0_3) := (blk_cell BK161.out 3).trans rfl
                    have hcz27_4 : w18.cell? ⟨gb161, 4, none⟩ = some (.int .i64 a0_4) := (blk_cell BK161.out 4).trans rfl
                    have hcz27_5 : w18.cell? ⟨gb161, 5, none⟩ = some (.int .i64 a0_5) := (blk_cell BK161.out 5).trans rfl
                    have hfz27_0 := blk_frozen BK161.out 0
                    have hfz27_1 := blk_frozen BK161.out 1
                    have hfz27_2 := blk_frozen BK161.out 2
                    have hfz27_3 := blk_frozen BK161.out 3
                    have hfz27_4 := blk_frozen BK161.out 4
                    have hfz27_5 := blk_frozen BK161.out 5
                    go_wp2
                    go_meet
                    case rel => exact ⟨_, (((wrap64 ((wrap64 (t169 - t163)) + 1)) != a0_5)), (by first | rfl | (simp; done) | (simp [*]; done)), H', ⟨by first | omega | exact Nat.le_refl _⟩, ⟨by (with_reducible repeat (first | refine blk_drewN ?_ _ | refine blk_drew ?_ | refine blk_alloc ?_ _)); exact BK161.out⟩, ⟨by repeat (first | (with_reducible first | exact HB.out | apply below_alloc | apply pw_below_drewN | apply below_drew1 | refine below_set ?_ GE161.out) | exact HB.out)⟩⟩
              · rw [if_neg c22] at H
                have c22b0 : ((wrap64 ((wrap64 (t164 - t163)) + 1)) == a0_3) = false := beq_eq_false_iff_ne.mpr c22
                have c22b1 : ((wrap64 ((wrap64 (t164 - t163)) + 1)) != a0_3) = true := bne_iff_ne.mpr c22
                have H' := Aside0.mk H
                clear H
                have hcz28_0 : w18.cell? ⟨gb161, 0, none⟩ = some (.int .i64 a0_0) := (blk_cell BK161.out 0).trans rfl
                have hcz28_1 : w18.cell? ⟨gb161, 1, none⟩ = some (.int .i64 a0_1) := (blk_cell BK161.out 1).trans rfl
                have hcz28_2 : w18.cell? ⟨gb161, 2, none⟩ = some (.int .i64 a0_2) := (blk_cell BK161.out 2).trans rfl
                have hcz28_3 : w18.cell? ⟨gb161, 3, none⟩ = some (.int .i64 a0_3) := (blk_cell BK161.out 3).trans rfl
                have hcz28_4 : w18.cell? ⟨gb161, 4, none⟩ = some (.int .i64 a0_4) := (blk_cell BK161.out 4).trans rfl
                have hcz28_5 : w18.cell? ⟨gb161, 5, none⟩ = some (.int .i64 a0_5) := (blk_cell BK161.out 5).trans rfl
                have hfz28_0 := blk_frozen BK161.out 0
                have hfz28_1 := blk_frozen BK161.out 1
                have hfz28_2 := blk_frozen BK161.out 2
                have hfz28_3 := blk_frozen BK161.out 3
                have hfz28_4 := blk_frozen BK161.out 4
                have hfz28_5 := blk_frozen BK161.out 5
                go_wp2
                go_meet
                case rel => exact ⟨_, (true), (by first | rfl | (simp; done) | (simp [*]; done)), H', ⟨by first | omega | exact Nat.le_refl _⟩, ⟨by (with_reducible repeat (first | refine blk_drewN ?_ _ | refine blk_drew ?_ | refine blk_alloc ?_ _)); exact BK161.out⟩, ⟨by repeat (first | (with_reducible first | exact HB.out | apply below_alloc | apply pw_below_drewN | apply below_drew1 | refine below_set ?_ GE161.out) | exact HB.out)⟩⟩
            · rw [if_neg c21] at H
              have c21b0 : (t166 == (wrap64 (t164 + 1))) = false := beq_eq_false_iff_ne.mpr c21
              have c21b1 : (t166 != (wrap64 (t164 + 1))) = true := bne_iff_ne.mpr c21
              have H' := Aside0.mk H
              clear H
              go_wp2
              go_meet
              case rel => exact ⟨_, (true), (by first | rfl | (simp; done) | (simp [*]; done)), H', ⟨by first | omega | exact Nat.le_refl _⟩, ⟨by (with_reducible repeat (first | refine blk_drewN ?_ _ | refine blk_drew ?_ | refine blk_alloc ?_ _)); exact BK161.out⟩, ⟨by repeat (first | (with_reducible first | exact HB.out | apply below_alloc | apply pw_below_drewN | apply below_drew1 | refine below_set ?_ GE161.out) | exact HB.out)⟩⟩
          · rw [if_neg c20] at H
            have c20b0 : (t170 == 0) = false := beq_eq_false_iff_ne.mpr c20
            have c20b1 : (t170 != 0) = true := bne_iff_ne.mpr c20
            have H' := Aside0.mk H
            clear H
            go_wp2
            go_meet
            case rel => exact ⟨_, (true), (by first | rfl | (simp; done) | (simp [*]; done)), H', ⟨by first | omega | exact Nat.le_refl _⟩, ⟨by (with_reducible repeat (first | refine blk_drewN ?_ _ | refine blk_drew ?_ | refine blk_alloc ?_ _)); exact BK161.out⟩, ⟨by repeat (first | (with_reducible first | exact HB.out | apply below_alloc | apply pw_below_drewN | apply below_drew1 | refine below_set ?_ GE161.out) | exact HB.out)⟩⟩
        · rw [if_neg c19] at H
          have c19b0 : (t168 == 0) = false := beq_eq_false_iff_ne.mpr c19
          have c19b1 : (t168 != 0) = true := bne_iff_ne.mpr c19
          (first | rw [c19b0] | (simp only [i64_w, i32_w]; rw [c19b0]) | skip)
          have H' := Aside0.mk H
          clear H
          go_wp2
          go_meet
          case rel => exact ⟨_, (true), (by first | rfl | (simp; done) | (simp [*]; done)), H', ⟨by first | omega | exact Nat.le_refl _⟩, ⟨by (with_reducible repeat (first | refine blk_drewN ?_ _ | refine blk_drew ?_ | refine blk_alloc ?_ _)); exact BK161.out⟩, ⟨by repeat (first | (with_reducible first | exact HB.out | apply below_alloc | apply pw_below_drewN | apply below_drew1 | refine below_set ?_ GE161.out) | exact HB.out)⟩⟩
      case rest =>
        clear HC10
        try clear c1
        try clear c2
        try clear p2
        try clear c4
        try clear c5
        try clear p6
        try clear c9
        try clear c9b0
        try clear c9b1
        try clear c10
        try clear c11
        try clear c13
        try clear c19
        try clear c19b0
        try clear c19b1
        try clear c20
        try clear c20b0
        try clear c20b1
        try clear c21
        try clear c21b0
        try clear c21b1
        try clear c22
        try clear c22b0
        try clear c22b1
        try clear c23
        try clear c23b0
        try clear c25
        try clear c25b0
        try clear hcz13_0
        try clear hcz13_1
        try clear hcz13_2
        try clear hcz13_3
        try clear hcz13_4
        try clear hcz13_5
        try clear hcz15_0
        try clear hcz15_1
        try clear hcz15_2
        try clear hcz15_3
        try clear hcz15_4
        try clear hcz15_5
        try clear hcz17_0
        try clear hcz17_1
        try clear hcz17_2
        try clear hcz17_3
        try clear hcz17_4
        try clear hcz17_5
        try clear hcz24_0
        try clear hcz24_1
        try clear hcz24_2
        try clear hcz24_3
        try clear hcz24_4
        try clear hcz24_5
        try clear hcz26_0
        try clear hcz26_1
        try clear hcz26_2
        try clear hcz26_3
        try clear hcz26_4
        try clear hcz26_5
        try clear hcz27_0
        try clear hcz27_1
        try clear hcz27_2
        try clear hcz27_3
        try clear hcz27_4
        try clear hcz27_5
        try clear hcz28_0
        try clear hcz28_1
        try clear hcz28_2
        try clear hcz28_3
        try clear hcz28_4
        try clear hcz28_5
        try clear hfz13_0
        try clear hfz13_1
        try clear hfz13_2
        try clear hfz13_3
        try clear hfz13_4
        try clear hfz13_5
        try clear hfz15_0
        try clear hfz15_1
        try clear hfz15_2
        try clear hfz15_3
        try clear hfz15_4
        try clear hfz15_5
        try clear hfz17_0
        try clear hfz17_1
        try clear hfz17_2
        try clear hfz17_3
        try clear hfz17_4
        try clear hfz17_5
        try clear hfz24_0
        try clear hfz24_1
        try clear hfz24_2
        try clear hfz24_3
        try clear hfz24_4
        try clear hfz24_5
        try clear hfz26_0
        try clear hfz26_1
        try clear hfz26_2
        try clear hfz26_3
        try clear hfz26_4
        try clear hfz26_5
        try clear hfz27_0
        try clear hfz27_1
        try clear hfz27_2
        try clear hfz27_3
        try clear hfz27_4
        try clear hfz27_5
        try clear hfz28_0
        try clear hfz28_1
        try clear hfz28_2
        try clear hfz28_3
        try clear hfz28_4
        try clear hfz28_5
        obtain ⟨kq, x97_9, rfl, HA, HJ9, BK161, HB⟩ := hcut
        cases kq with
        | zero => exact absurd HA.out (by simp [hopmeshlaw32_FlowFollows.j0])
        | succ kj9 =>
          have H := HA.out
          clear HA
          simp only [hopmeshlaw32_FlowFollows.j0] at H
          by_cases c29 : x97_9 = true
          · subst c29
            have H1 : (some false) = some r := by rw [if_pos rfl] at H; exact H
            clear H
            have H := H1
            clear H1
            obtain rfl := Option.some.inj H
            go_wp2
            go_ret
            exact ⟨by first | rfl | (simp [errW_none, errW_some] <;> rfl) | (simp [*, errW_none, errW_some] <;> rfl), by repeat (first | (with_reducible first | exact HB.out | apply below_alloc | apply pw_below_drewN | apply below_drew1 | refine below_set ?_ GE161.out) | exact HB.out)⟩
          · replace c29 := Bool.eq_false_iff.mpr c29
            subst c29
            have H1 : (if a0_3 = 0 then (none) else ((flow_Current.f a0_0 a0_1 a0_2 a0_3 a0_4 a0_5 (wrap64 (t163 + (Int.tmod (wrap64 (a2)) a0_3)))).bind fun bt171 => ((flow_Current.f a0_0 a0_1 a0_2 a0_3 a0_4 a0_5 (wrap64 (a0_4 - 1))).bind fun bt173 => (if bt171.2 = true then (if bt171.1 = (wrap64 (a1)) then (if bt173.2 = true then (some false) else (some (bt173.1 == 0))) else (some false)) else (some false))))) = some r := by rw [if_neg (show ¬ (false = true) by decide)] at H; exact H
            clear H
            have H := H1
            clear H1
            by_cases c30 : a0_3 = 0
            · rw [if_pos c30] at H
              exact absurd H (by simp)
            · rw [if_neg c30] at H
              have c30b0 : (a0_3 == 0) = false := beq_eq_false_iff_ne.mpr c30
              have c30b1 : (a0_3 != 0) = true := bne_iff_ne.mpr c30
              replace H := Option.bind_eq_some_iff.mp H
              obtain ⟨⟨t171, t172⟩, A310, H⟩ := H
              replace H : ((flow_Current.f a0_0 a0_1 a0_2 a0_3 a0_4 a0_5 (wrap64 (a0_4 - 1))).bind fun bt173 => (if t172 = true then (if t171 = (wrap64 (a1)) then (if bt173.2 = true then (some false) else (some (bt173.1 == 0))) else (some false)) else (some false))) = some r := H
              have A31 := Aside0.mk A310
              clear A310
              replace H := Option.bind_eq_some_iff.mp H
              obtain ⟨⟨t173, t174⟩, A320, H⟩ := H
              replace H : (if t172 = true then (if t171 = (wrap64 (a1)) then (if t174 = true then (some false) else (some (t173 == 0))) else (some false)) else (some false)) = some r := H
              have A32 := Aside0.mk A320
              clear A320
              by_cases c33 : t172 = true
              · subst c33
                have H1 : (if t171 = (wrap64 (a1)) then (if t174 = true then (some false) else (some (t173 == 0))) else (some false)) = some r := by rw [if_pos rfl] at H; exact H
                clear H
                have H := H1
                clear H1
                by_cases c34 : t171 = (wrap64 (a1))
                · rw [if_pos c34] at H
                  have c34b0 : (t171 == (wrap64 (a1))) = true := beq_iff_eq.mpr c34
                  have c34b1 : (t171 != (wrap64 (a1))) = false := bne_eq_false_iff_eq.mpr c34
                  clear c34
                  by_cases c35 : t174 = true
                  · subst c35
                    have H1 : (some false) = some r := by rw [if_pos rfl] at H; exact H
                    clear H
                    have H := H1
                    clear H1
                    obtain rfl := Option.some.inj H
                    have hcz36_0 : wc.cell? ⟨gb161, 0, none⟩ = some (.int .i64 a0_0) := (blk_cell BK161.out 0).trans rfl
                    have hcz36_1 : wc.cell? ⟨gb161, 1, none⟩ = some (.int .i64 a0_1) := (blk_cell BK161.out 1).trans rfl
                    have hcz36_2 : wc.cell? ⟨gb161, 2, none⟩ = some (.int .i64 a0_2) := (blk_cell BK161.out 2).trans rfl
                    have hcz36_3 : wc.cell? ⟨gb161, 3, none⟩ = some (.int .i64 a0_3) := (blk_cell BK161.out 3).trans rfl
                    have hcz36_4 : wc.cell? ⟨gb161, 4, none⟩ = some (.int .i64 a0_4) := (blk_cell BK161.out 4).trans rfl
                    have hcz36_5 : wc.cell? ⟨gb161, 5, none⟩ = some (.int .i64 a0_5) := (blk_cell BK161.out 5).trans rfl
                    have hfz36_0 := blk_frozen BK161.out 0
                    have hfz36_1 := blk_frozen BK161.out 1
                    have hfz36_2 := blk_frozen BK161.out 2
                    have hfz36_3 := blk_frozen BK161.out 3
                    have hfz36_4 := blk_frozen BK161.out 4
                    have hfz36_5 := blk_frozen BK161.out 5
                    go_wp2_with (first | ((with_reducible refine gate_callee (f := 15) rfl ?_); refine goesL_ (some 108) rfl rfl Try.func15 (by kernel_rfl) rfl #[.agg #[.int .i64 a0_0, .int .i64 a0_1, .int .i64 a0_2, .int .i64 a0_3, .int .i64 a0_4, .int .i64 a0_5], .int .i64 (wrap64 (t163 + (Int.tmod (wrap64 (a2)) a0_3)))] rfl (by (try simp only [List.map_toArray, List.map_cons, List.map_nil]); first | done | rfl | (simp only [List.length_drop, List.length_take]; rfl)) ?_; (with_reducible refine (flow_Current.calls a0_0 a0_1 a0_2 a0_3 a0_4 a0_5 (wrap64 (t163 + (Int.tmod (wrap64 (a2)) a0_3))) t171 true _ A31.out).mono ?_); rintro e w37 ⟨rfl, hb⟩; refine ⟨_, rfl, ?_⟩; have n0_ := Aside0.mk (blk_below (g := gb161) (o := .cells #[.int .i64 a0_0, .int .i64 a0_1, .int .i64 a0_2, .int .i64 a0_3, .int .i64 a0_4, .int .i64 a0_5] 23 (0, 0)) (by (with_reducible repeat (first | refine blk_drewN ?_ _ | refine blk_drew ?_ | refine blk_alloc ?_ _)); exact BK161.out) hb); have n1_ := Aside0.mk (below_step (by repeat (first | (with_reducible first | exact HB.out | apply below_alloc | apply pw_below_drewN | apply below_drew1 | refine below_set ?_ GE161.out) | exact HB.out)) hb); clear BK161; clear HB; have BK161 := n0_; have HB := n1_; clear n0_ n1_; (try clear hb); (try clear hb2); (try clear hk); (try clear hi); have hcz38_0 : w37.cell? ⟨gb161, 0, none⟩ = some (.int .i64 a0_0) := (blk_cell BK161.out 0).trans rfl; have hcz38_1 : w37.cell? ⟨gb161, 1, none⟩ = some (.int .i64 a0_1) := (blk_cell BK161.out 1).trans rfl; have hcz38_2 : w37.cell? ⟨gb161, 2, none⟩ = some (.int .i64 a0_2) := (blk_cell BK161.out 2).trans rfl; have hcz38_3 : w37.cell? ⟨gb161, 3, none⟩ = some (.int .i64 a0_3) := (blk_cell BK161.out 3).trans rfl; have hcz38_4 : w37.cell? ⟨gb161, 4, none⟩ = some (.int .i64 a0_4) := (blk_cell BK161.out 4).trans rfl; have hcz38_5 : w37.cell? ⟨gb161, 5, none⟩ = some (.int .i64 a0_5) := (blk_cell BK161.out 5).trans rfl; have hfz38_0 := blk_frozen BK161.out 0; have hfz38_1 := blk_frozen BK161.out 1; have hfz38_2 := blk_frozen BK161.out 2; have hfz38_3 := blk_frozen BK161.out 3; have hfz38_4 := blk_frozen BK161.out 4; have hfz38_5 := blk_frozen BK161.out 5) | ((with_reducible refine gate_callee (f := 15) rfl ?_); refine goesL_ (some 116) rfl rfl Try.func15 (by kernel_rfl) rfl #[.agg #[.int .i64 a0_0, .int .i64 a0_1, .int .i64 a0_2, .int .i64 a0_3, .int .i64 a0_4, .int .i64 a0_5], .int .i64 (wrap64 (a0_4 - 1))] rfl (by (try simp only [List.map_toArray, List.map_cons, List.map_nil]); first | done | rfl | (simp only [List.length_drop, List.length_take]; rfl)) ?_; (with_reducible refine (flow_Current.calls a0_0 a0_1 a0_2 a0_3 a0_4 a0_5 (wrap64 (a0_4 - 1)) t173 true _ A32.out).mono ?_); rintro e w39 ⟨rfl, hb⟩; refine ⟨_, rfl, ?_⟩; have n0_ := Aside0.mk (blk_below (g := gb161) (o := .cells #[.int .i64 a0_0, .int .i64 a0_1, .int .i64 a0_2, .int .i64 a0_3, .int .i64 a0_4, .int .i64 a0_5] 23 (0, 0)) (by (with_reducible repeat (first | refine blk_drewN ?_ _ | refine blk_drew ?_ | refine blk_alloc ?_ _)); exact BK161.out) hb); have n1_ := Aside0.mk (below_step (by repeat (first | (with_reducible first | exact HB.out | apply below_alloc | apply pw_below_drewN | apply below_drew1 | refine below_set ?_ GE161.out) | exact HB.out)) hb); clear BK161; clear HB; have BK161 := n0_; have HB := n1_; clear n0_ n1_; (try clear hb); (try clear hb2); (try clear hk); (try clear hi)))
                    go_ret
                    exact ⟨by first | rfl | (simp [errW_none, errW_some] <;> rfl) | (simp [*, errW_none, errW_some] <;> rfl), by repeat (first | (with_reducible first | exact HB.out | apply below_alloc | apply pw_below_drewN | apply below_drew1 | refine below_set ?_ GE161.out) | exact HB.out)⟩
                  · replace c35 := Bool.eq_false_iff.mpr c35
                    subst c35
                    have H1 : (some (t173 == 0)) = some r := by rw [if_neg (show ¬ (false = true) by decide)] at H; exact H
                    clear H
                    have H := H1
                    clear H1
                    obtain rfl := Option.some.inj H
                    have hcz40_0 : wc.cell? ⟨gb161, 0, none⟩ = some (.int .i64 a0_0) := (blk_cell BK161.out 0).trans rfl
                    have hcz40_1 : wc.cell? ⟨gb161, 1, none⟩ = some (.int .i64 a0_1) := (blk_cell BK161.out 1).trans rfl
                    have hcz40_2 : wc.cell? ⟨gb161, 2, none⟩ = some (.int .i64 a0_2) := (blk_cell BK161.out 2).trans rfl
                    have hcz40_3 : wc.cell? ⟨gb161, 3, none⟩ = some (.int .i64 a0_3) := (blk_cell BK161.out 3).trans rfl
                    have hcz40_4 : wc.cell? ⟨gb161, 4, none⟩ = some (.int .i64 a0_4) := (blk_cell BK161.out 4).trans rfl
                    have hcz40_5 : wc.cell? ⟨gb161, 5, none⟩ = some (.int .i64 a0_5) := (blk_cell BK161.out 5).trans rfl
                    have hfz40_0 := blk_frozen BK161.out 0
                    have hfz40_1 := blk_frozen BK161.out 1
                    have hfz40_2 := blk_frozen BK161.out 2
                    have hfz40_3 := blk_frozen BK161.out 3
                    have hfz40_4 := blk_frozen BK161.out 4
                    have hfz40_5 := blk_frozen BK161.out 5
                    go_wp2_with (first | ((with_reducible refine gate_callee (f := 15) rfl ?_); refine goesL_ (some 108) rfl rfl Try.func15 (by kernel_rfl) rfl #[.agg #[.int .i64 a0_0, .int .i64 a0_1, .int .i64 a0_2, .int .i64 a0_3, .int .i64 a0_4, .int .i64 a0_5], .int .i64 (wrap64 (t163 + (Int.tmod (wrap64 (a2)) a0_3)))] rfl (by (try simp only [List.map_toArray, List.map_cons, List.map_nil]); first | done | rfl | (simp only [List.length_drop, List.length_take]; rfl)) ?_; (with_reducible refine (flow_Current.calls a0_0 a0_1 a0_2 a0_3 a0_4 a0_5 (wrap64 (t163 + (Int.tmod (wrap64 (a2)) a0_3))) t171 true _ A31.out).mono ?_); rintro e w41 ⟨rfl, hb⟩; refine ⟨_, rfl, ?_⟩; have n0_ := Aside0.mk (blk_below (g := gb161) (o := .cells #[.int .i64 a0_0, .int .i64 a0_1, .int .i64 a0_2, .int .i64 a0_3, .int .i64 a0_4, .int .i64 a0_5] 23 (0, 0)) (by (with_reducible repeat (first | refine blk_drewN ?_ _ | refine blk_drew ?_ | refine blk_alloc ?_ _)); exact BK161.out) hb); have n1_ := Aside0.mk (below_step (by repeat (first | (with_reducible first | exact HB.out | apply below_alloc | apply pw_below_drewN | apply below_drew1 | refine below_set ?_ GE161.out) | exact HB.out)) hb); clear BK161; clear HB; have BK161 := n0_; have HB := n1_; clear n0_ n1_; (try clear hb); (try clear hb2); (try clear hk); (try clear hi); have hcz42_0 : w41.cell? ⟨gb161, 0, none⟩ = some (.int .i64 a0_0) := (blk_cell BK161.out 0).trans rfl; have hcz42_1 : w41.cell? ⟨gb161, 1, none⟩ = some (.int .i64 a0_1) := (blk_cell BK161.out 1).trans rfl; have hcz42_2 : w41.cell? ⟨gb161, 2, none⟩ = some (.int .i64 a0_2) := (blk_cell BK161.out 2).trans rfl; have hcz42_3 : w41.cell? ⟨gb161, 3, none⟩ = some (.int .i64 a0_3) := (blk_cell BK161.out 3).trans rfl; have hcz42_4 : w41.cell? ⟨gb161, 4, none⟩ = some (.int .i64 a0_4) := (blk_cell BK161.out 4).trans rfl; have hcz42_5 : w41.cell? ⟨gb161, 5, none⟩ = some (.int .i64 a0_5) := (blk_cell BK161.out 5).trans rfl; have hfz42_0 := blk_frozen BK161.out 0; have hfz42_1 := blk_frozen BK161.out 1; have hfz42_2 := blk_frozen BK161.out 2; have hfz42_3 := blk_frozen BK161.out 3; have hfz42_4 := blk_frozen BK161.out 4; have hfz42_5 := blk_frozen BK161.out 5) | ((with_reducible refine gate_callee (f := 15) rfl ?_); refine goesL_ (some 116) rfl rfl Try.func15 (by kernel_rfl) rfl #[.agg #[.int .i64 a0_0, .int .i64 a0_1, .int .i64 a0_2, .int .i64 a0_3, .int .i64 a0_4, .int .i64 a0_5], .int .i64 (wrap64 (a0_4 - 1))] rfl (by (try simp only [List.map_toArray, List.map_cons, List.map_nil]); first | done | rfl | (simp only [List.length_drop, List.length_take]; rfl)) ?_; (with_reducible refine (flow_Current.calls a0_0 a0_1 a0_2 a0_3 a0_4 a0_5 (wrap64 (a0_4 - 1)) t173 false _ A32.out).mono ?_); rintro e w43 ⟨rfl, hb⟩; refine ⟨_, rfl, ?_⟩; have n0_ := Aside0.mk (blk_below (g := gb161) (o := .cells #[.int .i64 a0_0, .int .i64 a0_1, .int .i64 a0_2, .int .i64 a0_3, .int .i64 a0_4, .int .i64 a0_5] 23 (0, 0)) (by (with_reducible repeat (first | refine blk_drewN ?_ _ | refine blk_drew ?_ | refine blk_alloc ?_ _)); exact BK161.out) hb); have n1_ := Aside0.mk (below_step (by repeat (first | (with_reducible first | exact HB.out | apply below_alloc | apply pw_below_drewN | apply below_drew1 | refine below_set ?_ GE161.out) | exact HB.out)) hb); clear BK161; clear HB; have BK161 := n0_; have HB := n1_; clear n0_ n1_; (try clear hb); (try clear hb2); (try clear hk); (try clear hi)))
                    go_ret
                    exact ⟨by first | rfl | (simp [errW_none, errW_some] <;> rfl) | (simp [*, errW_none, errW_some] <;> rfl), by repeat (first | (with_reducible first | exact HB.out | apply below_alloc | apply pw_below_drewN | apply below_drew1 | refine below_set ?_ GE161.out) | exact HB.out)⟩
                · rw [if_neg c34] at H
                  have c34b0 : (t171 == (wrap64 (a1))) = false := beq_eq_false_iff_ne.mpr c34
                  have c34b1 : (t171 != (wrap64 (a1))) = true := bne_iff_ne.mpr c34
                  obtain rfl := Option.some.inj H
                  have hcz44_0 : wc.cell? ⟨gb161, 0, none⟩ = some (.int .i64 a0_0) := (blk_cell BK161.out 0).trans rfl
                  have hcz44_1 : wc.cell? ⟨gb161, 1, none⟩ = some (.int .i64 a0_1) := (blk_cell BK161.out 1).trans rfl
                  have hcz44_2 : wc.cell? ⟨gb161, 2, none⟩ = some (.int .i64 a0_2) := (blk_cell BK161.out 2).trans rfl
                  have hcz44_3 : wc.cell? ⟨gb161, 3, none⟩ = some (.int .i64 a0_3) := (blk_cell BK161.out 3).trans rfl
                  have hcz44_4 : wc.cell? ⟨gb161, 4, none⟩ = some (.int .i64 a0_4) := (blk_cell BK161.out 4).trans rfl
                  have hcz44_5 : wc.cell? ⟨gb161, 5, none⟩ = some (.int .i64 a0_5) := (blk_cell BK161.out 5).trans rfl
                  have hfz44_0 := blk_frozen BK161.out 0
                  have hfz44_1 := blk_frozen BK161.out 1
                  have hfz44_2 := blk_frozen BK161.out 2
                  have hfz44_3 := blk_frozen BK161.out 3
                  have hfz44_4 := blk_frozen BK161.out 4
                  have hfz44_5 := blk_frozen BK161.out 5
                  go_wp2_with (first | ((with_reducible refine gate_callee (f := 15) rfl ?_); refine goesL_ (some 108) rfl rfl Try.func15 (by kernel_rfl) rfl #[.agg #[.int .i64 a0_0, .int .i64 a0_1, .int .i64 a0_2, .int .i64 a0_3, .int .i64 a0_4, .int .i64 a0_5], .int .i64 (wrap64 (t163 + (Int.tmod (wrap64 (a2)) a0_3)))] rfl (by (try simp only [List.map_toArray, List.map_cons, List.map_nil]); first | done | rfl | (simp only [List.length_drop, List.length_take]; rfl)) ?_; (with_reducible refine (flow_Current.calls a0_0 a0_1 a0_2 a0_3 a0_4 a0_5 (wrap64 (t163 + (Int.tmod (wrap64 (a2)) a0_3))) t171 true _ A31.out).mono ?_); rintro e w45 ⟨rfl, hb⟩; refine ⟨_, rfl, ?_⟩; have n0_ := Aside0.mk (blk_below (g := gb161) (o := .cells #[.int .i64 a0_0, .int .i64 a0_1, .int .i64 a0_2, .int .i64 a0_3, .int .i64 a0_4, .int .i64 a0_5] 23 (0, 0)) (by (with_reducible repeat (first | refine blk_drewN ?_ _ | refine blk_drew ?_ | refine blk_alloc ?_ _)); exact BK161.out) hb); have n1_ := Aside0.mk (below_step (by repeat (first | (with_reducible first | exact HB.out | apply below_alloc | apply pw_below_drewN | apply below_drew1 | refine below_set ?_ GE161.out) | exact HB.out)) hb); clear BK161; clear HB; have BK161 := n0_; have HB := n1_; clear n0_ n1_; (try clear hb); (try clear hb2); (try clear hk); (try clear hi); have hcz46_0 : w45.cell? ⟨gb161, 0, none⟩ = some (.int .i64 a0_0) := (blk_cell BK161.out 0).trans rfl; have hcz46_1 : w45.cell? ⟨gb161, 1, none⟩ = some (.int .i64 a0_1) := (blk_cell BK161.out 1).trans rfl; have hcz46_2 : w45.cell? ⟨gb161, 2, none⟩ = some (.int .i64 a0_2) := (blk_cell BK161.out 2).trans rfl; have hcz46_3 : w45.cell? ⟨gb161, 3, none⟩ = some (.int .i64 a0_3) := (blk_cell BK161.out 3).trans rfl; have hcz46_4 : w45.cell? ⟨gb161, 4, none⟩ = some (.int .i64 a0_4) := (blk_cell BK161.out 4).trans rfl; have hcz46_5 : w45.cell? ⟨gb161, 5, none⟩ = some (.int .i64 a0_5) := (blk_cell BK161.out 5).trans rfl; have hfz46_0 := blk_frozen BK161.out 0; have hfz46_1 := blk_frozen BK161.out 1; have hfz46_2 := blk_frozen BK161.out 2; have hfz46_3 := blk_frozen BK161.out 3; have hfz46_4 := blk_frozen BK161.out 4; have hfz46_5 := blk_frozen BK161.out 5) | ((with_reducible refine gate_callee (f := 15) rfl ?_); refine goesL_ (some 116) rfl rfl Try.func15 (by kernel_rfl) rfl #[.agg #[.int .i64 a0_0, .int .i64 a0_1, .int .i64 a0_2, .int .i64 a0_3, .int .i64 a0_4, .int .i64 a0_5], .int .i64 (wrap64 (a0_4 - 1))] rfl (by (try simp only [List.map_toArray, List.map_cons, List.map_nil]); first | done | rfl | (simp only [List.length_drop, List.length_take]; rfl)) ?_; (with_reducible refine (flow_Current.calls a0_0 a0_1 a0_2 a0_3 a0_4 a0_5 (wrap64 (a0_4 - 1)) t173 t174 _ A32.out).mono ?_); rintro e w47 ⟨rfl, hb⟩; refine ⟨_, rfl, ?_⟩; have n0_ := Aside0.mk (blk_below (g := gb161) (o := .cells #[.int .i64 a0_0, .int .i64 a0_1, .int .i64 a0_2, .int .i64 a0_3, .int .i64 a0_4, .int .i64 a0_5] 23 (0, 0)) (by (with_reducible repeat (first | refine blk_drewN ?_ _ | refine blk_drew ?_ | refine blk_alloc ?_ _)); exact BK161.out) hb); have n1_ := Aside0.mk (below_step (by repeat (first | (with_reducible first | exact HB.out | apply below_alloc | apply pw_below_drewN | apply below_drew1 | refine below_set ?_ GE161.out) | exact HB.out)) hb); clear BK161; clear HB; have BK161 := n0_; have HB := n1_; clear n0_ n1_; (try clear hb); (try clear hb2); (try clear hk); (try clear hi)))
                  go_ret
                  exact ⟨by first | rfl | (simp [errW_none, errW_some] <;> rfl) | (simp [*, errW_none, errW_some] <;> rfl), by repeat (first | (with_reducible first | exact HB.out | apply below_alloc | apply pw_below_drewN | apply below_drew1 | refine below_set ?_ GE161.out) | exact HB.out)⟩
              · replace c33 := Bool.eq_false_iff.mpr c33
                subst c33
                have H1 : (some false) = some r := by rw [if_neg (show ¬ (false = true) by decide)] at H; exact H
                clear H
                have H := H1
                clear H1
                obtain rfl := Option.some.inj H
                have hcz48_0 : wc.cell? ⟨gb161, 0, none⟩ = some (.int .i64 a0_0) := (blk_cell BK161.out 0).trans rfl
                have hcz48_1 : wc.cell? ⟨gb161, 1, none⟩ = some (.int .i64 a0_1) := (blk_cell BK161.out 1).trans rfl
                have hcz48_2 : wc.cell? ⟨gb161, 2, none⟩ = some (.int .i64 a0_2) := (blk_cell BK161.out 2).trans rfl
                have hcz48_3 : wc.cell? ⟨gb161, 3, none⟩ = some (.int .i64 a0_3) := (blk_cell BK161.out 3).trans rfl
                have hcz48_4 : wc.cell? ⟨gb161, 4, none⟩ = some (.int .i64 a0_4) := (blk_cell BK161.out 4).trans rfl
                have hcz48_5 : wc.cell? ⟨gb161, 5, none⟩ = some (.int .i64 a0_5) := (blk_cell BK161.out 5).trans rfl
                have hfz48_0 := blk_frozen BK161.out 0
                have hfz48_1 := blk_frozen BK161.out 1
                have hfz48_2 := blk_frozen BK161.out 2
                have hfz48_3 := blk_frozen BK161.out 3
                have hfz48_4 := blk_frozen BK161.out 4
                have hfz48_5 := blk_frozen BK161.out 5
                go_wp2_with (first | ((with_reducible refine gate_callee (f := 15) rfl ?_); refine goesL_ (some 108) rfl rfl Try.func15 (by kernel_rfl) rfl #[.agg #[.int .i64 a0_0, .int .i64 a0_1, .int .i64 a0_2, .int .i64 a0_3, .int .i64 a0_4, .int .i64 a0_5], .int .i64 (wrap64 (t163 + (Int.tmod (wrap64 (a2)) a0_3)))] rfl (by (try simp only [List.map_toArray, List.map_cons, List.map_nil]); first | done | rfl | (simp only [List.length_drop, List.length_take]; rfl)) ?_; (with_reducible refine (flow_Current.calls a0_0 a0_1 a0_2 a0_3 a0_4 a0_5 (wrap64 (t163 + (Int.tmod (wrap64 (a2)) a0_3))) t171 false _ A31.out).mono ?_); rintro e w49 ⟨rfl, hb⟩; refine ⟨_, rfl, ?_⟩; have n0_ := Aside0.mk (blk_below (g := gb161) (o := .cells #[.int .i64 a0_0, .int .i64 a0_1, .int .i64 a0_2, .int .i64 a0_3, .int .i64 a0_4, .int .i64 a0_5] 23 (0, 0)) (by (with_reducible repeat (first | refine blk_drewN ?_ _ | refine blk_drew ?_ | refine blk_alloc ?_ _)); exact BK161.out) hb); have n1_ := Aside0.mk (below_step (by repeat (first | (with_reducible first | exact HB.out | apply below_alloc | apply pw_below_drewN | apply below_drew1 | refine below_set ?_ GE161.out) | exact HB.out)) hb); clear BK161; clear HB; have BK161 := n0_; have HB := n1_; clear n0_ n1_; (try clear hb); (try clear hb2); (try clear hk); (try clear hi); have hcz50_0 : w49.cell? ⟨gb161, 0, none⟩ = some (.int .i64 a0_0) := (blk_cell BK161.out 0).trans rfl; have hcz50_1 : w49.cell? ⟨gb161, 1, none⟩ = some (.int .i64 a0_1) := (blk_cell BK161.out 1).trans rfl; have hcz50_2 : w49.cell? ⟨gb161, 2, none⟩ = some (.int .i64 a0_2) := (blk_cell BK161.out 2).trans rfl; have hcz50_3 : w49.cell? ⟨gb161, 3, none⟩ = some (.int .i64 a0_3) := (blk_cell BK161.out 3).trans rfl; have hcz50_4 : w49.cell? ⟨gb161, 4, none⟩ = some (.int .i64 a0_4) := (blk_cell BK161.out 4).trans rfl; have hcz50_5 : w49.cell? ⟨gb161, 5, none⟩ = some (.int .i64 a0_5) := (blk_cell BK161.out 5).trans rfl; have hfz50_0 := blk_frozen BK161.out 0; have hfz50_1 := blk_frozen BK161.out 1; have hfz50_2 := blk_frozen BK161.out 2; have hfz50_3 := blk_frozen BK161.out 3; have hfz50_4 := blk_frozen BK161.out 4; have hfz50_5 := blk_frozen BK161.out 5) | ((with_reducible refine gate_callee (f := 15) rfl ?_); refine goesL_ (some 116) rfl rfl Try.func15 (by kernel_rfl) rfl #[.agg #[.int .i64 a0_0, .int .i64 a0_1, .int .i64 a0_2, .int .i64 a0_3, .int .i64 a0_4, .int .i64 a0_5], .int .i64 (wrap64 (a0_4 - 1))] rfl (by (try simp only [List.map_toArray, List.map_cons, List.map_nil]); first | done | rfl | (simp only [List.length_drop, List.length_take]; rfl)) ?_; (with_reducible refine (flow_Current.calls a0_0 a0_1 a0_2 a0_3 a0_4 a0_5 (wrap64 (a0_4 - 1)) t173 t174 _ A32.out).mono ?_); rintro e w51 ⟨rfl, hb⟩; refine ⟨_, rfl, ?_⟩; have n0_ := Aside0.mk (blk_below (g := gb161) (o := .cells #[.int .i64 a0_0, .int .i64 a0_1, .int .i64 a0_2, .int .i64 a0_3, .int .i64 a0_4, .int .i64 a0_5] 23 (0, 0)) (by (with_reducible repeat (first | refine blk_drewN ?_ _ | refine blk_drew ?_ | refine blk_alloc ?_ _)); exact BK161.out) hb); have n1_ := Aside0.mk (below_step (by repeat (first | (with_reducible first | exact HB.out | apply below_alloc | apply pw_below_drewN | apply below_drew1 | refine below_set ?_ GE161.out) | exact HB.out)) hb); clear BK161; clear HB; have BK161 := n0_; have HB := n1_; clear n0_ n1_; (try clear hb); (try clear hb2); (try clear hk); (try clear hi)))
                go_ret
                exact ⟨by first | rfl | (simp [errW_none, errW_some] <;> rfl) | (simp [*, errW_none, errW_some] <;> rfl), by repeat (first | (with_reducible first | exact HB.out | apply below_alloc | apply pw_below_drewN | apply below_drew1 | refine below_set ?_ GE161.out) | exact HB.out)⟩
    · rw [if_neg c9] at H
      have c9b0 : (t165 == 0) = false := beq_eq_false_iff_ne.mpr c9
      have c9b1 : (t165 != 0) = true := bne_iff_ne.mpr c9
      by_cases c52 : t165 = 1
      · rw [if_pos c52] at H
        have c52b0 : (t165 == 1) = true := beq_iff_eq.mpr c52
        have c52b1 : (t165 != 1) = false := bne_eq_false_iff_eq.mpr c52
        clear c52
        by_cases c53 : t168 = 1
        · rw [if_pos c53] at H
          have c53b0 : (t168 == 1) = true := beq_iff_eq.mpr c53
          have c53b1 : (t168 != 1) = false := bne_eq_false_iff_eq.mpr c53
          clear c53
          obtain rfl := Option.some.inj H
          go_enter Try.func4, Try.ntmps4
          go_wp2_with (first | ((with_reducible refine gate_dst (N := 3) rfl ?_); refine box_event ?hg (N := 3) ?hd (cs := #[.int .i64 a0_0, .int .i64 a0_1, .int .i64 a0_2, .int .i64 a0_3, .int .i64 a0_4, .int .i64 a0_5]) (t := 23) ?hr ?_; (case hd => rfl); (case hg => rfl); (case hr => first | (go_simp; done) | (go_simp; rfl)); intro gb161 hg w54 hbox hb; have n0_ := Aside0.mk (below_step (by repeat (first | (with_reducible first | exact HB.out | apply below_alloc | apply pw_below_drewN | apply below_drew1) | exact HB.out)) hb); have n1_ := Aside0.mk (hbox); have n2_ := Aside0.mk ((by rw [hg]; exact (below_size (by repeat (first | (with_reducible first | exact HB.out | apply below_alloc | apply pw_below_drewN | apply below_drew1) | exact HB.out))) : w.heap.size ≤ gb161)); have n3_ := Aside0.mk ((by rw [hg]; exact (below_size (by repeat (first | (with_reducible first | exact HB.out | apply below_alloc | apply pw_below_drewN | apply below_drew1) | exact HB.out))) : w.heap.size ≤ gb161)); clear HB; have HB := n0_; have BK161 := n1_; have GW161 := n2_; have GE161 := n3_; clear n0_ n1_ n2_ n3_; clear hb hbox hg) | ((with_reducible refine gate_callee (f := 10) rfl ?_); refine goesL_ (some 21) rfl rfl Try.func10 (by kernel_rfl) rfl #[] rfl (by (try simp only [List.map_toArray, List.map_cons, List.map_nil]); first | done | rfl | (simp only [List.length_drop, List.length_take]; rfl)) ?_; (with_reducible refine (hopmeshlaw32_awake.calls k  true _ A4.out).mono ?_); rintro e w55 ⟨rfl, hb⟩; refine ⟨_, rfl, ?_⟩; have n0_ := Aside0.mk (blk_below (g := gb161) (o := .cells #[.int .i64 a0_0, .int .i64 a0_1, .int .i64 a0_2, .int .i64 a0_3, .int .i64 a0_4, .int .i64 a0_5] 23 (0, 0)) (by (with_reducible repeat (first | refine blk_drewN ?_ _ | refine blk_drew ?_ | refine blk_alloc ?_ _)); exact BK161.out) hb); have n1_ := Aside0.mk (below_step (by repeat (first | (with_reducible first | exact HB.out | apply below_alloc | apply pw_below_drewN | apply below_drew1 | refine below_set ?_ GE161.out) | exact HB.out)) hb); clear BK161; clear HB; have BK161 := n0_; have HB := n1_; clear n0_ n1_; (try clear hb); (try clear hb2); (try clear hk); (try clear hi); have hcz56_0 : w55.cell? ⟨gb161, 0, none⟩ = some (.int .i64 a0_0) := (blk_cell BK161.out 0).trans rfl; have hcz56_1 : w55.cell? ⟨gb161, 1, none⟩ = some (.int .i64 a0_1) := (blk_cell BK161.out 1).trans rfl; have hcz56_2 : w55.cell? ⟨gb161, 2, none⟩ = some (.int .i64 a0_2) := (blk_cell BK161.out 2).trans rfl; have hcz56_3 : w55.cell? ⟨gb161, 3, none⟩ = some (.int .i64 a0_3) := (blk_cell BK161.out 3).trans rfl; have hcz56_4 : w55.cell? ⟨gb161, 4, none⟩ = some (.int .i64 a0_4) := (blk_cell BK161.out 4).trans rfl; have hcz56_5 : w55.cell? ⟨gb161, 5, none⟩ = some (.int .i64 a0_5) := (blk_cell BK161.out 5).trans rfl; have hfz56_0 := blk_frozen BK161.out 0; have hfz56_1 := blk_frozen BK161.out 1; have hfz56_2 := blk_frozen BK161.out 2; have hfz56_3 := blk_frozen BK161.out 3; have hfz56_4 := blk_frozen BK161.out 4; have hfz56_5 := blk_frozen BK161.out 5) | ((with_reducible refine gate_callee (f := 11) rfl ?_); refine goesL_ (some 28) rfl rfl Try.func11 (by kernel_rfl) rfl #[.agg #[.int .i64 a0_0, .int .i64 a0_1, .int .i64 a0_2, .int .i64 a0_3, .int .i64 a0_4, .int .i64 a0_5], .int .i64 (wrap64 (a1))] rfl (by (try simp only [List.map_toArray, List.map_cons, List.map_nil]); first | done | rfl | (simp only [List.length_drop, List.length_take]; rfl)) ?_; (with_reducible refine (flow_Window.calls a0_0 a0_1 a0_2 a0_3 a0_4 a0_5 (wrap64 (a1)) t163 t164 t165 _ A6.out).mono ?_); rintro e w57 ⟨rfl, hb⟩; refine ⟨_, rfl, ?_⟩; have n0_ := Aside0.mk (blk_below (g := gb161) (o := .cells #[.int .i64 a0_0, .int .i64 a0_1, .int .i64 a0_2, .int .i64 a0_3, .int .i64 a0_4, .int .i64 a0_5] 23 (0, 0)) (by (with_reducible repeat (first | refine blk_drewN ?_ _ | refine blk_drew ?_ | refine blk_alloc ?_ _)); exact BK161.out) hb); have n1_ := Aside0.mk (below_step (by repeat (first | (with_reducible first | exact HB.out | apply below_alloc | apply pw_below_drewN | apply below_drew1 | refine below_set ?_ GE161.out) | exact HB.out)) hb); clear BK161; clear HB; have BK161 := n0_; have HB := n1_; clear n0_ n1_; (try clear hb); (try clear hb2); (try clear hk); (try clear hi); have hcz58_0 : w57.cell? ⟨gb161, 0, none⟩ = some (.int .i64 a0_0) := (blk_cell BK161.out 0).trans rfl; have hcz58_1 : w57.cell? ⟨gb161, 1, none⟩ = some (.int .i64 a0_1) := (blk_cell BK161.out 1).trans rfl; have hcz58_2 : w57.cell? ⟨gb161, 2, none⟩ = some (.int .i64 a0_2) := (blk_cell BK161.out 2).trans rfl; have hcz58_3 : w57.cell? ⟨gb161, 3, none⟩ = some (.int .i64 a0_3) := (blk_cell BK161.out 3).trans rfl; have hcz58_4 : w57.cell? ⟨gb161, 4, none⟩ = some (.int .i64 a0_4) := (blk_cell BK161.out 4).trans rfl; have hcz58_5 : w57.cell? ⟨gb161, 5, none⟩ = some (.int .i64 a0_5) := (blk_cell BK161.out 5).trans rfl; have hfz58_0 := blk_frozen BK161.out 0; have hfz58_1 := blk_frozen BK161.out 1; have hfz58_2 := blk_frozen BK161.out 2; have hfz58_3 := blk_frozen BK161.out 3; have hfz58_4 := blk_frozen BK161.out 4; have hfz58_5 := blk_frozen BK161.out 5) | ((with_reducible refine gate_callee (f := 11) rfl ?_); refine goesL_ (some 36) rfl rfl Try.func11 (by kernel_rfl) rfl #[.agg #[.int .i64 a0_0, .int .i64 a0_1, .int .i64 a0_2, .int .i64 a0_3, .int .i64 a0_4, .int .i64 a0_5], .int .i64 (wrap64 ((wrap64 (a1)) + 1))] rfl (by (try simp only [List.map_toArray, List.map_cons, List.map_nil]); first | done | rfl | (simp only [List.length_drop, List.length_take]; rfl)) ?_; (with_reducible refine (flow_Window.calls a0_0 a0_1 a0_2 a0_3 a0_4 a0_5 (wrap64 ((wrap64 (a1)) + 1)) t166 t167 t168 _ A7.out).mono ?_); rintro e w59 ⟨rfl, hb⟩; refine ⟨_, rfl, ?_⟩; have n0_ := Aside0.mk (blk_below (g := gb161) (o := .cells #[.int .i64 a0_0, .int .i64 a0_1, .int .i64 a0_2, .int .i64 a0_3, .int .i64 a0_4, .int .i64 a0_5] 23 (0, 0)) (by (with_reducible repeat (first | refine blk_drewN ?_ _ | refine blk_drew ?_ | refine blk_alloc ?_ _)); exact BK161.out) hb); have n1_ := Aside0.mk (below_step (by repeat (first | (with_reducible first | exact HB.out | apply below_alloc | apply pw_below_drewN | apply below_drew1 | refine below_set ?_ GE161.out) | exact HB.out)) hb); clear BK161; clear HB; have BK161 := n0_; have HB := n1_; clear n0_ n1_; (try clear hb); (try clear hb2); (try clear hk); (try clear hi); have hcz60_0 : w59.cell? ⟨gb161, 0, none⟩ = some (.int .i64 a0_0) := (blk_cell BK161.out 0).trans rfl; have hcz60_1 : w59.cell? ⟨gb161, 1, none⟩ = some (.int .i64 a0_1) := (blk_cell BK161.out 1).trans rfl; have hcz60_2 : w59.cell? ⟨gb161, 2, none⟩ = some (.int .i64 a0_2) := (blk_cell BK161.out 2).trans rfl; have hcz60_3 : w59.cell? ⟨gb161, 3, none⟩ = some (.int .i64 a0_3) := (blk_cell BK161.out 3).trans rfl; have hcz60_4 : w59.cell? ⟨gb161, 4, none⟩ = some (.int .i64 a0_4) := (blk_cell BK161.out 4).trans rfl; have hcz60_5 : w59.cell? ⟨gb161, 5, none⟩ = some (.int .i64 a0_5) := (blk_cell BK161.out 5).trans rfl; have hfz60_0 := blk_frozen BK161.out 0; have hfz60_1 := blk_frozen BK161.out 1; have hfz60_2 := blk_frozen BK161.out 2; have hfz60_3 := blk_frozen BK161.out 3; have hfz60_4 := blk_frozen BK161.out 4; have hfz60_5 := blk_frozen BK161.out 5) | ((with_reducible refine gate_callee (f := 13) rfl ?_); refine goesL_ (some 43) rfl rfl Try.func13 (by kernel_rfl) rfl #[.agg #[.int .i64 a0_0, .int .i64 a0_1, .int .i64 a0_2, .int .i64 a0_3, .int .i64 a0_4, .int .i64 a0_5], .int .i64 (wrap64 (a1))] rfl (by (try simp only [List.map_toArray, List.map_cons, List.map_nil]); first | done | rfl | (simp only [List.length_drop, List.length_take]; rfl)) ?_; (with_reducible refine (flow_Due.calls a0_0 a0_1 a0_2 a0_3 a0_4 a0_5 (wrap64 (a1)) t169 t170 _ A8.out).mono ?_); rintro e w61 ⟨rfl, hb⟩; refine ⟨_, rfl, ?_⟩; have n0_ := Aside0.mk (blk_below (g := gb161) (o := .cells #[.int .i64 a0_0, .int .i64 a0_1, .int .i64 a0_2, .int .i64 a0_3, .int .i64 a0_4, .int .i64 a0_5] 23 (0, 0)) (by (with_reducible repeat (first | refine blk_drewN ?_ _ | refine blk_drew ?_ | refine blk_alloc ?_ _)); exact BK161.out) hb); have n1_ := Aside0.mk (below_step (by repeat (first | (with_reducible first | exact HB.out | apply below_alloc | apply pw_below_drewN | apply below_drew1 | refine below_set ?_ GE161.out) | exact HB.out)) hb); clear BK161; clear HB; have BK161 := n0_; have HB := n1_; clear n0_ n1_; (try clear hb); (try clear hb2); (try clear hk); (try clear hi)))
          go_ret
          exact ⟨by first | rfl | (simp [errW_none, errW_some] <;> rfl) | (simp [*, errW_none, errW_some] <;> rfl), by repeat (first | (with_reducible first | exact HB.out | apply below_alloc | apply pw_below_drewN | apply below_drew1 | refine below_set ?_ GE161.out) | exact HB.out)⟩
        · rw [if_neg c53] at H
          have c53b0 : (t168 == 1) = false := beq_eq_false_iff_ne.mpr c53
          have c53b1 : (t168 != 1) = true := bne_iff_ne.mpr c53
          obtain rfl := Option.some.inj H
          go_enter Try.func4, Try.ntmps4
          go_wp2_with (first | ((with_reducible refine gate_dst (N := 3) rfl ?_); refine box_event ?hg (N := 3) ?hd (cs := #[.int .i64 a0_0, .int .i64 a0_1, .int .i64 a0_2, .int .i64 a0_3, .int .i64 a0_4, .int .i64 a0_5]) (t := 23) ?hr ?_; (case hd => rfl); (case hg => rfl); (case hr => first | (go_simp; done) | (go_simp; rfl)); intro gb161 hg w62 hbox hb; have n0_ := Aside0.mk (below_step (by repeat (first | (with_reducible first | exact HB.out | apply below_alloc | apply pw_below_drewN | apply below_drew1) | exact HB.out)) hb); have n1_ := Aside0.mk (hbox); have n2_ := Aside0.mk ((by rw [hg]; exact (below_size (by repeat (first | (with_reducible first | exact HB.out | apply below_alloc | apply pw_below_drewN | apply below_drew1) | exact HB.out))) : w.heap.size ≤ gb161)); have n3_ := Aside0.mk ((by rw [hg]; exact (below_size (by repeat (first | (with_reducible first | exact HB.out | apply below_alloc | apply pw_below_drewN | apply below_drew1) | exact HB.out))) : w.heap.size ≤ gb161)); clear HB; have HB := n0_; have BK161 := n1_; have GW161 := n2_; have GE161 := n3_; clear n0_ n1_ n2_ n3_; clear hb hbox hg) | ((with_reducible refine gate_callee (f := 10) rfl ?_); refine goesL_ (some 21) rfl rfl Try.func10 (by kernel_rfl) rfl #[] rfl (by (try simp only [List.map_toArray, List.map_cons, List.map_nil]); first | done | rfl | (simp only [List.length_drop, List.length_take]; rfl)) ?_; (with_reducible refine (hopmeshlaw32_awake.calls k  true _ A4.out).mono ?_); rintro e w63 ⟨rfl, hb⟩; refine ⟨_, rfl, ?_⟩; have n0_ := Aside0.mk (blk_below (g := gb161) (o := .cells #[.int .i64 a0_0, .int .i64 a0_1, .int .i64 a0_2, .int .i64 a0_3, .int .i64 a0_4, .int .i64 a0_5] 23 (0, 0)) (by (with_reducible repeat (first | refine blk_drewN ?_ _ | refine blk_drew ?_ | refine blk_alloc ?_ _)); exact BK161.out) hb); have n1_ := Aside0.mk (below_step (by repeat (first | (with_reducible first | exact HB.out | apply below_alloc | apply pw_below_drewN | apply below_drew1 | refine below_set ?_ GE161.out) | exact HB.out)) hb); clear BK161; clear HB; have BK161 := n0_; have HB := n1_; clear n0_ n1_; (try clear hb); (try clear hb2); (try clear hk); (try clear hi); have hcz64_0 : w63.cell? ⟨gb161, 0, none⟩ = some (.int .i64 a0_0) := (blk_cell BK161.out 0).trans rfl; have hcz64_1 : w63.cell? ⟨gb161, 1, none⟩ = some (.int .i64 a0_1) := (blk_cell BK161.out 1).trans rfl; have hcz64_2 : w63.cell? ⟨gb161, 2, none⟩ = some (.int .i64 a0_2) := (blk_cell BK161.out 2).trans rfl; have hcz64_3 : w63.cell? ⟨gb161, 3, none⟩ = some (.int .i64 a0_3) := (blk_cell BK161.out 3).trans rfl; have hcz64_4 : w63.cell? ⟨gb161, 4, none⟩ = some (.int .i64 a0_4) := (blk_cell BK161.out 4).trans rfl; have hcz64_5 : w63.cell? ⟨gb161, 5, none⟩ = some (.int .i64 a0_5) := (blk_cell BK161.out 5).trans rfl; have hfz64_0 := blk_frozen BK161.out 0; have hfz64_1 := blk_frozen BK161.out 1; have hfz64_2 := blk_frozen BK161.out 2; have hfz64_3 := blk_frozen BK161.out 3; have hfz64_4 := blk_frozen BK161.out 4; have hfz64_5 := blk_frozen BK161.out 5) | ((with_reducible refine gate_callee (f := 11) rfl ?_); refine goesL_ (some 28) rfl rfl Try.func11 (by kernel_rfl) rfl #[.agg #[.int .i64 a0_0, .int .i64 a0_1, .int .i64 a0_2, .int .i64 a0_3, .int .i64 a0_4, .int .i64 a0_5], .int .i64 (wrap64 (a1))] rfl (by (try simp only [List.map_toArray, List.map_cons, List.map_nil]); first | done | rfl | (simp only [List.length_drop, List.length_take]; rfl)) ?_; (with_reducible refine (flow_Window.calls a0_0 a0_1 a0_2 a0_3 a0_4 a0_5 (wrap64 (a1)) t163 t164 t165 _ A6.out).mono ?_); rintro e w65 ⟨rfl, hb⟩; refine ⟨_, rfl, ?_⟩; have n0_ := Aside0.mk (blk_below (g := gb161) (o := .cells #[.int .i64 a0_0, .int .i64 a0_1, .int .i64 a0_2, .int .i64 a0_3, .int .i64 a0_4, .int .i64 a0_5] 23 (0, 0)) (by (with_reducible repeat (first | refine blk_drewN ?_ _ | refine blk_drew ?_ | refine blk_alloc ?_ _)); exact BK161.out) hb); have n1_ := Aside0.mk (below_step (by repeat (first | (with_reducible first | exact HB.out | apply below_alloc | apply pw_below_drewN | apply below_drew1 | refine below_set ?_ GE161.out) | exact HB.out)) hb); clear BK161; clear HB; have BK161 := n0_; have HB := n1_; clear n0_ n1_; (try clear hb); (try clear hb2); (try clear hk); (try clear hi); have hcz66_0 : w65.cell? ⟨gb161, 0, none⟩ = some (.int .i64 a0_0) := (blk_cell BK161.out 0).trans rfl; have hcz66_1 : w65.cell? ⟨gb161, 1, none⟩ = some (.int .i64 a0_1) := (blk_cell BK161.out 1).trans rfl; have hcz66_2 : w65.cell? ⟨gb161, 2, none⟩ = some (.int .i64 a0_2) := (blk_cell BK161.out 2).trans rfl; have hcz66_3 : w65.cell? ⟨gb161, 3, none⟩ = some (.int .i64 a0_3) := (blk_cell BK161.out 3).trans rfl; have hcz66_4 : w65.cell? ⟨gb161, 4, none⟩ = some (.int .i64 a0_4) := (blk_cell BK161.out 4).trans rfl; have hcz66_5 : w65.cell? ⟨gb161, 5, none⟩ = some (.int .i64 a0_5) := (blk_cell BK161.out 5).trans rfl; have hfz66_0 := blk_frozen BK161.out 0; have hfz66_1 := blk_frozen BK161.out 1; have hfz66_2 := blk_frozen BK161.out 2; have hfz66_3 := blk_frozen BK161.out 3; have hfz66_4 := blk_frozen BK161.out 4; have hfz66_5 := blk_frozen BK161.out 5) | ((with_reducible refine gate_callee (f := 11) rfl ?_); refine goesL_ (some 36) rfl rfl Try.func11 (by kernel_rfl) rfl #[.agg #[.int .i64 a0_0, .int .i64 a0_1, .int .i64 a0_2, .int .i64 a0_3, .int .i64 a0_4, .int .i64 a0_5], .int .i64 (wrap64 ((wrap64 (a1)) + 1))] rfl (by (try simp only [List.map_toArray, List.map_cons, List.map_nil]); first | done | rfl | (simp only [List.length_drop, List.length_take]; rfl)) ?_; (with_reducible refine (flow_Window.calls a0_0 a0_1 a0_2 a0_3 a0_4 a0_5 (wrap64 ((wrap64 (a1)) + 1)) t166 t167 t168 _ A7.out).mono ?_); rintro e w67 ⟨rfl, hb⟩; refine ⟨_, rfl, ?_⟩; have n0_ := Aside0.mk (blk_below (g := gb161) (o := .cells #[.int .i64 a0_0, .int .i64 a0_1, .int .i64 a0_2, .int .i64 a0_3, .int .i64 a0_4, .int .i64 a0_5] 23 (0, 0)) (by (with_reducible repeat (first | refine blk_drewN ?_ _ | refine blk_drew ?_ | refine blk_alloc ?_ _)); exact BK161.out) hb); have n1_ := Aside0.mk (below_step (by repeat (first | (with_reducible first | exact HB.out | apply below_alloc | apply pw_below_drewN | apply below_drew1 | refine below_set ?_ GE161.out) | exact HB.out)) hb); clear BK161; clear HB; have BK161 := n0_; have HB := n1_; clear n0_ n1_; (try clear hb); (try clear hb2); (try clear hk); (try clear hi); have hcz68_0 : w67.cell? ⟨gb161, 0, none⟩ = some (.int .i64 a0_0) := (blk_cell BK161.out 0).trans rfl; have hcz68_1 : w67.cell? ⟨gb161, 1, none⟩ = some (.int .i64 a0_1) := (blk_cell BK161.out 1).trans rfl; have hcz68_2 : w67.cell? ⟨gb161, 2, none⟩ = some (.int .i64 a0_2) := (blk_cell BK161.out 2).trans rfl; have hcz68_3 : w67.cell? ⟨gb161, 3, none⟩ = some (.int .i64 a0_3) := (blk_cell BK161.out 3).trans rfl; have hcz68_4 : w67.cell? ⟨gb161, 4, none⟩ = some (.int .i64 a0_4) := (blk_cell BK161.out 4).trans rfl; have hcz68_5 : w67.cell? ⟨gb161, 5, none⟩ = some (.int .i64 a0_5) := (blk_cell BK161.out 5).trans rfl; have hfz68_0 := blk_frozen BK161.out 0; have hfz68_1 := blk_frozen BK161.out 1; have hfz68_2 := blk_frozen BK161.out 2; have hfz68_3 := blk_frozen BK161.out 3; have hfz68_4 := blk_frozen BK161.out 4; have hfz68_5 := blk_frozen BK161.out 5) | ((with_reducible refine gate_callee (f := 13) rfl ?_); refine goesL_ (some 43) rfl rfl Try.func13 (by kernel_rfl) rfl #[.agg #[.int .i64 a0_0, .int .i64 a0_1, .int .i64 a0_2, .int .i64 a0_3, .int .i64 a0_4, .int .i64 a0_5], .int .i64 (wrap64 (a1))] rfl (by (try simp only [List.map_toArray, List.map_cons, List.map_nil]); first | done | rfl | (simp only [List.length_drop, List.length_take]; rfl)) ?_; (with_reducible refine (flow_Due.calls a0_0 a0_1 a0_2 a0_3 a0_4 a0_5 (wrap64 (a1)) t169 t170 _ A8.out).mono ?_); rintro e w69 ⟨rfl, hb⟩; refine ⟨_, rfl, ?_⟩; have n0_ := Aside0.mk (blk_below (g := gb161) (o := .cells #[.int .i64 a0_0, .int .i64 a0_1, .int .i64 a0_2, .int .i64 a0_3, .int .i64 a0_4, .int .i64 a0_5] 23 (0, 0)) (by (with_reducible repeat (first | refine blk_drewN ?_ _ | refine blk_drew ?_ | refine blk_alloc ?_ _)); exact BK161.out) hb); have n1_ := Aside0.mk (below_step (by repeat (first | (with_reducible first | exact HB.out | apply below_alloc | apply pw_below_drewN | apply below_drew1 | refine below_set ?_ GE161.out) | exact HB.out)) hb); clear BK161; clear HB; have BK161 := n0_; have HB := n1_; clear n0_ n1_; (try clear hb); (try clear hb2); (try clear hk); (try clear hi)))
          go_ret
          exact ⟨by first | rfl | (simp [errW_none, errW_some] <;> rfl) | (simp [*, errW_none, errW_some] <;> rfl), by repeat (first | (with_reducible first | exact HB.out | apply below_alloc | apply pw_below_drewN | apply below_drew1 | refine below_set ?_ GE161.out) | exact HB.out)⟩
      · rw [if_neg c52] at H
        have c52b0 : (t165 == 1) = false := beq_eq_false_iff_ne.mpr c52
        have c52b1 : (t165 != 1) = true := bne_iff_ne.mpr c52
        obtain rfl := Option.some.inj H
        go_enter Try.func4, Try.ntmps4
        go_wp2_with (first | ((with_reducible refine gate_dst (N := 3) rfl ?_); refine box_event ?hg (N := 3) ?hd (cs := #[.int .i64 a0_0, .int .i64 a0_1, .int .i64 a0_2, .int .i64 a0_3, .int .i64 a0_4, .int .i64 a0_5]) (t := 23) ?hr ?_; (case hd => rfl); (case hg => rfl); (case hr => first | (go_simp; done) | (go_simp; rfl)); intro gb161 hg w70 hbox hb; have n0_ := Aside0.mk (below_step (by repeat (first | (with_reducible first | exact HB.out | apply below_alloc | apply pw_below_drewN | apply below_drew1) | exact HB.out)) hb); have n1_ := Aside0.mk (hbox); have n2_ := Aside0.mk ((by rw [hg]; exact (below_size (by repeat (first | (with_reducible first | exact HB.out | apply below_alloc | apply pw_below_drewN | apply below_drew1) | exact HB.out))) : w.heap.size ≤ gb161)); have n3_ := Aside0.mk ((by rw [hg]; exact (below_size (by repeat (first | (with_reducible first | exact HB.out | apply below_alloc | apply pw_below_drewN | apply below_drew1) | exact HB.out))) : w.heap.size ≤ gb161)); clear HB; have HB := n0_; have BK161 := n1_; have GW161 := n2_; have GE161 := n3_; clear n0_ n1_ n2_ n3_; clear hb hbox hg) | ((with_reducible refine gate_callee (f := 10) rfl ?_); refine goesL_ (some 21) rfl rfl Try.func10 (by kernel_rfl) rfl #[] rfl (by (try simp only [List.map_toArray, List.map_cons, List.map_nil]); first | done | rfl | (simp only [List.length_drop, List.length_take]; rfl)) ?_; (with_reducible refine (hopmeshlaw32_awake.calls k  true _ A4.out).mono ?_); rintro e w71 ⟨rfl, hb⟩; refine ⟨_, rfl, ?_⟩; have n0_ := Aside0.mk (blk_below (g := gb161) (o := .cells #[.int .i64 a0_0, .int .i64 a0_1, .int .i64 a0_2, .int .i64 a0_3, .int .i64 a0_4, .int .i64 a0_5] 23 (0, 0)) (by (with_reducible repeat (first | refine blk_drewN ?_ _ | refine blk_drew ?_ | refine blk_alloc ?_ _)); exact BK161.out) hb); have n1_ := Aside0.mk (below_step (by repeat (first | (with_reducible first | exact HB.out | apply below_alloc | apply pw_below_drewN | apply below_drew1 | refine below_set ?_ GE161.out) | exact HB.out)) hb); clear BK161; clear HB; have BK161 := n0_; have HB := n1_; clear n0_ n1_; (try clear hb); (try clear hb2); (try clear hk); (try clear hi); have hcz72_0 : w71.cell? ⟨gb161, 0, none⟩ = some (.int .i64 a0_0) := (blk_cell BK161.out 0).trans rfl; have hcz72_1 : w71.cell? ⟨gb161, 1, none⟩ = some (.int .i64 a0_1) := (blk_cell BK161.out 1).trans rfl; have hcz72_2 : w71.cell? ⟨gb161, 2, none⟩ = some (.int .i64 a0_2) := (blk_cell BK161.out 2).trans rfl; have hcz72_3 : w71.cell? ⟨gb161, 3, none⟩ = some (.int .i64 a0_3) := (blk_cell BK161.out 3).trans rfl; have hcz72_4 : w71.cell? ⟨gb161, 4, none⟩ = some (.int .i64 a0_4) := (blk_cell BK161.out 4).trans rfl; have hcz72_5 : w71.cell? ⟨gb161, 5, none⟩ = some (.int .i64 a0_5) := (blk_cell BK161.out 5).trans rfl; have hfz72_0 := blk_frozen BK161.out 0; have hfz72_1 := blk_frozen BK161.out 1; have hfz72_2 := blk_frozen BK161.out 2; have hfz72_3 := blk_frozen BK161.out 3; have hfz72_4 := blk_frozen BK161.out 4; have hfz72_5 := blk_frozen BK161.out 5) | ((with_reducible refine gate_callee (f := 11) rfl ?_); refine goesL_ (some 28) rfl rfl Try.func11 (by kernel_rfl) rfl #[.agg #[.int .i64 a0_0, .int .i64 a0_1, .int .i64 a0_2, .int .i64 a0_3, .int .i64 a0_4, .int .i64 a0_5], .int .i64 (wrap64 (a1))] rfl (by (try simp only [List.map_toArray, List.map_cons, List.map_nil]); first | done | rfl | (simp only [List.length_drop, List.length_take]; rfl)) ?_; (with_reducible refine (flow_Window.calls a0_0 a0_1 a0_2 a0_3 a0_4 a0_5 (wrap64 (a1)) t163 t164 t165 _ A6.out).mono ?_); rintro e w73 ⟨rfl, hb⟩; refine ⟨_, rfl, ?_⟩; have n0_ := Aside0.mk (blk_below (g := gb161) (o := .cells #[.int .i64 a0_0, .int .i64 a0_1, .int .i64 a0_2, .int .i64 a0_3, .int .i64 a0_4, .int .i64 a0_5] 23 (0, 0)) (by (with_reducible repeat (first | refine blk_drewN ?_ _ | refine blk_drew ?_ | refine blk_alloc ?_ _)); exact BK161.out) hb); have n1_ := Aside0.mk (below_step (by repeat (first | (with_reducible first | exact HB.out | apply below_alloc | apply pw_below_drewN | apply below_drew1 | refine below_set ?_ GE161.out) | exact HB.out)) hb); clear BK161; clear HB; have BK161 := n0_; have HB := n1_; clear n0_ n1_; (try clear hb); (try clear hb2); (try clear hk); (try clear hi); have hcz74_0 : w73.cell? ⟨gb161, 0, none⟩ = some (.int .i64 a0_0) := (blk_cell BK161.out 0).trans rfl; have hcz74_1 : w73.cell? ⟨gb161, 1, none⟩ = some (.int .i64 a0_1) := (blk_cell BK161.out 1).trans rfl; have hcz74_2 : w73.cell? ⟨gb161, 2, none⟩ = some (.int .i64 a0_2) := (blk_cell BK161.out 2).trans rfl; have hcz74_3 : w73.cell? ⟨gb161, 3, none⟩ = some (.int .i64 a0_3) := (blk_cell BK161.out 3).trans rfl; have hcz74_4 : w73.cell? ⟨gb161, 4, none⟩ = some (.int .i64 a0_4) := (blk_cell BK161.out 4).trans rfl; have hcz74_5 : w73.cell? ⟨gb161, 5, none⟩ = some (.int .i64 a0_5) := (blk_cell BK161.out 5).trans rfl; have hfz74_0 := blk_frozen BK161.out 0; have hfz74_1 := blk_frozen BK161.out 1; have hfz74_2 := blk_frozen BK161.out 2; have hfz74_3 := blk_frozen BK161.out 3; have hfz74_4 := blk_frozen BK161.out 4; have hfz74_5 := blk_frozen BK161.out 5) | ((with_reducible refine gate_callee (f := 11) rfl ?_); refine goesL_ (some 36) rfl rfl Try.func11 (by kernel_rfl) rfl #[.agg #[.int .i64 a0_0, .int .i64 a0_1, .int .i64 a0_2, .int .i64 a0_3, .int .i64 a0_4, .int .i64 a0_5], .int .i64 (wrap64 ((wrap64 (a1)) + 1))] rfl (by (try simp only [List.map_toArray, List.map_cons, List.map_nil]); first | done | rfl | (simp only [List.length_drop, List.length_take]; rfl)) ?_; (with_reducible refine (flow_Window.calls a0_0 a0_1 a0_2 a0_3 a0_4 a0_5 (wrap64 ((wrap64 (a1)) + 1)) t166 t167 t168 _ A7.out).mono ?_); rintro e w75 ⟨rfl, hb⟩; refine ⟨_, rfl, ?_⟩; have n0_ := Aside0.mk (blk_below (g := gb161) (o := .cells #[.int .i64 a0_0, .int .i64 a0_1, .int .i64 a0_2, .int .i64 a0_3, .int .i64 a0_4, .int .i64 a0_5] 23 (0, 0)) (by (with_reducible repeat (first | refine blk_drewN ?_ _ | refine blk_drew ?_ | refine blk_alloc ?_ _)); exact BK161.out) hb); have n1_ := Aside0.mk (below_step (by repeat (first | (with_reducible first | exact HB.out | apply below_alloc | apply pw_below_drewN | apply below_drew1 | refine below_set ?_ GE161.out) | exact HB.out)) hb); clear BK161; clear HB; have BK161 := n0_; have HB := n1_; clear n0_ n1_; (try clear hb); (try clear hb2); (try clear hk); (try clear hi); have hcz76_0 : w75.cell? ⟨gb161, 0, none⟩ = some (.int .i64 a0_0) := (blk_cell BK161.out 0).trans rfl; have hcz76_1 : w75.cell? ⟨gb161, 1, none⟩ = some (.int .i64 a0_1) := (blk_cell BK161.out 1).trans rfl; have hcz76_2 : w75.cell? ⟨gb161, 2, none⟩ = some (.int .i64 a0_2) := (blk_cell BK161.out 2).trans rfl; have hcz76_3 : w75.cell? ⟨gb161, 3, none⟩ = some (.int .i64 a0_3) := (blk_cell BK161.out 3).trans rfl; have hcz76_4 : w75.cell? ⟨gb161, 4, none⟩ = some (.int .i64 a0_4) := (blk_cell BK161.out 4).trans rfl; have hcz76_5 : w75.cell? ⟨gb161, 5, none⟩ = some (.int .i64 a0_5) := (blk_cell BK161.out 5).trans rfl; have hfz76_0 := blk_frozen BK161.out 0; have hfz76_1 := blk_frozen BK161.out 1; have hfz76_2 := blk_frozen BK161.out 2; have hfz76_3 := blk_frozen BK161.out 3; have hfz76_4 := blk_frozen BK161.out 4; have hfz76_5 := blk_frozen BK161.out 5) | ((with_reducible refine gate_callee (f := 13) rfl ?_); refine goesL_ (some 43) rfl rfl Try.func13 (by kernel_rfl) rfl #[.agg #[.int .i64 a0_0, .int .i64 a0_1, .int .i64 a0_2, .int .i64 a0_3, .int .i64 a0_4, .int .i64 a0_5], .int .i64 (wrap64 (a1))] rfl (by (try simp only [List.map_toArray, List.map_cons, List.map_nil]); first | done | rfl | (simp only [List.length_drop, List.length_take]; rfl)) ?_; (with_reducible refine (flow_Due.calls a0_0 a0_1 a0_2 a0_3 a0_4 a0_5 (wrap64 (a1)) t169 t170 _ A8.out).mono ?_); rintro e w77 ⟨rfl, hb⟩; refine ⟨_, rfl, ?_⟩; have n0_ := Aside0.mk (blk_below (g := gb161) (o := .cells #[.int .i64 a0_0, .int .i64 a0_1, .int .i64 a0_2, .int .i64 a0_3, .int .i64 a0_4, .int .i64 a0_5] 23 (0, 0)) (by (with_reducible repeat (first | refine blk_drewN ?_ _ | refine blk_drew ?_ | refine blk_alloc ?_ _)); exact BK161.out) hb); have n1_ := Aside0.mk (below_step (by repeat (first | (with_reducible first | exact HB.out | apply below_alloc | apply pw_below_drewN | apply below_drew1 | refine below_set ?_ GE161.out) | exact HB.out)) hb); clear BK161; clear HB; have BK161 := n0_; have HB := n1_; clear n0_ n1_; (try clear hb); (try clear hb2); (try clear hk); (try clear hi)))
        go_ret
        exact ⟨by first | rfl | (simp [errW_none, errW_some] <;> rfl) | (simp [*, errW_none, errW_some] <;> rfl), by repeat (first | (with_reducible first | exact HB.out | apply below_alloc | apply pw_below_drewN | apply below_drew1 | refine below_set ?_ GE161.out) | exact HB.out)⟩
  · replace c5 := Bool.eq_false_iff.mpr c5
    subst c5
    have H1 : (some false) = some r := by rw [if_neg (show ¬ (false = true) by decide)] at H; exact H
    clear H
    have H := H1
    clear H1
    obtain rfl := Option.some.inj H
    go_enter Try.func4, Try.ntmps4
    go_wp2_with (first | ((with_reducible refine gate_dst (N := 3) rfl ?_); refine box_event ?hg (N := 3) ?hd (cs := #[.int .i64 a0_0, .int .i64 a0_1, .int .i64 a0_2, .int .i64 a0_3, .int .i64 a0_4, .int .i64 a0_5]) (t := 23) ?hr ?_; (case hd => rfl); (case hg => rfl); (case hr => first | (go_simp; done) | (go_simp; rfl)); intro gb161 hg w78 hbox hb; have n0_ := Aside0.mk (below_step (by repeat (first | (with_reducible first | exact HB.out | apply below_alloc | apply pw_below_drewN | apply below_drew1) | exact HB.out)) hb); have n1_ := Aside0.mk (hbox); have n2_ := Aside0.mk ((by rw [hg]; exact (below_size (by repeat (first | (with_reducible first | exact HB.out | apply below_alloc | apply pw_below_drewN | apply below_drew1) | exact HB.out))) : w.heap.size ≤ gb161)); have n3_ := Aside0.mk ((by rw [hg]; exact (below_size (by repeat (first | (with_reducible first | exact HB.out | apply below_alloc | apply pw_below_drewN | apply below_drew1) | exact HB.out))) : w.heap.size ≤ gb161)); clear HB; have HB := n0_; have BK161 := n1_; have GW161 := n2_; have GE161 := n3_; clear n0_ n1_ n2_ n3_; clear hb hbox hg) | ((with_reducible refine gate_callee (f := 10) rfl ?_); refine goesL_ (some 21) rfl rfl Try.func10 (by kernel_rfl) rfl #[] rfl (by (try simp only [List.map_toArray, List.map_cons, List.map_nil]); first | done | rfl | (simp only [List.length_drop, List.length_take]; rfl)) ?_; (with_reducible refine (hopmeshlaw32_awake.calls k  false _ A4.out).mono ?_); rintro e w79 ⟨rfl, hb⟩; refine ⟨_, rfl, ?_⟩; have n0_ := Aside0.mk (blk_below (g := gb161) (o := .cells #[.int .i64 a0_0, .int .i64 a0_1, .int .i64 a0_2, .int .i64 a0_3, .int .i64 a0_4, .int .i64 a0_5] 23 (0, 0)) (by (with_reducible repeat (first | refine blk_drewN ?_ _ | refine blk_drew ?_ | refine blk_alloc ?_ _)); exact BK161.out) hb); have n1_ := Aside0.mk (below_step (by repeat (first | (with_reducible first | exact HB.out | apply below_alloc | apply pw_below_drewN | apply below_drew1 | refine below_set ?_ GE161.out) | exact HB.out)) hb); clear BK161; clear HB; have BK161 := n0_; have HB := n1_; clear n0_ n1_; (try clear hb); (try clear hb2); (try clear hk); (try clear hi)))
    go_ret
    exact ⟨by first | rfl | (simp [errW_none, errW_some] <;> rfl) | (simp [*, errW_none, errW_some] <;> rfl), by repeat (first | (with_reducible first | exact HB.out | apply below_alloc | apply pw_below_drewN | apply below_drew1 | refine below_set ?_ GE161.out) | exact HB.out)⟩

/-! ### hopmeshlaw32_FlowLeast: function 5 -/
def hopmeshlaw32_FlowLeast.f (k : Nat) (l0 : List (S23)) (a1 : Int) : Option (Bool) := (hopmeshlaw32_awake.f k).bind fun t => if t = true then (if l0.length = 0 then some true else if 16 < l0.length then some true else (flow_Hyper.f k l0).bind fun h => (flow_Hyper.f k (l0.take (l0.length - 1))).bind fun g => if h.2 ≠ 0 then some true else if g.2 = 0 ∧ 1 ≤ g.1 ∧ 1 ≤ h.1 ∧ h.1 ≤ 512 ∧ h.1 % g.1 = 0 ∧ 0 ≤ a1 ∧ a1 ≤ 65535 ∧ (∀ j : Nat, j < l0.length → 1 ≤ (rd_T23 l0 j).f3 ∧ (rd_T23 l0 j).f3 ≤ 512) then (if a1 % h.1 = 0 then some true else if (List.range l0.length).any (fun i : Nat => a1 % h.1 % (rd_T23 l0 (i : Int)).f3 != 0) = true then some true else none) else none) else none
theorem hopmeshlaw32_FlowLeast.mono : ∀ a0 a1 k, LeO (hopmeshlaw32_FlowLeast.f k a0 a1) (hopmeshlaw32_FlowLeast.f (k + 1) a0 a1) := by
  intro a0 a1 k
  unfold hopmeshlaw32_FlowLeast.f
  refine LeO.bind (hopmeshlaw32_awake.mono k) (fun t => LeO.ite ?_ (LeO.refl _))
  refine LeO.ite (LeO.refl _) (LeO.ite (LeO.refl _) ?_)
  exact LeO.bind (flow_Hyper.mono _ _) (fun _ => LeO.bind (flow_Hyper.mono _ _) (fun _ => LeO.refl _))
set_option maxHeartbeats 8000000 in
set_option maxRecDepth 100000 in
theorem hopmeshlaw32_FlowLeast.calls (k : Nat) (A0 : Option Addr) (c0 : Nat) (l0 : List (S23)) (a1 : Int) (r : Bool) (w : World) (hr0 : Kd.C k23 w A0 l0.length l0) (hc0 : l0.length ≤ c0) (h : hopmeshlaw32_FlowLeast.f k l0 a1 = some r) :
    Calls Try.prog 5 #[.slice A0 l0.length c0, .int .u16 a1] w fun e w' => e = .returned (.bool r) ∧ Below w.heap.size w w' := by
  obtain ⟨t, ht, h⟩ := Option.bind_eq_some_iff.mp h
  have HA := Aside0.mk ht
  have HR0 := Aside0.mk hr0
  have HC0 := Aside0.mk hc0
  cases t with
  | false => simp at h
  | true =>
    rw [if_pos rfl] at h
    by_cases c1 : l0.length = 0
    · rw [if_pos c1] at h
      obtain rfl := Option.some.inj h
      have b1 : ((l0.length : Int) == 0) = true := beq_iff_eq.2 (by omega)
      have b2 : l0 = [] := List.eq_nil_of_length_eq_zero c1
      clear ht hr0 hc0 h c1
      subst b2
      go_enter Try.func5, Try.ntmps5
      go_wp2_with (go_at_call 10; (with_reducible refine (hopmeshlaw32_awake.calls k true _ HA.out).mono ?_); rintro e w1 ⟨rfl, hb⟩; have HB := Aside0.mk hb; clear hb)
      go_ret
      exact ⟨rfl, HB.out⟩
    · rw [if_neg c1] at h
      have b1 : ((l0.length : Int) == 0) = false := beq_eq_false_iff_ne.2 (by omega)
      have b1' : ¬ l0 = [] := fun e => c1 (by rw [e]; rfl)
      by_cases c2 : 16 < l0.length
      · rw [if_pos c2] at h
        obtain rfl := Option.some.inj h
        have b2 : decide ((16 : Int) < (l0.length : Int)) = true := decide_eq_true (by omega)
        have b3 : decide (16 < l0.length) = true := decide_eq_true c2
        clear ht hr0 hc0 h c1 c2
        go_enter Try.func5, Try.ntmps5
        go_wp2_with (go_at_call 10; (with_reducible refine (hopmeshlaw32_awake.calls k true _ HA.out).mono ?_); rintro e w1 ⟨rfl, hb⟩; have HB := Aside0.mk hb; clear hb)
        go_ret
        exact ⟨rfl, HB.out⟩
      · rw [if_neg c2] at h
        have b2 : decide ((16 : Int) < (l0.length : Int)) = false := decide_eq_false (by omega)
        have b3 : decide (16 < l0.length) = false := decide_eq_false c2
        obtain ⟨⟨h1, h2⟩, eh, h⟩ := Option.bind_eq_some_iff.mp h
        obtain ⟨⟨g1, g2⟩, eg, h⟩ := Option.bind_eq_some_iff.mp h
        have EH := Aside0.mk eh
        have EG := Aside0.mk eg
        simp only at h
        obtain ⟨l1, hl1⟩ : ∃ l1, l1 = l0.take (l0.length - 1) := ⟨_, rfl⟩
        obtain ⟨i35, hi35, hsz35⟩ := Option.map_eq_some_iff.1 info23
        have hcut : ∀ W : World, (Instr.slice 35 (.slice A0 l0.length c0) none (some (.int .i64 ((l0.length : Int) - 1))) none).run Try.prog W = .ok (.slice A0 l1.length c0) W := by
          intro W
          have := cut_to (P := Try.prog) 35 23 .i64 Try.underlying35 hi35 A0 l0.length c0 ((l0.length : Int) - 1) (by omega) (by omega) hc0 W
          rw [this, hl1, List.length_take, show min (l0.length - 1) l0.length = ((l0.length : Int) - 1).toNat by omega]
        have HT := Aside0.mk (show Kd.C k23 w A0 l1.length l1 by rw [hl1]; exact Kd.C_take hr0 (show l0.length - 1 ≤ l0.length by omega))
        have HTC : Aside0 (l1.length ≤ c0) := ⟨by rw [hl1, List.length_take]; omega⟩
        rw [← hl1] at EG
        have q1 : (1 : Int) ≤ (l0.length : Int) := by omega
        have q2 : (l0.length : Int) ≤ 16 := by omega
        clear eh eg ht hr0 hc0 c1 c2 hi35 hsz35 hl1
        by_cases c3 : h2 ≠ 0
        · rw [if_pos c3] at h
          obtain rfl := Option.some.inj h
          have b4 : (h2 == 0) = false := beq_eq_false_iff_ne.2 c3
          have b5 : (h2 != 0) = true := bne_iff_ne.2 c3
          clear c3 h
          go_enter Try.func5, Try.ntmps5
          go_wp2_with (first | (go_at_call 10; (with_reducible refine (hopmeshlaw32_awake.calls k true _ HA.out).mono ?_); rintro e w1 ⟨rfl, hb⟩; have HB := Aside0.mk hb; clear hb) | (go_at_call 16; (with_reducible refine (flow_Hyper.calls k A0 c0 l0 h1 h2 _ (Kd.C_below HR0.out HB.out) HC0.out EH.out).mono ?_); rintro e w2 ⟨rfl, hb⟩; have HB2 := Aside0.mk (below_step HB.out hb); clear hb) | (go_at_call 16; (with_reducible refine (flow_Hyper.calls k A0 c0 l1 g1 g2 _ (Kd.C_below HT.out HB2.out) HTC.out EG.out).mono ?_); rintro e w3 ⟨rfl, hb⟩; have HB3 := Aside0.mk (below_step HB2.out hb); clear hb))
          go_ret
          exact ⟨rfl, HB3.out⟩
        · rw [if_neg c3] at h
          obtain rfl : h2 = 0 := Decidable.not_not.1 c3
          clear c3
          by_cases c4 : g2 = 0 ∧ 1 ≤ g1 ∧ 1 ≤ h1 ∧ h1 ≤ 512 ∧ h1 % g1 = 0 ∧ 0 ≤ a1 ∧ a1 ≤ 65535 ∧ (∀ j : Nat, j < l0.length → 1 ≤ (rd_T23 l0 j).f3 ∧ (rd_T23 l0 j).f3 ≤ 512)
          · rw [if_pos c4] at h
            obtain ⟨rfl, k1, k2, k3, k4, k5, k6, k7⟩ := c4
            have K7 := Aside0.mk k7
            have z1 : (h1 % g1 == 0) = true := beq_iff_eq.2 k4
            have z2 : (h1 % g1 != 0) = false := bne_eq_false_iff_eq.2 k4
            have z3 : ¬ g1 = 0 := by omega
            have z4 : ¬ h1 = 0 := by omega
            have z3' : (g1 == 0) = false := beq_eq_false_iff_ne.2 z3
            have z4' : (h1 == 0) = false := beq_eq_false_iff_ne.2 z4
            have z5 : decide (g1 < 1) = false := decide_eq_false (by omega)
            have m0 : 0 ≤ a1 % h1 := Int.emod_nonneg _ z4
            have m1 : a1 % h1 ≤ a1 := by rw [Int.emod_def]; have : 0 ≤ h1 * (a1 / h1) := Int.mul_nonneg (by omega) (Int.ediv_nonneg (by omega) (by omega)); omega
            have hmf : ∀ (fn : Fn) (first cap : Array Value) (w : World), (Instr.makeFunc fn first cap).run Try.prog w = .ok (.func fn first cap) w := fun _ _ _ _ => rfl
            have HCN := Aside0.mk (fun (w3 : World) (hb : Below w.heap.size w w3) => containsFlow A0 c0 l0 18 Try.f18 #[.pointer (some ⟨w3.heap.size, 0, none⟩)] (fun i => a1 % h1 % (rd_T23 l0 i).f3 != 0)
              (fun i w' => w'.heap[w3.heap.size]? = some (.cells #[.int .i64 (a1 % h1)] 3 (0, 0)) ∧ Below w.heap.size w w') (w3.alloc (.cells #[.int .i64 (a1 % h1)] 3)) Try.func18 (by kernel_rfl) rfl (by omega)
              ⟨by simpa using heap_alloc_new w3 _, below_alloc hb _⟩ (fun i w' hi => Kd.C_below HR0.out hi.2)
              (fun i w' hi hp hinv => (leastStep (rd_T23 l0 i) (a1 % h1) w3.heap.size w' m0 (by omega) (K7.out i hi).1 (K7.out i hi).2 hinv.1).mono fun e w'' ⟨he, hb'⟩ => ⟨he, blk_below hinv.1 hb', below_step hinv.2 hb'⟩))
            clear k4 k7
            by_cases c5 : a1 % h1 = 0
            · rw [if_pos c5] at h
              obtain rfl := Option.some.inj h
              have z6 : (a1 % h1 == 0) = true := beq_iff_eq.2 c5
              clear c5 h HCN
              go_enter Try.func5, Try.ntmps5
              go_wp2_with (first | (go_at_call 10; (with_reducible refine (hopmeshlaw32_awake.calls k true _ HA.out).mono ?_); rintro e w1 ⟨rfl, hb⟩; have HB := Aside0.mk hb; clear hb) | (go_at_call 16; (with_reducible refine (flow_Hyper.calls k A0 c0 l0 h1 0 _ (Kd.C_below HR0.out HB.out) HC0.out EH.out).mono ?_); rintro e w2 ⟨rfl, hb⟩; have HB2 := Aside0.mk (below_step HB.out hb); clear hb) | (go_at_call 16; (with_reducible refine (flow_Hyper.calls k A0 c0 l1 g1 0 _ (Kd.C_below HT.out HB2.out) HTC.out EG.out).mono ?_); rintro e w3 ⟨rfl, hb⟩; have HB3 := Aside0.mk (below_step HB2.out hb); clear hb))
              go_ret
              exact ⟨by simp, below_alloc HB3.out _⟩
            · rw [if_neg c5] at h
              have z6 : (a1 % h1 == 0) = false := beq_eq_false_iff_ne.2 c5
              clear c5
              by_cases c6 : (List.range l0.length).any (fun i : Nat => a1 % h1 % (rd_T23 l0 (i : Int)).f3 != 0) = true
              · rw [if_pos c6] at h
                obtain rfl := Option.some.inj h
                have HANY := Aside0.mk c6
                clear c6 h
                go_enter Try.func5, Try.ntmps5
                go_wp2_with (first | (go_at_call 10; (with_reducible refine (hopmeshlaw32_awake.calls k true _ HA.out).mono ?_); rintro e w1 ⟨rfl, hb⟩; have HB := Aside0.mk hb; clear hb) | (go_at_call 16; (with_reducible refine (flow_Hyper.calls k A0 c0 l0 h1 0 _ (Kd.C_below HR0.out HB.out) HC0.out EH.out).mono ?_); rintro e w2 ⟨rfl, hb⟩; have HB2 := Aside0.mk (below_step HB.out hb); clear hb) | (go_at_call 16; (with_reducible refine (flow_Hyper.calls k A0 c0 l1 g1 0 _ (Kd.C_below HT.out HB2.out) HTC.out EG.out).mono ?_); rintro e w3 ⟨rfl, hb⟩; have HB3 := Aside0.mk (below_step HB2.out hb); have HCM := Aside0.mk (HCN.out w3 HB3.out); clear hb) | (go_at_call 17; refine HCM.out.mono ?_; rintro e w4 ⟨r, rfl, hf⟩; have hr := Found.hit hf HANY.out; rw [hr]; have HB4 := Aside0.mk (Found.inv hf).2; clear hf hr))
                go_ret
                exact ⟨by simp, HB4.out⟩
              · rw [if_neg c6] at h
                cases h
          · rw [if_neg c4] at h
            cases h

/-! ### hopmeshref32_Check: function 20 -/
def hopmeshref32_Check.l0 : Nat → Int → List (S23) → Int → Option (Int × Int)
  | 0, _, _, _ => none
  | k + 1, x0, x1, x6 => if x6 < (x1.length : Int) then (if 0 ≤ x6 then ((hopmeshref32_Fault.f k x0 ((rd_T23 x1 x6).f0) ((rd_T23 x1 x6).f1) ((rd_T23 x1 x6).f2) ((rd_T23 x1 x6).f3) ((rd_T23 x1 x6).f4) ((rd_T23 x1 x6).f5)).bind fun t177 => (if t177 = 0 then (if x6 > 0 then (if 0 ≤ (wrap64 (x6 - 1)) then (if (wrap64 (x6 - 1)) < (x1.length : Int) then (if ((rd_T23 x1 (wrap64 (x6 - 1))).f0) ≥ ((rd_T23 x1 x6).f0) then (some (x6, 5)) else (hopmeshref32_Check.l0 k x0 x1 (wrap64 (x6 + 1)))) else (none)) else (none)) else (hopmeshref32_Check.l0 k x0 x1 (wrap64 (x6 + 1)))) else (some (x6, t177)))) else (none)) else (some ((-1), 0))
def hopmeshref32_Check.f (k : Nat) (a0 : Int) (l1 : List (S23)) : Option (Int × Int) := (hopmeshref32_in.f a0 2 32).bind fun t175 => (if t175 = true then (if (l1.length : Int) > 16 then (some ((-1), 8)) else (hopmeshref32_Check.l0 k a0 l1 0)) else (some ((-1), 2)))
theorem hopmeshref32_Check.mono_l : ∀ k, (∀ y0 y1 y2, LeO (hopmeshref32_Check.l0 k y0 y1 y2) (hopmeshref32_Check.l0 (k + 1) y0 y1 y2))
  | 0 => fun _ _ _ r h => by simp [hopmeshref32_Check.l0] at h
  | k + 1 => by
    have ih0 := hopmeshref32_Check.mono_l k
    · intro y0 y1 y2
      unfold hopmeshref32_Check.l0
      repeat' first
      | (with_reducible exact ih0 _ _ _)
      | (with_reducible exact hopmeshref32_Fault.mono _ _ _ _ _ _ _ _)
      | (with_reducible exact LeO.refl _)
      | (with_reducible exact LeO.none _)
      | (with_reducible refine LeO.ite ?_ ?_)
      | (with_reducible refine LeO.bind ?_ (fun _ => ?_))
      | exact ih0 _ _ _
      | exact hopmeshref32_Fault.mono _ _ _ _ _ _ _ _
      | exact LeO.none _
      | refine LeO.ite ?_ ?_
      | refine LeO.bind ?_ (fun _ => ?_)
theorem hopmeshref32_Check.mono : ∀ a0 a1 k, LeO (hopmeshref32_Check.f k a0 a1) (hopmeshref32_Check.f (k + 1) a0 a1) := by
  intro a0 a1 k
  have ih0 := hopmeshref32_Check.mono_l k
  unfold hopmeshref32_Check.f
  repeat' first
      | (with_reducible exact ih0 _ _ _)
      | (with_reducible exact hopmeshref32_Fault.mono _ _ _ _ _ _ _ _)
      | (with_reducible exact LeO.refl _)
      | (with_reducible exact LeO.none _)
      | (with_reducible refine LeO.ite ?_ ?_)
      | (with_reducible refine LeO.bind ?_ (fun _ => ?_))
      | exact ih0 _ _ _
      | exact hopmeshref32_Fault.mono _ _ _ _ _ _ _ _
      | exact LeO.none _
      | refine LeO.ite ?_ ?_
      | refine LeO.bind ?_ (fun _ => ?_)
set_option maxHeartbeats 8000000 in
set_option maxRecDepth 100000 in
theorem hopmeshref32_Check.calls (k : Nat) (a0 : Int) (A1 : Option Addr) (c1 : Nat) (l1 : List (S23)) (r1 : Int) (r2 : Int) (w : World) (hr1 : Kd.C k23 w A1 l1.length l1) (hc1 : l1.length ≤ c1) (h : hopmeshref32_Check.f k a0 l1 = some (r1, r2)) :
    Calls Try.prog 20 #[.int .i64 a0, .slice A1 l1.length c1] w fun e w' => e = .returned (.tuple #[.int .i64 r1, .int .i64 r2]) ∧ Below w.heap.size w w' := by
  have hu23 := Try.underlying23
  have HR1 := Aside0.mk hr1
  have HC1 := Aside0.mk hc1
  clear hr1 hc1
  have HB := Aside0.mk (Below.refl w.heap.size w)
  have H : ((hopmeshref32_in.f a0 2 32).bind fun t175 => (if t175 = true then (if (l1.length : Int) > 16 then (some ((-1), 8)) else (hopmeshref32_Check.l0 k a0 l1 0)) else (some ((-1), 2)))) = some (r1, r2) := h
  clear h
  replace H := Option.bind_eq_some_iff.mp H
  obtain ⟨t175, A30, H⟩ := H
  replace H : (if t175 = true then (if (l1.length : Int) > 16 then (some ((-1), 8)) else (hopmeshref32_Check.l0 k a0 l1 0)) else (some ((-1), 2))) = some (r1, r2) := H
  have A3 := Aside0.mk A30
  clear A30
  by_cases c4 : t175 = true
  · subst c4
    have H1 : (if (l1.length : Int) > 16 then (some ((-1), 8)) else (hopmeshref32_Check.l0 k a0 l1 0)) = some (r1, r2) := by rw [if_pos rfl] at H; exact H
    clear H
    have H := H1
    clear H1
    by_cases c5 : (l1.length : Int) > 16
    · rw [if_pos c5] at H
      have c5b0 : decide (16 < (l1.length : Int)) = true := decide_eq_true c5
      have c5b1 : decide (16 < l1.length) = true := decide_eq_true (by omega)
      clear c5
      simp only [Option.some.injEq, Prod.mk.injEq] at H
      obtain ⟨rfl, rfl⟩ := H
      go_enter Try.func20, Try.ntmps20
      go_wp2_with (first | (go_at_call 37; (with_reducible refine (hopmeshref32_in.calls a0 2 32 true _ A3.out).mono ?_); rintro e w' ⟨rfl, ⟨nd, rfl⟩⟩; (try first | exact ⟨rfl, _, World.drewN_drewN _ _ _⟩ | exact ⟨rfl, _, Eq.trans (World.drewN_drewN _ _ _) (congrArg (World.drewN _) (Nat.add_assoc _ _ _))⟩)))
      repeat (go_quiet (first | (go_at_call 37; (with_reducible refine (hopmeshref32_in.calls a0 2 32 true _ A3.out).mono ?_); rintro e w' ⟨rfl, ⟨nd, rfl⟩⟩; (try first | exact ⟨rfl, _, World.drewN_drewN _ _ _⟩ | exact ⟨rfl, _, Eq.trans (World.drewN_drewN _ _ _) (congrArg (World.drewN _) (Nat.add_assoc _ _ _))⟩))); try go_wp2_with (first | (go_at_call 37; (with_reducible refine (hopmeshref32_in.calls a0 2 32 true _ A3.out).mono ?_); rintro e w' ⟨rfl, ⟨nd, rfl⟩⟩; (try first | exact ⟨rfl, _, World.drewN_drewN _ _ _⟩ | exact ⟨rfl, _, Eq.trans (World.drewN_drewN _ _ _) (congrArg (World.drewN _) (Nat.add_assoc _ _ _))⟩))))
      go_ret2
      exact ⟨by first | rfl | (simp [errW_none, errW_some] <;> rfl) | (simp [*, errW_none, errW_some] <;> rfl), by repeat (first | (with_reducible first | exact HB.out | apply below_alloc | apply pw_below_drewN | apply below_drew1) | exact HB.out)⟩
    · rw [if_neg c5] at H
      have c5b0 : decide (16 < (l1.length : Int)) = false := decide_eq_false c5
      have c5b1 : decide (16 < l1.length) = false := decide_eq_false (by omega)
      clear c5
      have H' := Aside0.mk H
      clear H
      go_enter Try.func20, Try.ntmps20
      go_wp2_with (first | (go_at_call 37; (with_reducible refine (hopmeshref32_in.calls a0 2 32 true _ A3.out).mono ?_); rintro e w' ⟨rfl, ⟨nd, rfl⟩⟩; (try first | exact ⟨rfl, _, World.drewN_drewN _ _ _⟩ | exact ⟨rfl, _, Eq.trans (World.drewN_drewN _ _ _) (congrArg (World.drewN _) (Nat.add_assoc _ _ _))⟩)))
      repeat (go_quiet (first | (go_at_call 37; (with_reducible refine (hopmeshref32_in.calls a0 2 32 true _ A3.out).mono ?_); rintro e w' ⟨rfl, ⟨nd, rfl⟩⟩; (try first | exact ⟨rfl, _, World.drewN_drewN _ _ _⟩ | exact ⟨rfl, _, Eq.trans (World.drewN_drewN _ _ _) (congrArg (World.drewN _) (Nat.add_assoc _ _ _))⟩))); try go_wp2_with (first | (go_at_call 37; (with_reducible refine (hopmeshref32_in.calls a0 2 32 true _ A3.out).mono ?_); rintro e w' ⟨rfl, ⟨nd, rfl⟩⟩; (try first | exact ⟨rfl, _, World.drewN_drewN _ _ _⟩ | exact ⟨rfl, _, Eq.trans (World.drewN_drewN _ _ _) (congrArg (World.drewN _) (Nat.add_assoc _ _ _))⟩))))
      go_loopg [6] k (fun kq v6 w' => ∃ (x6_1 : Int), v6 = .int .i64 x6_1 ∧ Aside0 (hopmeshref32_Check.l0 kq a0 l1 x6_1 = some (r1, r2)) ∧ Aside0 (kq ≤ k) ∧ Aside0 (Below w.heap.size w w'))
      case atStart => exact ⟨(0), (by first | rfl | (simp; done) | (simp [*]; done)), H', ⟨Nat.le_refl _⟩, ⟨by repeat (first | (with_reducible first | exact HB.out | apply below_alloc | apply pw_below_drewN | apply below_drew1) | exact HB.out)⟩⟩
      case round =>
        clear H'
        try clear c1
        try clear c2
        try clear p2
        try clear c4
        try clear c5
        try clear c5b0
        try clear c5b1
        obtain ⟨x6_1, rfl, HA, HK1, HB⟩ := hrel
        cases gk with
        | zero => exact absurd HA.out (by simp [hopmeshref32_Check.l0])
        | succ k1 =>
          have H := HA.out
          clear HA
          simp only [hopmeshref32_Check.l0] at H
          by_cases c6 : x6_1 < (l1.length : Int)
          · rw [if_pos c6] at H
            have c6b0 : decide (x6_1 < (l1.length : Int)) = true := decide_eq_true c6
            clear c6
            by_cases c7 : 0 ≤ x6_1
            · rw [if_pos c7] at H
              have c7b0 : decide (0 ≤ x6_1) = true := decide_eq_true c7
              clear c7
              replace H := Option.bind_eq_some_iff.mp H
              obtain ⟨t177, A80, H⟩ := H
              replace H : (if t177 = 0 then (if x6_1 > 0 then (if 0 ≤ (wrap64 (x6_1 - 1)) then (if (wrap64 (x6_1 - 1)) < (l1.length : Int) then (if ((rd_T23 l1 (wrap64 (x6_1 - 1))).f0) ≥ ((rd_T23 l1 x6_1).f0) then (some (x6_1, 5)) else (hopmeshref32_Check.l0 k1 a0 l1 (wrap64 (x6_1 + 1)))) else (none)) else (none)) else (hopmeshref32_Check.l0 k1 a0 l1 (wrap64 (x6_1 + 1)))) else (some (x6_1, t177))) = some (r1, r2) := H
              have A8 := Aside0.mk A80
              clear A80
              by_cases c9 : t177 = 0
              · rw [if_pos c9] at H
                have c9b0 : (t177 == 0) = true := beq_iff_eq.mpr c9
                have c9b1 : (t177 != 0) = false := bne_eq_false_iff_eq.mpr c9
                clear c9
                by_cases c10 : x6_1 > 0
                · rw [if_pos c10] at H
                  have c10b0 : decide (0 < x6_1) = true := decide_eq_true c10
                  clear c10
                  obtain ⟨ji11, hji11⟩ : ∃ j_ : Int, (wrap64 (x6_1 - 1)) = j_ := ⟨_, rfl⟩
                  replace H : (if 0 ≤ (ji11) then (if (ji11) < (l1.length : Int) then (if ((rd_T23 l1 (ji11)).f0) ≥ ((rd_T23 l1 x6_1).f0) then (some (x6_1, 5)) else (hopmeshref32_Check.l0 k1 a0 l1 (wrap64 (x6_1 + 1)))) else (none)) else (none)) = some (r1, r2) := by first | (rw [hji11] at H; exact H) | (simp only [hji11] at H ⊢; exact H)
                  (try rw [hji11] at A8)
                  have hji11w : (IntKind.i64.wrap (x6_1 - 1)) = ji11 := (i64_w _).trans hji11
                  by_cases c12 : 0 ≤ (ji11)
                  · rw [if_pos c12] at H
                    have c12b0 : decide (0 ≤ (ji11)) = true := decide_eq_true c12
                    clear c12
                    by_cases c13 : (ji11) < (l1.length : Int)
                    · rw [if_pos c13] at H
                      have c13b0 : decide ((ji11) < (l1.length : Int)) = true := decide_eq_true c13
                      clear c13
                      by_cases c14 : ((rd_T23 l1 (ji11)).f0) ≥ ((rd_T23 l1 x6_1).f0)
                      · rw [if_pos c14] at H
                        have c14b0 : decide (((rd_T23 l1 x6_1).f0) ≤ ((rd_T23 l1 (ji11)).f0)) = true := decide_eq_true c14
                        clear c14
                        simp only [Option.some.injEq, Prod.mk.injEq] at H
                        obtain ⟨rfl, rfl⟩ := H
                        have p176 : 0 ≤ (x6_1 : Int) := of_decide_eq_true (by first | (with_reducible assumption) | assumption)
                        have q176 : x6_1 < (l1.length : Int) := of_decide_eq_true (by first | (with_reducible assumption) | assumption)
                        obtain ⟨ad176, e176, hx176_0, hx176_1, hx176_2, hx176_3, hx176_4, hx176_5⟩ := at_T23 HR1.out x6_1 p176 q176
                        cases e176
                        replace hx176_0 := (HB.out.cell (World.block_lt_of_cell? w _ hx176_0)).trans hx176_0
                        replace hx176_1 := (HB.out.cell (World.block_lt_of_cell? w _ hx176_1)).trans hx176_1
                        replace hx176_2 := (HB.out.cell (World.block_lt_of_cell? w _ hx176_2)).trans hx176_2
                        replace hx176_3 := (HB.out.cell (World.block_lt_of_cell? w _ hx176_3)).trans hx176_3
                        replace hx176_4 := (HB.out.cell (World.block_lt_of_cell? w _ hx176_4)).trans hx176_4
                        replace hx176_5 := (HB.out.cell (World.block_lt_of_cell? w _ hx176_5)).trans hx176_5
                        replace p176 := eq_true p176
                        replace q176 := eq_true q176
                        go_wp2_with (first | (go_at_call 38; (with_reducible refine (hopmeshref32_Fault.calls k1 a0 ((rd_T23 l1 x6_1).f0) ((rd_T23 l1 x6_1).f1) ((rd_T23 l1 x6_1).f2) ((rd_T23 l1 x6_1).f3) ((rd_T23 l1 x6_1).f4) ((rd_T23 l1 x6_1).f5) t177 _ A8.out).mono ?_); rintro e w15 ⟨rfl, hb⟩; have n0_ := Aside0.mk (below_step (by repeat (first | (with_reducible first | exact HB.out | apply below_alloc | apply pw_below_drewN | apply below_drew1) | exact HB.out)) hb); clear HB; have HB := n0_; clear n0_; (try clear hb); (try clear hb2); (try clear hk); (try clear hi); have p178 : 0 ≤ ((ji11) : Int) := of_decide_eq_true (by first | (with_reducible assumption) | assumption); have q178 : (ji11) < (l1.length : Int) := of_decide_eq_true (by first | (with_reducible assumption) | assumption); obtain ⟨ad178, e178, hx178_0, hx178_1, hx178_2, hx178_3, hx178_4, hx178_5⟩ := at_T23 HR1.out (ji11) p178 q178; obtain rfl : ad176 = ad178 := (by injection e178); replace hx178_0 := (HB.out.cell (World.block_lt_of_cell? w _ hx178_0)).trans hx178_0; replace hx178_1 := (HB.out.cell (World.block_lt_of_cell? w _ hx178_1)).trans hx178_1; replace hx178_2 := (HB.out.cell (World.block_lt_of_cell? w _ hx178_2)).trans hx178_2; replace hx178_3 := (HB.out.cell (World.block_lt_of_cell? w _ hx178_3)).trans hx178_3; replace hx178_4 := (HB.out.cell (World.block_lt_of_cell? w _ hx178_4)).trans hx178_4; replace hx178_5 := (HB.out.cell (World.block_lt_of_cell? w _ hx178_5)).trans hx178_5; replace p178 := eq_true p178; replace q178 := eq_true q178; have p179 : 0 ≤ (x6_1 : Int) := of_decide_eq_true (by first | (with_reducible assumption) | assumption); have q179 : x6_1 < (l1.length : Int) := of_decide_eq_true (by first | (with_reducible assumption) | assumption); obtain ⟨ad179, e179, hx179_0, hx179_1, hx179_2, hx179_3, hx179_4, hx179_5⟩ := at_T23 HR1.out x6_1 p179 q179; obtain rfl : ad176 = ad179 := (by injection e179); replace hx179_0 := (HB.out.cell (World.block_lt_of_cell? w _ hx179_0)).trans hx179_0; replace hx179_1 := (HB.out.cell (World.block_lt_of_cell? w _ hx179_1)).trans hx179_1; replace hx179_2 := (HB.out.cell (World.block_lt_of_cell? w _ hx179_2)).trans hx179_2; replace hx179_3 := (HB.out.cell (World.block_lt_of_cell? w _ hx179_3)).trans hx179_3; replace hx179_4 := (HB.out.cell (World.block_lt_of_cell? w _ hx179_4)).trans hx179_4; replace hx179_5 := (HB.out.cell (World.block_lt_of_cell? w _ hx179_5)).trans hx179_5; replace p179 := eq_true p179; replace q179 := eq_true q179))
                        repeat (go_quiet (first | (go_at_call 38; (with_reducible refine (hopmeshref32_Fault.calls k1 a0 ((rd_T23 l1 x6_1).f0) ((rd_T23 l1 x6_1).f1) ((rd_T23 l1 x6_1).f2) ((rd_T23 l1 x6_1).f3) ((rd_T23 l1 x6_1).f4) ((rd_T23 l1 x6_1).f5) t177 _ A8.out).mono ?_); rintro e w15 ⟨rfl, hb⟩; have n0_ := Aside0.mk (below_step (by repeat (first | (with_reducible first | exact HB.out | apply below_alloc | apply pw_below_drewN | apply below_drew1) | exact HB.out)) hb); clear HB; have HB := n0_; clear n0_; (try clear hb); (try clear hb2); (try clear hk); (try clear hi); have p178 : 0 ≤ ((ji11) : Int) := of_decide_eq_true (by first | (with_reducible assumption) | assumption); have q178 : (ji11) < (l1.length : Int) := of_decide_eq_true (by first | (with_reducible assumption) | assumption); obtain ⟨ad178, e178, hx178_0, hx178_1, hx178_2, hx178_3, hx178_4, hx178_5⟩ := at_T23 HR1.out (ji11) p178 q178; obtain rfl : ad176 = ad178 := (by injection e178); replace hx178_0 := (HB.out.cell (World.block_lt_of_cell? w _ hx178_0)).trans hx178_0; replace hx178_1 := (HB.out.cell (World.block_lt_of_cell? w _ hx178_1)).trans hx178_1; replace hx178_2 := (HB.out.cell (World.block_lt_of_cell? w _ hx178_2)).trans hx178_2; replace hx178_3 := (HB.out.cell (World.block_lt_of_cell? w _ hx178_3)).trans hx178_3; replace hx178_4 := (HB.out.cell (World.block_lt_of_cell? w _ hx178_4)).trans hx178_4; replace hx178_5 := (HB.out.cell (World.block_lt_of_cell? w _ hx178_5)).trans hx178_5; replace p178 := eq_true p178; replace q178 := eq_true q178; have p179 : 0 ≤ (x6_1 : Int) := of_decide_eq_true (by first | (with_reducible assumption) | assumption); have q179 : x6_1 < (l1.length : Int) := of_decide_eq_true (by first | (with_reducible assumption) | assumption); obtain ⟨ad179, e179, hx179_0, hx179_1, hx179_2, hx179_3, hx179_4, hx179_5⟩ := at_T23 HR1.out x6_1 p179 q179; obtain rfl : ad176 = ad179 := (by injection e179); replace hx179_0 := (HB.out.cell (World.block_lt_of_cell? w _ hx179_0)).trans hx179_0; replace hx179_1 := (HB.out.cell (World.block_lt_of_cell? w _ hx179_1)).trans hx179_1; replace hx179_2 := (HB.out.cell (World.block_lt_of_cell? w _ hx179_2)).trans hx179_2; replace hx179_3 := (HB.out.cell (World.block_lt_of_cell? w _ hx179_3)).trans hx179_3; replace hx179_4 := (HB.out.cell (World.block_lt_of_cell? w _ hx179_4)).trans hx179_4; replace hx179_5 := (HB.out.cell (World.block_lt_of_cell? w _ hx179_5)).trans hx179_5; replace p179 := eq_true p179; replace q179 := eq_true q179)); try go_wp2_with (first | (go_at_call 38; (with_reducible refine (hopmeshref32_Fault.calls k1 a0 ((rd_T23 l1 x6_1).f0) ((rd_T23 l1 x6_1).f1) ((rd_T23 l1 x6_1).f2) ((rd_T23 l1 x6_1).f3) ((rd_T23 l1 x6_1).f4) ((rd_T23 l1 x6_1).f5) t177 _ A8.out).mono ?_); rintro e w15 ⟨rfl, hb⟩; have n0_ := Aside0.mk (below_step (by repeat (first | (with_reducible first | exact HB.out | apply below_alloc | apply pw_below_drewN | apply below_drew1) | exact HB.out)) hb); clear HB; have HB := n0_; clear n0_; (try clear hb); (try clear hb2); (try clear hk); (try clear hi); have p178 : 0 ≤ ((ji11) : Int) := of_decide_eq_true (by first | (with_reducible assumption) | assumption); have q178 : (ji11) < (l1.length : Int) := of_decide_eq_true (by first | (with_reducible assumption) | assumption); obtain ⟨ad178, e178, hx178_0, hx178_1, hx178_2, hx178_3, hx178_4, hx178_5⟩ := at_T23 HR1.out (ji11) p178 q178; obtain rfl : ad176 = ad178 := (by injection e178); replace hx178_0 := (HB.out.cell (World.block_lt_of_cell? w _ hx178_0)).trans hx178_0; replace hx178_1 := (HB.out.cell (World.block_lt_of_cell? w _ hx178_1)).trans hx178_1; replace hx178_2 := (HB.out.cell (World.block_lt_of_cell? w _ hx178_2)).trans hx178_2; replace hx178_3 := (HB.out.cell (World.block_lt_of_cell? w _ hx178_3)).trans hx178_3; replace hx178_4 := (HB.out.cell (World.block_lt_of_cell? w _ hx178_4)).trans hx178_4; replace hx178_5 := (HB.out.cell (World.block_lt_of_cell? w _ hx178_5)).trans hx178_5; replace p178 := eq_true p178; replace q178 := eq_true q178; have p179 : 0 ≤ (x6_1 : Int) := of_decide_eq_true (by first | (with_reducible assumption) | assumption); have q179 : x6_1 < (l1.length : Int) := of_decide_eq_true (by first | (with_reducible assumption) | assumption); obtain ⟨ad179, e179, hx179_0, hx179_1, hx179_2, hx179_3, hx179_4, hx179_5⟩ := at_T23 HR1.out x6_1 p179 q179; obtain rfl : ad176 = ad179 := (by injection e179); replace hx179_0 := (HB.out.cell (World.block_lt_of_cell? w _ hx179_0)).trans hx179_0; replace hx179_1 := (HB.out.cell (World.block_lt_of_cell? w _ hx179_1)).trans hx179_1; replace hx179_2 := (HB.out.cell (World.block_lt_of_cell? w _ hx179_2)).trans hx179_2; replace hx179_3 := (HB.out.cell (World.block_lt_of_cell? w _ hx179_3)).trans hx179_3; replace hx179_4 := (HB.out.cell (World.block_lt_of_cell? w _ hx179_4)).trans hx179_4; replace hx179_5 := (HB.out.cell (World.block_lt_of_cell? w _ hx179_5)).trans hx179_5; replace p179 := eq_true p179; replace q179 := eq_true q179)))
                        go_ret2
                        exact ⟨by first | rfl | (simp [errW_none, errW_some] <;> rfl) | (simp only [← hji11]; first | rfl | (simp [errW_none, errW_some] <;> rfl)) | (simp [*, errW_none, errW_some] <;> rfl), by repeat (first | (with_reducible first | exact HB.out | apply below_alloc | apply pw_below_drewN | apply below_drew1) | exact HB.out)⟩
                      · rw [if_neg c14] at H
                        have c14b0 : decide (((rd_T23 l1 x6_1).f0) ≤ ((rd_T23 l1 (ji11)).f0)) = false := decide_eq_false c14
                        clear c14
                        have H' := Aside0.mk H
                        clear H
                        have p176 : 0 ≤ (x6_1 : Int) := of_decide_eq_true (by first | (with_reducible assumption) | assumption)
                        have q176 : x6_1 < (l1.length : Int) := of_decide_eq_true (by first | (with_reducible assumption) | assumption)
                        obtain ⟨ad176, e176, hx176_0, hx176_1, hx176_2, hx176_3, hx176_4, hx176_5⟩ := at_T23 HR1.out x6_1 p176 q176
                        cases e176
                        replace hx176_0 := (HB.out.cell (World.block_lt_of_cell? w _ hx176_0)).trans hx176_0
                        replace hx176_1 := (HB.out.cell (World.block_lt_of_cell? w _ hx176_1)).trans hx176_1
                        replace hx176_2 := (HB.out.cell (World.block_lt_of_cell? w _ hx176_2)).trans hx176_2
                        replace hx176_3 := (HB.out.cell (World.block_lt_of_cell? w _ hx176_3)).trans hx176_3
                        replace hx176_4 := (HB.out.cell (World.block_lt_of_cell? w _ hx176_4)).trans hx176_4
                        replace hx176_5 := (HB.out.cell (World.block_lt_of_cell? w _ hx176_5)).trans hx176_5
                        replace p176 := eq_true p176
                        replace q176 := eq_true q176
                        go_wp2_with (first | (go_at_call 38; (with_reducible refine (hopmeshref32_Fault.calls k1 a0 ((rd_T23 l1 x6_1).f0) ((rd_T23 l1 x6_1).f1) ((rd_T23 l1 x6_1).f2) ((rd_T23 l1 x6_1).f3) ((rd_T23 l1 x6_1).f4) ((rd_T23 l1 x6_1).f5) t177 _ A8.out).mono ?_); rintro e w16 ⟨rfl, hb⟩; have n0_ := Aside0.mk (below_step (by repeat (first | (with_reducible first | exact HB.out | apply below_alloc | apply pw_below_drewN | apply below_drew1) | exact HB.out)) hb); clear HB; have HB := n0_; clear n0_; (try clear hb); (try clear hb2); (try clear hk); (try clear hi); have p178 : 0 ≤ ((ji11) : Int) := of_decide_eq_true (by first | (with_reducible assumption) | assumption); have q178 : (ji11) < (l1.length : Int) := of_decide_eq_true (by first | (with_reducible assumption) | assumption); obtain ⟨ad178, e178, hx178_0, hx178_1, hx178_2, hx178_3, hx178_4, hx178_5⟩ := at_T23 HR1.out (ji11) p178 q178; obtain rfl : ad176 = ad178 := (by injection e178); replace hx178_0 := (HB.out.cell (World.block_lt_of_cell? w _ hx178_0)).trans hx178_0; replace hx178_1 := (HB.out.cell (World.block_lt_of_cell? w _ hx178_1)).trans hx178_1; replace hx178_2 := (HB.out.cell (World.block_lt_of_cell? w _ hx178_2)).trans hx178_2; replace hx178_3 := (HB.out.cell (World.block_lt_of_cell? w _ hx178_3)).trans hx178_3; replace hx178_4 := (HB.out.cell (World.block_lt_of_cell? w _ hx178_4)).trans hx178_4; replace hx178_5 := (HB.out.cell (World.block_lt_of_cell? w _ hx178_5)).trans hx178_5; replace p178 := eq_true p178; replace q178 := eq_true q178; have p179 : 0 ≤ (x6_1 : Int) := of_decide_eq_true (by first | (with_reducible assumption) | assumption); have q179 : x6_1 < (l1.length : Int) := of_decide_eq_true (by first | (with_reducible assumption) | assumption); obtain ⟨ad179, e179, hx179_0, hx179_1, hx179_2, hx179_3, hx179_4, hx179_5⟩ := at_T23 HR1.out x6_1 p179 q179; obtain rfl : ad176 = ad179 := (by injection e179); replace hx179_0 := (HB.out.cell (World.block_lt_of_cell? w _ hx179_0)).trans hx179_0; replace hx179_1 := (HB.out.cell (World.block_lt_of_cell? w _ hx179_1)).trans hx179_1; replace hx179_2 := (HB.out.cell (World.block_lt_of_cell? w _ hx179_2)).trans hx179_2; replace hx179_3 := (HB.out.cell (World.block_lt_of_cell? w _ hx179_3)).trans hx179_3; replace hx179_4 := (HB.out.cell (World.block_lt_of_cell? w _ hx179_4)).trans hx179_4; replace hx179_5 := (HB.out.cell (World.block_lt_of_cell? w _ hx179_5)).trans hx179_5; replace p179 := eq_true p179; replace q179 := eq_true q179))
                        repeat (go_quiet (first | (go_at_call 38; (with_reducible refine (hopmeshref32_Fault.calls k1 a0 ((rd_T23 l1 x6_1).f0) ((rd_T23 l1 x6_1).f1) ((rd_T23 l1 x6_1).f2) ((rd_T23 l1 x6_1).f3) ((rd_T23 l1 x6_1).f4) ((rd_T23 l1 x6_1).f5) t177 _ A8.out).mono ?_); rintro e w16 ⟨rfl, hb⟩; have n0_ := Aside0.mk (below_step (by repeat (first | (with_reducible first | exact HB.out | apply below_alloc | apply pw_below_drewN | apply below_drew1) | exact HB.out)) hb); clear HB; have HB := n0_; clear n0_; (try clear hb); (try clear hb2); (try clear hk); (try clear hi); have p178 : 0 ≤ ((ji11) : Int) := of_decide_eq_true (by first | (with_reducible assumption) | assumption); have q178 : (ji11) < (l1.length : Int) := of_decide_eq_true (by first | (with_reducible assumption) | assumption); obtain ⟨ad178, e178, hx178_0, hx178_1, hx178_2, hx178_3, hx178_4, hx178_5⟩ := at_T23 HR1.out (ji11) p178 q178; obtain rfl : ad176 = ad178 := (by injection e178); replace hx178_0 := (HB.out.cell (World.block_lt_of_cell? w _ hx178_0)).trans hx178_0; replace hx178_1 := (HB.out.cell (World.block_lt_of_cell? w _ hx178_1)).trans hx178_1; replace hx178_2 := (HB.out.cell (World.block_lt_of_cell? w _ hx178_2)).trans hx178_2; replace hx178_3 := (HB.out.cell (World.block_lt_of_cell? w _ hx178_3)).trans hx178_3; replace hx178_4 := (HB.out.cell (World.block_lt_of_cell? w _ hx178_4)).trans hx178_4; replace hx178_5 := (HB.out.cell (World.block_lt_of_cell? w _ hx178_5)).trans hx178_5; replace p178 := eq_true p178; replace q178 := eq_true q178; have p179 : 0 ≤ (x6_1 : Int) := of_decide_eq_true (by first | (with_reducible assumption) | assumption); have q179 : x6_1 < (l1.length : Int) := of_decide_eq_true (by first | (with_reducible assumption) | assumption); obtain ⟨ad179, e179, hx179_0, hx179_1, hx179_2, hx179_3, hx179_4, hx179_5⟩ := at_T23 HR1.out x6_1 p179 q179; obtain rfl : ad176 = ad179 := (by injection e179); replace hx179_0 := (HB.out.cell (World.block_lt_of_cell? w _ hx179_0)).trans hx179_0; replace hx179_1 := (HB.out.cell (World.block_lt_of_cell? w _ hx179_1)).trans hx179_1; replace hx179_2 := (HB.out.cell (World.block_lt_of_cell? w _ hx179_2)).trans hx179_2; replace hx179_3 := (HB.out.cell (World.block_lt_of_cell? w _ hx179_3)).trans hx179_3; replace hx179_4 := (HB.out.cell (World.block_lt_of_cell? w _ hx179_4)).trans hx179_4; replace hx179_5 := (HB.out.cell (World.block_lt_of_cell? w _ hx179_5)).trans hx179_5; replace p179 := eq_true p179; replace q179 := eq_true q179)); try go_wp2_with (first | (go_at_call 38; (with_reducible refine (hopmeshref32_Fault.calls k1 a0 ((rd_T23 l1 x6_1).f0) ((rd_T23 l1 x6_1).f1) ((rd_T23 l1 x6_1).f2) ((rd_T23 l1 x6_1).f3) ((rd_T23 l1 x6_1).f4) ((rd_T23 l1 x6_1).f5) t177 _ A8.out).mono ?_); rintro e w16 ⟨rfl, hb⟩; have n0_ := Aside0.mk (below_step (by repeat (first | (with_reducible first | exact HB.out | apply below_alloc | apply pw_below_drewN | apply below_drew1) | exact HB.out)) hb); clear HB; have HB := n0_; clear n0_; (try clear hb); (try clear hb2); (try clear hk); (try clear hi); have p178 : 0 ≤ ((ji11) : Int) := of_decide_eq_true (by first | (with_reducible assumption) | assumption); have q178 : (ji11) < (l1.length : Int) := of_decide_eq_true (by first | (with_reducible assumption) | assumption); obtain ⟨ad178, e178, hx178_0, hx178_1, hx178_2, hx178_3, hx178_4, hx178_5⟩ := at_T23 HR1.out (ji11) p178 q178; obtain rfl : ad176 = ad178 := (by injection e178); replace hx178_0 := (HB.out.cell (World.block_lt_of_cell? w _ hx178_0)).trans hx178_0; replace hx178_1 := (HB.out.cell (World.block_lt_of_cell? w _ hx178_1)).trans hx178_1; replace hx178_2 := (HB.out.cell (World.block_lt_of_cell? w _ hx178_2)).trans hx178_2; replace hx178_3 := (HB.out.cell (World.block_lt_of_cell? w _ hx178_3)).trans hx178_3; replace hx178_4 := (HB.out.cell (World.block_lt_of_cell? w _ hx178_4)).trans hx178_4; replace hx178_5 := (HB.out.cell (World.block_lt_of_cell? w _ hx178_5)).trans hx178_5; replace p178 := eq_true p178; replace q178 := eq_true q178; have p179 : 0 ≤ (x6_1 : Int) := of_decide_eq_true (by first | (with_reducible assumption) | assumption); have q179 : x6_1 < (l1.length : Int) := of_decide_eq_true (by first | (with_reducible assumption) | assumption); obtain ⟨ad179, e179, hx179_0, hx179_1, hx179_2, hx179_3, hx179_4, hx179_5⟩ := at_T23 HR1.out x6_1 p179 q179; obtain rfl : ad176 = ad179 := (by injection e179); replace hx179_0 := (HB.out.cell (World.block_lt_of_cell? w _ hx179_0)).trans hx179_0; replace hx179_1 := (HB.out.cell (World.block_lt_of_cell? w _ hx179_1)).trans hx179_1; replace hx179_2 := (HB.out.cell (World.block_lt_of_cell? w _ hx179_2)).trans hx179_2; replace hx179_3 := (HB.out.cell (World.block_lt_of_cell? w _ hx179_3)).trans hx179_3; replace hx179_4 := (HB.out.cell (World.block_lt_of_cell? w _ hx179_4)).trans hx179_4; replace hx179_5 := (HB.out.cell (World.block_lt_of_cell? w _ hx179_5)).trans hx179_5; replace p179 := eq_true p179; replace q179 := eq_true q179)))
                        go_roundg k1
                        case measure => have := HK1.out; omega
                        case rel => exact ⟨(wrap64 (x6_1 + 1)), (by first | rfl | (simp; done) | (simp [*]; done)), H', ⟨by have := HK1.out; omega⟩, ⟨by repeat (first | (with_reducible first | exact HB.out | apply below_alloc | apply pw_below_drewN | apply below_drew1) | exact HB.out)⟩⟩
                    · rw [if_neg c13] at H
                      exact absurd H (by simp)
                  · rw [if_neg c12] at H
                    exact absurd H (by simp)
                · rw [if_neg c10] at H
                  have c10b0 : decide (0 < x6_1) = false := decide_eq_false c10
                  clear c10
                  have H' := Aside0.mk H
                  clear H
                  have p176 : 0 ≤ (x6_1 : Int) := of_decide_eq_true (by first | (with_reducible assumption) | assumption)
                  have q176 : x6_1 < (l1.length : Int) := of_decide_eq_true (by first | (with_reducible assumption) | assumption)
                  obtain ⟨ad176, e176, hx176_0, hx176_1, hx176_2, hx176_3, hx176_4, hx176_5⟩ := at_T23 HR1.out x6_1 p176 q176
                  cases e176
                  replace hx176_0 := (HB.out.cell (World.block_lt_of_cell? w _ hx176_0)).trans hx176_0
                  replace hx176_1 := (HB.out.cell (World.block_lt_of_cell? w _ hx176_1)).trans hx176_1
                  replace hx176_2 := (HB.out.cell (World.block_lt_of_cell? w _ hx176_2)).trans hx176_2
                  replace hx176_3 := (HB.out.cell (World.block_lt_of_cell? w _ hx176_3)).trans hx176_3
                  replace hx176_4 := (HB.out.cell (World.block_lt_of_cell? w _ hx176_4)).trans hx176_4
                  replace hx176_5 := (HB.out.cell (World.block_lt_of_cell? w _ hx176_5)).trans hx176_5
                  replace p176 := eq_true p176
                  replace q176 := eq_true q176
                  go_wp2_with (first | (go_at_call 38; (with_reducible refine (hopmeshref32_Fault.calls k1 a0 ((rd_T23 l1 x6_1).f0) ((rd_T23 l1 x6_1).f1) ((rd_T23 l1 x6_1).f2) ((rd_T23 l1 x6_1).f3) ((rd_T23 l1 x6_1).f4) ((rd_T23 l1 x6_1).f5) t177 _ A8.out).mono ?_); rintro e w17 ⟨rfl, hb⟩; have n0_ := Aside0.mk (below_step (by repeat (first | (with_reducible first | exact HB.out | apply below_alloc | apply pw_below_drewN | apply below_drew1) | exact HB.out)) hb); clear HB; have HB := n0_; clear n0_; (try clear hb); (try clear hb2); (try clear hk); (try clear hi)))
                  repeat (go_quiet (first | (go_at_call 38; (with_reducible refine (hopmeshref32_Fault.calls k1 a0 ((rd_T23 l1 x6_1).f0) ((rd_T23 l1 x6_1).f1) ((rd_T23 l1 x6_1).f2) ((rd_T23 l1 x6_1).f3) ((rd_T23 l1 x6_1).f4) ((rd_T23 l1 x6_1).f5) t177 _ A8.out).mono ?_); rintro e w17 ⟨rfl, hb⟩; have n0_ := Aside0.mk (below_step (by repeat (first | (with_reducible first | exact HB.out | apply below_alloc | apply pw_below_drewN | apply below_drew1) | exact HB.out)) hb); clear HB; have HB := n0_; clear n0_; (try clear hb); (try clear hb2); (try clear hk); (try clear hi))); try go_wp2_with (first | (go_at_call 38; (with_reducible refine (hopmeshref32_Fault.calls k1 a0 ((rd_T23 l1 x6_1).f0) ((rd_T23 l1 x6_1).f1) ((rd_T23 l1 x6_1).f2) ((rd_T23 l1 x6_1).f3) ((rd_T23 l1 x6_1).f4) ((rd_T23 l1 x6_1).f5) t177 _ A8.out).mono ?_); rintro e w17 ⟨rfl, hb⟩; have n0_ := Aside0.mk (below_step (by repeat (first | (with_reducible first | exact HB.out | apply below_alloc | apply pw_below_drewN | apply below_drew1) | exact HB.out)) hb); clear HB; have HB := n0_; clear n0_; (try clear hb); (try clear hb2); (try clear hk); (try clear hi))))
                  go_roundg k1
                  case measure => have := HK1.out; omega
                  case rel => exact ⟨(wrap64 (x6_1 + 1)), (by first | rfl | (simp; done) | (simp [*]; done)), H', ⟨by have := HK1.out; omega⟩, ⟨by repeat (first | (with_reducible first | exact HB.out | apply below_alloc | apply pw_below_drewN | apply below_drew1) | exact HB.out)⟩⟩
              · rw [if_neg c9] at H
                have c9b0 : (t177 == 0) = false := beq_eq_false_iff_ne.mpr c9
                have c9b1 : (t177 != 0) = true := bne_iff_ne.mpr c9
                simp only [Option.some.injEq, Prod.mk.injEq] at H
                obtain ⟨rfl, rfl⟩ := H
                have p176 : 0 ≤ (x6_1 : Int) := of_decide_eq_true (by first | (with_reducible assumption) | assumption)
                have q176 : x6_1 < (l1.length : Int) := of_decide_eq_true (by first | (with_reducible assumption) | assumption)
                obtain ⟨ad176, e176, hx176_0, hx176_1, hx176_2, hx176_3, hx176_4, hx176_5⟩ := at_T23 HR1.out x6_1 p176 q176
                cases e176
                replace hx176_0 := (HB.out.cell (World.block_lt_of_cell? w _ hx176_0)).trans hx176_0
                replace hx176_1 := (HB.out.cell (World.block_lt_of_cell? w _ hx176_1)).trans hx176_1
                replace hx176_2 := (HB.out.cell (World.block_lt_of_cell? w _ hx176_2)).trans hx176_2
                replace hx176_3 := (HB.out.cell (World.block_lt_of_cell? w _ hx176_3)).trans hx176_3
                replace hx176_4 := (HB.out.cell (World.block_lt_of_cell? w _ hx176_4)).trans hx176_4
                replace hx176_5 := (HB.out.cell (World.block_lt_of_cell? w _ hx176_5)).trans hx176_5
                replace p176 := eq_true p176
                replace q176 := eq_true q176
                go_wp2_with (first | (go_at_call 38; (with_reducible refine (hopmeshref32_Fault.calls k1 a0 ((rd_T23 l1 x6_1).f0) ((rd_T23 l1 x6_1).f1) ((rd_T23 l1 x6_1).f2) ((rd_T23 l1 x6_1).f3) ((rd_T23 l1 x6_1).f4) ((rd_T23 l1 x6_1).f5) t177 _ A8.out).mono ?_); rintro e w18 ⟨rfl, hb⟩; have n0_ := Aside0.mk (below_step (by repeat (first | (with_reducible first | exact HB.out | apply below_alloc | apply pw_below_drewN | apply below_drew1) | exact HB.out)) hb); clear HB; have HB := n0_; clear n0_; (try clear hb); (try clear hb2); (try clear hk); (try clear hi)))
                repeat (go_quiet (first | (go_at_call 38; (with_reducible refine (hopmeshref32_Fault.calls k1 a0 ((rd_T23 l1 x6_1).f0) ((rd_T23 l1 x6_1).f1) ((rd_T23 l1 x6_1).f2) ((rd_T23 l1 x6_1).f3) ((rd_T23 l1 x6_1).f4) ((rd_T23 l1 x6_1).f5) t177 _ A8.out).mono ?_); rintro e w18 ⟨rfl, hb⟩; have n0_ := Aside0.mk (below_step (by repeat (first | (with_reducible first | exact HB.out | apply below_alloc | apply pw_below_drewN | apply below_drew1) | exact HB.out)) hb); clear HB; have HB := n0_; clear n0_; (try clear hb); (try clear hb2); (try clear hk); (try clear hi))); try go_wp2_with (first | (go_at_call 38; (with_reducible refine (hopmeshref32_Fault.calls k1 a0 ((rd_T23 l1 x6_1).f0) ((rd_T23 l1 x6_1).f1) ((rd_T23 l1 x6_1).f2) ((rd_T23 l1 x6_1).f3) ((rd_T23 l1 x6_1).f4) ((rd_T23 l1 x6_1).f5) t177 _ A8.out).mono ?_); rintro e w18 ⟨rfl, hb⟩; have n0_ := Aside0.mk (below_step (by repeat (first | (with_reducible first | exact HB.out | apply below_alloc | apply pw_below_drewN | apply below_drew1) | exact HB.out)) hb); clear HB; have HB := n0_; clear n0_; (try clear hb); (try clear hb2); (try clear hk); (try clear hi))))
                go_ret2
                exact ⟨by first | rfl | (simp [errW_none, errW_some] <;> rfl) | (simp [*, errW_none, errW_some] <;> rfl), by repeat (first | (with_reducible first | exact HB.out | apply below_alloc | apply pw_below_drewN | apply below_drew1) | exact HB.out)⟩
            · rw [if_neg c7] at H
              exact absurd H (by simp)
          · rw [if_neg c6] at H
            have c6b0 : decide (x6_1 < (l1.length : Int)) = false := decide_eq_false c6
            clear c6
            simp only [Option.some.injEq, Prod.mk.injEq] at H
            obtain ⟨rfl, rfl⟩ := H
            go_wp2
            repeat (go_quiet (fail); try go_wp2)
            go_ret2
            exact ⟨by first | rfl | (simp [errW_none, errW_some] <;> rfl) | (simp [*, errW_none, errW_some] <;> rfl), by repeat (first | (with_reducible first | exact HB.out | apply below_alloc | apply pw_below_drewN | apply below_drew1) | exact HB.out)⟩
  · replace c4 := Bool.eq_false_iff.mpr c4
    subst c4
    have H1 : (some ((-1), 2)) = some (r1, r2) := by rw [if_neg (show ¬ (false = true) by decide)] at H; exact H
    clear H
    have H := H1
    clear H1
    simp only [Option.some.injEq, Prod.mk.injEq] at H
    obtain ⟨rfl, rfl⟩ := H
    go_enter Try.func20, Try.ntmps20
    go_wp2_with (first | (go_at_call 37; (with_reducible refine (hopmeshref32_in.calls a0 2 32 false _ A3.out).mono ?_); rintro e w' ⟨rfl, ⟨nd, rfl⟩⟩; (try first | exact ⟨rfl, _, World.drewN_drewN _ _ _⟩ | exact ⟨rfl, _, Eq.trans (World.drewN_drewN _ _ _) (congrArg (World.drewN _) (Nat.add_assoc _ _ _))⟩)))
    repeat (go_quiet (first | (go_at_call 37; (with_reducible refine (hopmeshref32_in.calls a0 2 32 false _ A3.out).mono ?_); rintro e w' ⟨rfl, ⟨nd, rfl⟩⟩; (try first | exact ⟨rfl, _, World.drewN_drewN _ _ _⟩ | exact ⟨rfl, _, Eq.trans (World.drewN_drewN _ _ _) (congrArg (World.drewN _) (Nat.add_assoc _ _ _))⟩))); try go_wp2_with (first | (go_at_call 37; (with_reducible refine (hopmeshref32_in.calls a0 2 32 false _ A3.out).mono ?_); rintro e w' ⟨rfl, ⟨nd, rfl⟩⟩; (try first | exact ⟨rfl, _, World.drewN_drewN _ _ _⟩ | exact ⟨rfl, _, Eq.trans (World.drewN_drewN _ _ _) (congrArg (World.drewN _) (Nat.add_assoc _ _ _))⟩))))
    go_ret2
    exact ⟨by first | rfl | (simp [errW_none, errW_some] <;> rfl) | (simp [*, errW_none, errW_some] <;> rfl), by repeat (first | (with_reducible first | exact HB.out | apply below_alloc | apply pw_below_drewN | apply below_drew1) | exact HB.out)⟩

end Go.Proofs.Ythlgnbeoanafbaa.PX
