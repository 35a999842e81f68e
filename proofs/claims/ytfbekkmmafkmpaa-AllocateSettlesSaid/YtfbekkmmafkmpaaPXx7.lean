-- Written by wip/xprint.py, a program of this claim's own, over the kit's print program. Lean checks it.
import Derived.Test.YtfbekkmmafkmpaaPXx0
import Derived.Test.YtfbekkmmafkmpaaPXx3
import Derived.Test.YtfbekkmmafkmpaaPXx6
namespace Go.Proofs.Ytfbekkmmafkmpaa.PX
open Go.RowKit Go.Proofs.YtfbekkmmafkmpaaW.PrintWords Go.Proofs.YtfbekkmmafkmpaaW.PrintLast Go.Proofs.YtfbekkmmafkmpaaW.PrintMore
attribute [local go_sem] max2_int min2_int max_two min_two max_three min_three max_four min_four   -- for this text's walks alone
set_option linter.unusedVariables false
set_option linter.unusedSimpArgs false

/-! ### allocate_Worst: function 12 -/
/-- Is the first fraction, times a factor, less than the second. -/
def lessB (a b : S39) (t : Int) : Option Bool := allocate_Worst_1.f a.f0.f0 a.f0.f1 a.f0.f2 a.f0.f3 a.f0.f4 a.f0.f5 a.f1 a.f2 a.f3 b.f0.f0 b.f0.f1 b.f0.f2 b.f0.f3 b.f0.f4 b.f0.f5 b.f1 b.f2 b.f3 t
/-- The lowest and the highest of the first elements that are tried. -/
def worstAt (l : List S39) : Nat → Int × Int
  | 0 => (-1, -1)
  | i + 1 => if (rd_T39 l (i : Int)).f2 < 8 then worstAt l i else
      (if (worstAt l i).1 < 0 ∨ lessB (rd_T39 l (i : Int)) (rd_T39 l (worstAt l i).1) 1 = some true then (i : Int) else (worstAt l i).1,
       if (worstAt l i).2 < 0 ∨ lessB (rd_T39 l (worstAt l i).2) (rd_T39 l (i : Int)) 1 = some true then (i : Int) else (worstAt l i).2)
def worstEnd (l : List S39) (p : Int × Int) : Int × Bool := if p.1 < 0 ∨ lessB (rd_T39 l p.1) (rd_T39 l p.2) 2 = some false then (0, false) else (p.1, true)
def worstOf (l : List S39) : Int × Bool := if l.length > 64 then (0, false) else if checkTo l l.length = 0 then worstEnd l (worstAt l l.length) else (0, false)
def allocate_Worst.f (l0 : List S39) : Option (Int × Bool) := some (worstOf l0)
theorem lessB_some (a b : S39) (t : Int) : ∃ p, lessB a b t = some p := ⟨_, rfl⟩
theorem worstAt_bd (l : List S39) (i : Nat) : -1 ≤ (worstAt l i).1 ∧ (worstAt l i).1 < i ∧ -1 ≤ (worstAt l i).2 ∧ (worstAt l i).2 < i ∧ ((worstAt l i).1 < 0 ↔ (worstAt l i).2 < 0) := by
  induction i with
  | zero => simp [worstAt]
  | succ i ih =>
    unfold worstAt
    split
    · omega
    · simp only
      refine ⟨?_, ?_, ?_, ?_, ?_⟩ <;> split <;> (try split) <;> omega
theorem worstAt_skip {l : List S39} {i : Nat} {lo hi : Int} (h : worstAt l i = (lo, hi)) (hx : (rd_T39 l (i : Int)).f2 < 8) : worstAt l (i + 1) = (lo, hi) := by
  simp only [worstAt]
  rw [if_pos hx, h]
theorem worstAt_first {l : List S39} {i : Nat} {lo hi : Int} (h : worstAt l i = (lo, hi)) (hx : ¬ (rd_T39 l (i : Int)).f2 < 8) (h0 : lo < 0) (h1 : hi < 0) : worstAt l (i + 1) = ((i : Int), (i : Int)) := by
  simp only [worstAt]
  rw [if_neg hx, h, if_pos (.inl h0), if_pos (.inl h1)]
theorem worstAt_more {l : List S39} {i : Nat} {lo hi : Int} {p q : Bool} (h : worstAt l i = (lo, hi)) (hx : ¬ (rd_T39 l (i : Int)).f2 < 8) (h0 : ¬ lo < 0) (h1 : ¬ hi < 0)
    (hp : lessB (rd_T39 l (i : Int)) (rd_T39 l lo) 1 = some p) (hq : lessB (rd_T39 l hi) (rd_T39 l (i : Int)) 1 = some q) : worstAt l (i + 1) = (if p then (i : Int) else lo, if q then (i : Int) else hi) := by
  simp only [worstAt]
  rw [if_neg hx, h]
  simp only [hp, hq, h0, h1, false_or, Option.some.injEq]
set_option maxHeartbeats 8000000 in
set_option maxRecDepth 100000 in
theorem allocate_Worst.calls (A0 : Option Addr) (c0 : Nat) (l0 : List (S39)) (r1 : Int) (r2 : Bool) (w : World) (hr0 : Kd.C k39 w A0 l0.length l0) (hc0 : l0.length ≤ c0) (h : allocate_Worst.f l0 = some (r1, r2)) :
    Calls Try.prog 12 #[.slice A0 l0.length c0] w fun e w' => e = .returned (.tuple #[.int .i64 r1, .bool r2]) ∧ Below w.heap.size w w' := by
  have HR0 := Aside0.mk hr0
  have HC0 := Aside0.mk hc0
  clear hr0 hc0
  have hr := Option.some.inj h
  clear h
  have hu1 := Try.underlying39
  obtain ⟨ce, hce⟩ : ∃ e, allocate_Check.f l0 = some e := ⟨_, rfl⟩
  have HCE := Aside0.mk hce
  have hcv := Option.some.inj hce
  clear hce
  by_cases c0 : ce = 0
  rotate_left
  · have hw : worstOf l0 = (0, false) := by
      unfold worstOf
      split
      · rfl
      · rename_i h64
        rw [if_neg h64] at hcv
        rw [if_neg (by rw [hcv]; exact c0)]
    rw [hw] at hr
    obtain ⟨rfl, rfl⟩ : r1 = 0 ∧ r2 = false := by
      rw [Prod.mk.injEq] at hr
      exact ⟨hr.1.symm, hr.2.symm⟩
    have b0 : (ce == 0) = false := beq_eq_false_iff_ne.mpr c0
    have b1 : (ce != 0) = true := bne_iff_ne.mpr c0
    clear hcv hr hw c0
    go_enter Try.func12, Try.ntmps12
    go_wp2_with (go_at_call 18; (with_reducible refine (allocate_Check.calls _ _ l0 ce _ HR0.out HC0.out HCE.out).mono ?_); rintro e w1 ⟨rfl, hb⟩; have HB := Aside0.mk hb; clear hb)
    go_ret2
    exact ⟨rfl, HB.out⟩
  subst c0
  have h64 : ¬ l0.length > 64 := by
    intro h
    rw [if_pos h] at hcv
    cases hcv
  rw [if_neg h64] at hcv
  unfold worstOf at hr
  rw [if_neg h64, if_pos hcv] at hr
  have HLE : Aside0 (l0.length ≤ 64) := ⟨by omega⟩
  have HR := Aside0.mk hr
  clear hcv hr h64
  go_enter Try.func12, Try.ntmps12
  go_wp2_with (go_at_call 18; (with_reducible refine (allocate_Check.calls _ _ l0 0 _ HR0.out HC0.out HCE.out).mono ?_); rintro e w1 ⟨rfl, hb⟩; have HB1 := Aside0.mk hb; clear hb)
  go_loopg [5, 6, 14] l0.length (fun kq v5 v6 v14 w' => ∃ (i : Nat) (lo hi : Int), v5 = .int .i64 lo ∧ v6 = .int .i64 hi ∧ v14 = .int .i64 (i : Int) ∧ Aside0 (kq + i = l0.length) ∧ Aside0 (worstAt l0 i = (lo, hi)) ∧ Aside0 (Below w.heap.size w w'))
  case atStart => exact ⟨0, -1, -1, rfl, rfl, rfl, ⟨by simp⟩, ⟨rfl⟩, HB1⟩
  case round =>
    obtain ⟨i, lo, hi, rfl, rfl, rfl, HK, HI, HB⟩ := hrel
    have hbd := worstAt_bd l0 i
    rw [HI.out] at hbd
    simp only at hbd
    obtain ⟨d0, d1, d2, d3, d4⟩ := hbd
    have HD4 := Aside0.mk d4
    clear d4
    have HRr := Aside0.mk (Kd.C_below HR0.out HB.out)
    by_cases hlt : i < l0.length
    · have b0 : decide ((i : Int) < (l0.length : Int)) = true := decide_eq_true (by omega)
      have b1 : decide (i < l0.length) = true := decide_eq_true hlt
      have p0 : (0 : Int) ≤ (i : Int) := by omega
      have q0 : (i : Int) < (l0.length : Int) := by omega
      have p64 : (i : Int) ≤ 64 := by have := HLE.out; omega
      have WR : Aside0 ((i : Int) + 1 = ((i + 1 : Nat) : Int)) := ⟨by omega⟩
      have HT : Aside0 (i < l0.length) := ⟨hlt⟩
      have HD1 : Aside0 (lo < (l0.length : Int)) := ⟨by omega⟩
      have HD3 : Aside0 (hi < (l0.length : Int)) := ⟨by omega⟩
      obtain ⟨ad, ex, xh0, xh1, xh2, xh3, xh4, xh5, xh6, xh7, xh8⟩ := at_T39 HRr.out ((i : Int)) p0 q0
      cases ex
      obtain ⟨x0, ex0⟩ : ∃ x, (rd_T39 l0 ((i : Int))).f0.f0 = x := ⟨_, rfl⟩
      obtain ⟨x1, ex1⟩ : ∃ x, (rd_T39 l0 ((i : Int))).f0.f1 = x := ⟨_, rfl⟩
      obtain ⟨x2, ex2⟩ : ∃ x, (rd_T39 l0 ((i : Int))).f0.f2 = x := ⟨_, rfl⟩
      obtain ⟨x3, ex3⟩ : ∃ x, (rd_T39 l0 ((i : Int))).f0.f3 = x := ⟨_, rfl⟩
      obtain ⟨x4, ex4⟩ : ∃ x, (rd_T39 l0 ((i : Int))).f0.f4 = x := ⟨_, rfl⟩
      obtain ⟨x5, ex5⟩ : ∃ x, (rd_T39 l0 ((i : Int))).f0.f5 = x := ⟨_, rfl⟩
      obtain ⟨x6, ex6⟩ : ∃ x, (rd_T39 l0 ((i : Int))).f1 = x := ⟨_, rfl⟩
      obtain ⟨x7, ex7⟩ : ∃ x, (rd_T39 l0 ((i : Int))).f2 = x := ⟨_, rfl⟩
      obtain ⟨x8, ex8⟩ : ∃ x, (rd_T39 l0 ((i : Int))).f3 = x := ⟨_, rfl⟩
      rw [ex0] at xh0
      rw [ex1] at xh1
      rw [ex2] at xh2
      rw [ex3] at xh3
      rw [ex4] at xh4
      rw [ex5] at xh5
      rw [ex6] at xh6
      rw [ex7] at xh7
      rw [ex8] at xh8
      simp only [Int.toNat_natCast] at xh0 xh1 xh2 xh3 xh4 xh5 xh6 xh7 xh8
      have EX := Aside0.mk (And.intro ex0 (And.intro ex1 (And.intro ex2 (And.intro ex3 (And.intro ex4 (And.intro ex5 (And.intro ex6 (And.intro ex7 ex8))))))))
      clear ex0 ex1 ex2 ex3 ex4 ex5 ex6 ex7 ex8 hlt d1 d3
      replace p0 := eq_true p0
      replace q0 := eq_true q0
      by_cases c8 : x7 < 8
      · have t0 : decide (x7 < 8) = true := decide_eq_true c8
        have HN := Aside0.mk (worstAt_skip HI.out (by rw [EX.out.2.2.2.2.2.2.2.1]; exact c8))
        clear c8
        have gk7 := (blk_cell (heap_alloc_new wr (.cells #[.int .i64 x0, .int .i64 x1, .int .i64 x2, .bool x3, .int .i64 x4, .int .i64 x5, .int .i64 x6, .int .i64 x7, .int .i64 x8] 39 (0, 0))) 7).trans (rfl : _ = some (Value.int .i64 x7))
        go_wp2
        go_roundg (gk - 1)
        case measure => have := HK.out; have := HT.out; omega
        case rel => exact ⟨i + 1, lo, hi, rfl, rfl, congrArg (Value.int .i64) WR.out, ⟨by have := HK.out; have := HT.out; omega⟩, HN, ⟨below_alloc HB.out _⟩⟩
      have t0 : decide (x7 < 8) = false := decide_eq_false c8
      have C8 : Aside0 (¬ (rd_T39 l0 (i : Int)).f2 < 8) := ⟨by rw [EX.out.2.2.2.2.2.2.2.1]; exact c8⟩
      clear c8
      have gk7 := (blk_cell (heap_alloc_new wr (.cells #[.int .i64 x0, .int .i64 x1, .int .i64 x2, .bool x3, .int .i64 x4, .int .i64 x5, .int .i64 x6, .int .i64 x7, .int .i64 x8] 39 (0, 0))) 7).trans (rfl : _ = some (Value.int .i64 x7))
      go_upto_region 9 with (fail)
      clear gk7
      have HK1 : Aside0 ((wr.alloc (.cells #[.int .i64 x0, .int .i64 x1, .int .i64 x2, .bool x3, .int .i64 x4, .int .i64 x5, .int .i64 x6, .int .i64 x7, .int .i64 x8] 39 (0, 0))).heap[wr.heap.size]? = some (.cells #[.int .i64 x0, .int .i64 x1, .int .i64 x2, .bool x3, .int .i64 x4, .int .i64 x5, .int .i64 x6, .int .i64 x7, .int .i64 x8] 39 (0, 0))) := ⟨heap_alloc_new wr (.cells #[.int .i64 x0, .int .i64 x1, .int .i64 x2, .bool x3, .int .i64 x4, .int .i64 x5, .int .i64 x6, .int .i64 x7, .int .i64 x8] 39 (0, 0))⟩
      have HB2 : Aside0 (Below w.heap.size w (wr.alloc (.cells #[.int .i64 x0, .int .i64 x1, .int .i64 x2, .bool x3, .int .i64 x4, .int .i64 x5, .int .i64 x6, .int .i64 x7, .int .i64 x8] 39 (0, 0)))) := ⟨below_alloc HB.out _⟩
      have HR2 := Aside0.mk (Kd.C_below HR0.out HB2.out)
      clear xh0 xh1 xh2 xh3 xh4 xh5 xh6 xh7 xh8
      generalize (wr.alloc (.cells #[.int .i64 x0, .int .i64 x1, .int .i64 x2, .bool x3, .int .i64 x4, .int .i64 x5, .int .i64 x6, .int .i64 x7, .int .i64 x8] 39 (0, 0))) = w2 at *
      have g0 := (blk_cell HK1.out 0).trans (rfl : _ = some (Value.int .i64 x0))
      have g1 := (blk_cell HK1.out 1).trans (rfl : _ = some (Value.int .i64 x1))
      have g2 := (blk_cell HK1.out 2).trans (rfl : _ = some (Value.int .i64 x2))
      have g3 := (blk_cell HK1.out 3).trans (rfl : _ = some (Value.bool x3))
      have g4 := (blk_cell HK1.out 4).trans (rfl : _ = some (Value.int .i64 x4))
      have g5 := (blk_cell HK1.out 5).trans (rfl : _ = some (Value.int .i64 x5))
      have g6 := (blk_cell HK1.out 6).trans (rfl : _ = some (Value.int .i64 x6))
      have g7 := (blk_cell HK1.out 7).trans (rfl : _ = some (Value.int .i64 x7))
      have g8 := (blk_cell HK1.out 8).trans (rfl : _ = some (Value.int .i64 x8))
      by_cases cl : lo < 0
      · have s0 : decide (lo < 0) = true := decide_eq_true cl
        have s1 : decide (hi < 0) = true := decide_eq_true (HD4.out.1 cl)
        have HN := Aside0.mk (worstAt_first HI.out C8.out cl (HD4.out.1 cl))
        clear cl
        go_quiet (fail)
        go_upto_region 11 with (fail)
        go_quiet (fail)
        go_wp2
        go_roundg (gk - 1)
        case measure => have := HK.out; have := HT.out; omega
        case rel => exact ⟨i + 1, (i : Int), (i : Int), rfl, rfl, congrArg (Value.int .i64) WR.out, ⟨by have := HK.out; have := HT.out; omega⟩, HN, ⟨(by repeat (first | exact HB2.out | apply below_alloc | apply pw_below_drewN | apply below_drew1))⟩⟩
      have s0 : decide (lo < 0) = false := decide_eq_false cl
      have s1 : decide (hi < 0) = false := decide_eq_false (fun h => cl (HD4.out.2 h))
      have CL := Aside0.mk cl
      have CH : Aside0 (¬ hi < 0) := ⟨fun h => cl (HD4.out.2 h)⟩
      have lp : 0 ≤ lo := by omega
      have hp : 0 ≤ hi := by have := CH.out; omega
      have lq := HD1.out
      have hq := HD3.out
      clear cl
      obtain ⟨ada, ea, ah0, ah1, ah2, ah3, ah4, ah5, ah6, ah7, ah8⟩ := at_T39 HR2.out (lo) lp lq
      obtain rfl : ad = ada := by injection ea
      clear ea
      obtain ⟨a0, ea0⟩ : ∃ x, (rd_T39 l0 (lo)).f0.f0 = x := ⟨_, rfl⟩
      obtain ⟨a1, ea1⟩ : ∃ x, (rd_T39 l0 (lo)).f0.f1 = x := ⟨_, rfl⟩
      obtain ⟨a2, ea2⟩ : ∃ x, (rd_T39 l0 (lo)).f0.f2 = x := ⟨_, rfl⟩
      obtain ⟨a3, ea3⟩ : ∃ x, (rd_T39 l0 (lo)).f0.f3 = x := ⟨_, rfl⟩
      obtain ⟨a4, ea4⟩ : ∃ x, (rd_T39 l0 (lo)).f0.f4 = x := ⟨_, rfl⟩
      obtain ⟨a5, ea5⟩ : ∃ x, (rd_T39 l0 (lo)).f0.f5 = x := ⟨_, rfl⟩
      obtain ⟨a6, ea6⟩ : ∃ x, (rd_T39 l0 (lo)).f1 = x := ⟨_, rfl⟩
      obtain ⟨a7, ea7⟩ : ∃ x, (rd_T39 l0 (lo)).f2 = x := ⟨_, rfl⟩
      obtain ⟨a8, ea8⟩ : ∃ x, (rd_T39 l0 (lo)).f3 = x := ⟨_, rfl⟩
      rw [ea0] at ah0
      rw [ea1] at ah1
      rw [ea2] at ah2
      rw [ea3] at ah3
      rw [ea4] at ah4
      rw [ea5] at ah5
      rw [ea6] at ah6
      rw [ea7] at ah7
      rw [ea8] at ah8
      obtain ⟨p1, hp1⟩ := lessB_some (rd_T39 l0 (i : Int)) (rd_T39 l0 lo) 1
      obtain ⟨p2, hp2⟩ := lessB_some (rd_T39 l0 hi) (rd_T39 l0 (i : Int)) 1
      obtain ⟨b0, eb0⟩ : ∃ x, (rd_T39 l0 (hi)).f0.f0 = x := ⟨_, rfl⟩
      obtain ⟨b1, eb1⟩ : ∃ x, (rd_T39 l0 (hi)).f0.f1 = x := ⟨_, rfl⟩
      obtain ⟨b2, eb2⟩ : ∃ x, (rd_T39 l0 (hi)).f0.f2 = x := ⟨_, rfl⟩
      obtain ⟨b3, eb3⟩ : ∃ x, (rd_T39 l0 (hi)).f0.f3 = x := ⟨_, rfl⟩
      obtain ⟨b4, eb4⟩ : ∃ x, (rd_T39 l0 (hi)).f0.f4 = x := ⟨_, rfl⟩
      obtain ⟨b5, eb5⟩ : ∃ x, (rd_T39 l0 (hi)).f0.f5 = x := ⟨_, rfl⟩
      obtain ⟨b6, eb6⟩ : ∃ x, (rd_T39 l0 (hi)).f1 = x := ⟨_, rfl⟩
      obtain ⟨b7, eb7⟩ : ∃ x, (rd_T39 l0 (hi)).f2 = x := ⟨_, rfl⟩
      obtain ⟨b8, eb8⟩ : ∃ x, (rd_T39 l0 (hi)).f3 = x := ⟨_, rfl⟩
      have HN := Aside0.mk (worstAt_more HI.out C8.out CL.out CH.out hp1 hp2)
      unfold lessB at hp1 hp2
      obtain ⟨ex0, ex1, ex2, ex3, ex4, ex5, ex6, ex7, ex8⟩ := EX.out
      rw [ex0, ex1, ex2, ex3, ex4, ex5, ex6, ex7, ex8, ea0, ea1, ea2, ea3, ea4, ea5, ea6, ea7, ea8] at hp1
      rw [eb0, eb1, eb2, eb3, eb4, eb5, eb6, eb7, eb8, ex0, ex1, ex2, ex3, ex4, ex5, ex6, ex7, ex8] at hp2
      have EB := Aside0.mk (And.intro eb0 (And.intro eb1 (And.intro eb2 (And.intro eb3 (And.intro eb4 (And.intro eb5 (And.intro eb6 (And.intro eb7 eb8))))))))
      have HP1 := Aside0.mk hp1
      have HP2 := Aside0.mk hp2
      clear hp1 hp2 ex0 ex1 ex2 ex3 ex4 ex5 ex6 ex7 ex8 ea0 ea1 ea2 ea3 ea4 ea5 ea6 ea7 ea8 eb0 eb1 eb2 eb3 eb4 eb5 eb6 eb7 eb8
      have HPQ := Aside0.mk (And.intro hp hq)
      clear hp hq
      replace lp := eq_true lp
      replace lq := eq_true lq
      cases p1 with
      | false =>
        go_region_held3 (fun w' => w'.cell? ⟨wr.heap.size, 0, none⟩ = some (.int .i64 x0) ∧ w'.cell? ⟨wr.heap.size, 1, none⟩ = some (.int .i64 x1) ∧ w'.cell? ⟨wr.heap.size, 2, none⟩ = some (.int .i64 x2) ∧ w'.cell? ⟨wr.heap.size, 3, none⟩ = some (.bool x3) ∧ w'.cell? ⟨wr.heap.size, 4, none⟩ = some (.int .i64 x4) ∧ w'.cell? ⟨wr.heap.size, 5, none⟩ = some (.int .i64 x5) ∧ w'.cell? ⟨wr.heap.size, 6, none⟩ = some (.int .i64 x6) ∧ w'.cell? ⟨wr.heap.size, 7, none⟩ = some (.int .i64 x7) ∧ w'.cell? ⟨wr.heap.size, 8, none⟩ = some (.int .i64 x8) ∧ w'.cell? (ad.add (lo.toNat * 9)) = some (.int .i64 a0) ∧ w'.cell? ⟨(ad.add (lo.toNat * 9)).block, (ad.add (lo.toNat * 9)).off + 1, none⟩ = some (.int .i64 a1) ∧ w'.cell? ⟨(ad.add (lo.toNat * 9)).block, (ad.add (lo.toNat * 9)).off + 2, none⟩ = some (.int .i64 a2) ∧ w'.cell? ⟨(ad.add (lo.toNat * 9)).block, (ad.add (lo.toNat * 9)).off + 3, none⟩ = some (.bool a3) ∧ w'.cell? ⟨(ad.add (lo.toNat * 9)).block, (ad.add (lo.toNat * 9)).off + 4, none⟩ = some (.int .i64 a4) ∧ w'.cell? ⟨(ad.add (lo.toNat * 9)).block, (ad.add (lo.toNat * 9)).off + 5, none⟩ = some (.int .i64 a5) ∧ w'.cell? ⟨(ad.add (lo.toNat * 9)).block, (ad.add (lo.toNat * 9)).off + 6, none⟩ = some (.int .i64 a6) ∧ w'.cell? ⟨(ad.add (lo.toNat * 9)).block, (ad.add (lo.toNat * 9)).off + 7, none⟩ = some (.int .i64 a7) ∧ w'.cell? ⟨(ad.add (lo.toNat * 9)).block, (ad.add (lo.toNat * 9)).off + 8, none⟩ = some (.int .i64 a8))
          (first | go_keep | exact ⟨pw_cell_below hbw3 g0, pw_cell_below hbw3 g1, pw_cell_below hbw3 g2, pw_cell_below hbw3 g3, pw_cell_below hbw3 g4, pw_cell_below hbw3 g5, pw_cell_below hbw3 g6, pw_cell_below hbw3 g7, pw_cell_below hbw3 g8, pw_cell_below hbw3 ah0, pw_cell_below hbw3 ah1, pw_cell_below hbw3 ah2, pw_cell_below hbw3 ah3, pw_cell_below hbw3 ah4, pw_cell_below hbw3 ah5, pw_cell_below hbw3 ah6, pw_cell_below hbw3 ah7, pw_cell_below hbw3 ah8⟩)
          (first | (go_at_call 36; (with_reducible refine (allocate_Worst_1.calls x0 x1 x2 x3 x4 x5 x6 x7 x8 a0 a1 a2 a3 a4 a5 a6 a7 a8 1 false _ HP1.out).mono ?_); rintro e w3 ⟨rfl, hz⟩; have hbw3 : Below w2.heap.size w2 w3 := (by refine below_then ?_ ?_ hz; (repeat (first | exact Below.refl _ _ | apply pw_below_drewN | apply below_drew1)); exact Nat.le_refl _); have HB3 : Aside0 (Below w.heap.size w w3) := ⟨below_step HB2.out hbw3⟩; clear hz))
        go_upto_region 11 with (fail)
        have HR3 := Aside0.mk (Kd.C_below HR0.out HB3.out)
        have HK3 := Aside0.mk (blk_below HK1.out hbw3)
        clear hbw3 g0 g1 g2 g3 g4 g5 g6 g7 g8 ah0 ah1 ah2 ah3 ah4 ah5 ah6 ah7 ah8
        have g0 := (blk_cell HK3.out 0).trans (rfl : _ = some (Value.int .i64 x0))
        have g1 := (blk_cell HK3.out 1).trans (rfl : _ = some (Value.int .i64 x1))
        have g2 := (blk_cell HK3.out 2).trans (rfl : _ = some (Value.int .i64 x2))
        have g3 := (blk_cell HK3.out 3).trans (rfl : _ = some (Value.bool x3))
        have g4 := (blk_cell HK3.out 4).trans (rfl : _ = some (Value.int .i64 x4))
        have g5 := (blk_cell HK3.out 5).trans (rfl : _ = some (Value.int .i64 x5))
        have g6 := (blk_cell HK3.out 6).trans (rfl : _ = some (Value.int .i64 x6))
        have g7 := (blk_cell HK3.out 7).trans (rfl : _ = some (Value.int .i64 x7))
        have g8 := (blk_cell HK3.out 8).trans (rfl : _ = some (Value.int .i64 x8))
        obtain ⟨adb, eb, bh0, bh1, bh2, bh3, bh4, bh5, bh6, bh7, bh8⟩ := at_T39 HR3.out (hi) HPQ.out.1 HPQ.out.2
        obtain rfl : ad = adb := by injection eb
        clear eb
        obtain ⟨eb0, eb1, eb2, eb3, eb4, eb5, eb6, eb7, eb8⟩ := EB.out
        rw [eb0] at bh0
        rw [eb1] at bh1
        rw [eb2] at bh2
        rw [eb3] at bh3
        rw [eb4] at bh4
        rw [eb5] at bh5
        rw [eb6] at bh6
        rw [eb7] at bh7
        rw [eb8] at bh8
        clear eb0 eb1 eb2 eb3 eb4 eb5 eb6 eb7 eb8
        have hp := eq_true HPQ.out.1
        have hq := eq_true HPQ.out.2
        cases p2 with
        | false =>
          go_region_held3 (fun w' => w'.cell? ⟨wr.heap.size, 0, none⟩ = some (.int .i64 x0) ∧ w'.cell? ⟨wr.heap.size, 1, none⟩ = some (.int .i64 x1) ∧ w'.cell? ⟨wr.heap.size, 2, none⟩ = some (.int .i64 x2) ∧ w'.cell? ⟨wr.heap.size, 3, none⟩ = some (.bool x3) ∧ w'.cell? ⟨wr.heap.size, 4, none⟩ = some (.int .i64 x4) ∧ w'.cell? ⟨wr.heap.size, 5, none⟩ = some (.int .i64 x5) ∧ w'.cell? ⟨wr.heap.size, 6, none⟩ = some (.int .i64 x6) ∧ w'.cell? ⟨wr.heap.size, 7, none⟩ = some (.int .i64 x7) ∧ w'.cell? ⟨wr.heap.size, 8, none⟩ = some (.int .i64 x8) ∧ w'.cell? (ad.add (hi.toNat * 9)) = some (.int .i64 b0) ∧ w'.cell? ⟨(ad.add (hi.toNat * 9)).block, (ad.add (hi.toNat * 9)).off + 1, none⟩ = some (.int .i64 b1) ∧ w'.cell? ⟨(ad.add (hi.toNat * 9)).block, (ad.add (hi.toNat * 9)).off + 2, none⟩ = some (.int .i64 b2) ∧ w'.cell? ⟨(ad.add (hi.toNat * 9)).block, (ad.add (hi.toNat * 9)).off + 3, none⟩ = some (.bool b3) ∧ w'.cell? ⟨(ad.add (hi.toNat * 9)).block, (ad.add (hi.toNat * 9)).off + 4, none⟩ = some (.int .i64 b4) ∧ w'.cell? ⟨(ad.add (hi.toNat * 9)).block, (ad.add (hi.toNat * 9)).off + 5, none⟩ = some (.int .i64 b5) ∧ w'.cell? ⟨(ad.add (hi.toNat * 9)).block, (ad.add (hi.toNat * 9)).off + 6, none⟩ = some (.int .i64 b6) ∧ w'.cell? ⟨(ad.add (hi.toNat * 9)).block, (ad.add (hi.toNat * 9)).off + 7, none⟩ = some (.int .i64 b7) ∧ w'.cell? ⟨(ad.add (hi.toNat * 9)).block, (ad.add (hi.toNat * 9)).off + 8, none⟩ = some (.int .i64 b8))
            (first | go_keep | exact ⟨pw_cell_below hbw4 g0, pw_cell_below hbw4 g1, pw_cell_below hbw4 g2, pw_cell_below hbw4 g3, pw_cell_below hbw4 g4, pw_cell_below hbw4 g5, pw_cell_below hbw4 g6, pw_cell_below hbw4 g7, pw_cell_below hbw4 g8, pw_cell_below hbw4 bh0, pw_cell_below hbw4 bh1, pw_cell_below hbw4 bh2, pw_cell_below hbw4 bh3, pw_cell_below hbw4 bh4, pw_cell_below hbw4 bh5, pw_cell_below hbw4 bh6, pw_cell_below hbw4 bh7, pw_cell_below hbw4 bh8⟩)
            (first | (go_at_call 36; (with_reducible refine (allocate_Worst_1.calls b0 b1 b2 b3 b4 b5 b6 b7 b8 x0 x1 x2 x3 x4 x5 x6 x7 x8 1 false _ HP2.out).mono ?_); rintro e w4 ⟨rfl, hz⟩; have hbw4 : Below w3.heap.size w3 w4 := (by refine below_then ?_ ?_ hz; (repeat (first | exact Below.refl _ _ | apply pw_below_drewN | apply below_drew1)); exact Nat.le_refl _); have HB4 : Aside0 (Below w.heap.size w w4) := ⟨below_step HB3.out hbw4⟩; clear hz))
          go_wp2
          go_roundg (gk - 1)
          case measure => have := HK.out; have := HT.out; omega
          case rel => exact ⟨i + 1, _, _, rfl, rfl, congrArg (Value.int .i64) WR.out, ⟨by have := HK.out; have := HT.out; omega⟩, HN, ⟨(by repeat (first | exact HB4.out | apply below_alloc | apply pw_below_drewN | apply below_drew1))⟩⟩
        | true =>
          go_region_held3 (fun w' => w'.cell? ⟨wr.heap.size, 0, none⟩ = some (.int .i64 x0) ∧ w'.cell? ⟨wr.heap.size, 1, none⟩ = some (.int .i64 x1) ∧ w'.cell? ⟨wr.heap.size, 2, none⟩ = some (.int .i64 x2) ∧ w'.cell? ⟨wr.heap.size, 3, none⟩ = some (.bool x3) ∧ w'.cell? ⟨wr.heap.size, 4, none⟩ = some (.int .i64 x4) ∧ w'.cell? ⟨wr.heap.size, 5, none⟩ = some (.int .i64 x5) ∧ w'.cell? ⟨wr.heap.size, 6, none⟩ = some (.int .i64 x6) ∧ w'.cell? ⟨wr.heap.size, 7, none⟩ = some (.int .i64 x7) ∧ w'.cell? ⟨wr.heap.size, 8, none⟩ = some (.int .i64 x8) ∧ w'.cell? (ad.add (hi.toNat * 9)) = some (.int .i64 b0) ∧ w'.cell? ⟨(ad.add (hi.toNat * 9)).block, (ad.add (hi.toNat * 9)).off + 1, none⟩ = some (.int .i64 b1) ∧ w'.cell? ⟨(ad.add (hi.toNat * 9)).block, (ad.add (hi.toNat * 9)).off + 2, none⟩ = some (.int .i64 b2) ∧ w'.cell? ⟨(ad.add (hi.toNat * 9)).block, (ad.add (hi.toNat * 9)).off + 3, none⟩ = some (.bool b3) ∧ w'.cell? ⟨(ad.add (hi.toNat * 9)).block, (ad.add (hi.toNat * 9)).off + 4, none⟩ = some (.int .i64 b4) ∧ w'.cell? ⟨(ad.add (hi.toNat * 9)).block, (ad.add (hi.toNat * 9)).off + 5, none⟩ = some (.int .i64 b5) ∧ w'.cell? ⟨(ad.add (hi.toNat * 9)).block, (ad.add (hi.toNat * 9)).off + 6, none⟩ = some (.int .i64 b6) ∧ w'.cell? ⟨(ad.add (hi.toNat * 9)).block, (ad.add (hi.toNat * 9)).off + 7, none⟩ = some (.int .i64 b7) ∧ w'.cell? ⟨(ad.add (hi.toNat * 9)).block, (ad.add (hi.toNat * 9)).off + 8, none⟩ = some (.int .i64 b8))
            (first | go_keep | exact ⟨pw_cell_below hbw4 g0, pw_cell_below hbw4 g1, pw_cell_below hbw4 g2, pw_cell_below hbw4 g3, pw_cell_below hbw4 g4, pw_cell_below hbw4 g5, pw_cell_below hbw4 g6, pw_cell_below hbw4 g7, pw_cell_below hbw4 g8, pw_cell_below hbw4 bh0, pw_cell_below hbw4 bh1, pw_cell_below hbw4 bh2, pw_cell_below hbw4 bh3, pw_cell_below hbw4 bh4, pw_cell_below hbw4 bh5, pw_cell_below hbw4 bh6, pw_cell_below hbw4 bh7, pw_cell_below hbw4 bh8⟩)
            (first | (go_at_call 36; (with_reducible refine (allocate_Worst_1.calls b0 b1 b2 b3 b4 b5 b6 b7 b8 x0 x1 x2 x3 x4 x5 x6 x7 x8 1 true _ HP2.out).mono ?_); rintro e w4 ⟨rfl, hz⟩; have hbw4 : Below w3.heap.size w3 w4 := (by refine below_then ?_ ?_ hz; (repeat (first | exact Below.refl _ _ | apply pw_below_drewN | apply below_drew1)); exact Nat.le_refl _); have HB4 : Aside0 (Below w.heap.size w w4) := ⟨below_step HB3.out hbw4⟩; clear hz))
          go_wp2
          go_roundg (gk - 1)
          case measure => have := HK.out; have := HT.out; omega
          case rel => exact ⟨i + 1, _, _, rfl, rfl, congrArg (Value.int .i64) WR.out, ⟨by have := HK.out; have := HT.out; omega⟩, HN, ⟨(by repeat (first | exact HB4.out | apply below_alloc | apply pw_below_drewN | apply below_drew1))⟩⟩
      | true =>
        go_region_held3 (fun w' => w'.cell? ⟨wr.heap.size, 0, none⟩ = some (.int .i64 x0) ∧ w'.cell? ⟨wr.heap.size, 1, none⟩ = some (.int .i64 x1) ∧ w'.cell? ⟨wr.heap.size, 2, none⟩ = some (.int .i64 x2) ∧ w'.cell? ⟨wr.heap.size, 3, none⟩ = some (.bool x3) ∧ w'.cell? ⟨wr.heap.size, 4, none⟩ = some (.int .i64 x4) ∧ w'.cell? ⟨wr.heap.size, 5, none⟩ = some (.int .i64 x5) ∧ w'.cell? ⟨wr.heap.size, 6, none⟩ = some (.int .i64 x6) ∧ w'.cell? ⟨wr.heap.size, 7, none⟩ = some (.int .i64 x7) ∧ w'.cell? ⟨wr.heap.size, 8, none⟩ = some (.int .i64 x8) ∧ w'.cell? (ad.add (lo.toNat * 9)) = some (.int .i64 a0) ∧ w'.cell? ⟨(ad.add (lo.toNat * 9)).block, (ad.add (lo.toNat * 9)).off + 1, none⟩ = some (.int .i64 a1) ∧ w'.cell? ⟨(ad.add (lo.toNat * 9)).block, (ad.add (lo.toNat * 9)).off + 2, none⟩ = some (.int .i64 a2) ∧ w'.cell? ⟨(ad.add (lo.toNat * 9)).block, (ad.add (lo.toNat * 9)).off + 3, none⟩ = some (.bool a3) ∧ w'.cell? ⟨(ad.add (lo.toNat * 9)).block, (ad.add (lo.toNat * 9)).off + 4, none⟩ = some (.int .i64 a4) ∧ w'.cell? ⟨(ad.add (lo.toNat * 9)).block, (ad.add (lo.toNat * 9)).off + 5, none⟩ = some (.int .i64 a5) ∧ w'.cell? ⟨(ad.add (lo.toNat * 9)).block, (ad.add (lo.toNat * 9)).off + 6, none⟩ = some (.int .i64 a6) ∧ w'.cell? ⟨(ad.add (lo.toNat * 9)).block, (ad.add (lo.toNat * 9)).off + 7, none⟩ = some (.int .i64 a7) ∧ w'.cell? ⟨(ad.add (lo.toNat * 9)).block, (ad.add (lo.toNat * 9)).off + 8, none⟩ = some (.int .i64 a8))
          (first | go_keep | exact ⟨pw_cell_below hbw3 g0, pw_cell_below hbw3 g1, pw_cell_below hbw3 g2, pw_cell_below hbw3 g3, pw_cell_below hbw3 g4, pw_cell_below hbw3 g5, pw_cell_below hbw3 g6, pw_cell_below hbw3 g7, pw_cell_below hbw3 g8, pw_cell_below hbw3 ah0, pw_cell_below hbw3 ah1, pw_cell_below hbw3 ah2, pw_cell_below hbw3 ah3, pw_cell_below hbw3 ah4, pw_cell_below hbw3 ah5, pw_cell_below hbw3 ah6, pw_cell_below hbw3 ah7, pw_cell_below hbw3 ah8⟩)
          (first | (go_at_call 36; (with_reducible refine (allocate_Worst_1.calls x0 x1 x2 x3 x4 x5 x6 x7 x8 a0 a1 a2 a3 a4 a5 a6 a7 a8 1 true _ HP1.out).mono ?_); rintro e w3 ⟨rfl, hz⟩; have hbw3 : Below w2.heap.size w2 w3 := (by refine below_then ?_ ?_ hz; (repeat (first | exact Below.refl _ _ | apply pw_below_drewN | apply below_drew1)); exact Nat.le_refl _); have HB3 : Aside0 (Below w.heap.size w w3) := ⟨below_step HB2.out hbw3⟩; clear hz))
        go_upto_region 11 with (fail)
        have HR3 := Aside0.mk (Kd.C_below HR0.out HB3.out)
        have HK3 := Aside0.mk (blk_below HK1.out hbw3)
        clear hbw3 g0 g1 g2 g3 g4 g5 g6 g7 g8 ah0 ah1 ah2 ah3 ah4 ah5 ah6 ah7 ah8
        have g0 := (blk_cell HK3.out 0).trans (rfl : _ = some (Value.int .i64 x0))
        have g1 := (blk_cell HK3.out 1).trans (rfl : _ = some (Value.int .i64 x1))
        have g2 := (blk_cell HK3.out 2).trans (rfl : _ = some (Value.int .i64 x2))
        have g3 := (blk_cell HK3.out 3).trans (rfl : _ = some (Value.bool x3))
        have g4 := (blk_cell HK3.out 4).trans (rfl : _ = some (Value.int .i64 x4))
        have g5 := (blk_cell HK3.out 5).trans (rfl : _ = some (Value.int .i64 x5))
        have g6 := (blk_cell HK3.out 6).trans (rfl : _ = some (Value.int .i64 x6))
        have g7 := (blk_cell HK3.out 7).trans (rfl : _ = some (Value.int .i64 x7))
        have g8 := (blk_cell HK3.out 8).trans (rfl : _ = some (Value.int .i64 x8))
        obtain ⟨adb, eb, bh0, bh1, bh2, bh3, bh4, bh5, bh6, bh7, bh8⟩ := at_T39 HR3.out (hi) HPQ.out.1 HPQ.out.2
        obtain rfl : ad = adb := by injection eb
        clear eb
        obtain ⟨eb0, eb1, eb2, eb3, eb4, eb5, eb6, eb7, eb8⟩ := EB.out
        rw [eb0] at bh0
        rw [eb1] at bh1
        rw [eb2] at bh2
        rw [eb3] at bh3
        rw [eb4] at bh4
        rw [eb5] at bh5
        rw [eb6] at bh6
        rw [eb7] at bh7
        rw [eb8] at bh8
        clear eb0 eb1 eb2 eb3 eb4 eb5 eb6 eb7 eb8
        have hp := eq_true HPQ.out.1
        have hq := eq_true HPQ.out.2
        cases p2 with
        | false =>
          go_region_held3 (fun w' => w'.cell? ⟨wr.heap.size, 0, none⟩ = some (.int .i64 x0) ∧ w'.cell? ⟨wr.heap.size, 1, none⟩ = some (.int .i64 x1) ∧ w'.cell? ⟨wr.heap.size, 2, none⟩ = some (.int .i64 x2) ∧ w'.cell? ⟨wr.heap.size, 3, none⟩ = some (.bool x3) ∧ w'.cell? ⟨wr.heap.size, 4, none⟩ = some (.int .i64 x4) ∧ w'.cell? ⟨wr.heap.size, 5, none⟩ = some (.int .i64 x5) ∧ w'.cell? ⟨wr.heap.size, 6, none⟩ = some (.int .i64 x6) ∧ w'.cell? ⟨wr.heap.size, 7, none⟩ = some (.int .i64 x7) ∧ w'.cell? ⟨wr.heap.size, 8, none⟩ = some (.int .i64 x8) ∧ w'.cell? (ad.add (hi.toNat * 9)) = some (.int .i64 b0) ∧ w'.cell? ⟨(ad.add (hi.toNat * 9)).block, (ad.add (hi.toNat * 9)).off + 1, none⟩ = some (.int .i64 b1) ∧ w'.cell? ⟨(ad.add (hi.toNat * 9)).block, (ad.add (hi.toNat * 9)).off + 2, none⟩ = some (.int .i64 b2) ∧ w'.cell? ⟨(ad.add (hi.toNat * 9)).block, (ad.add (hi.toNat * 9)).off + 3, none⟩ = some (.bool b3) ∧ w'.cell? ⟨(ad.add (hi.toNat * 9)).block, (ad.add (hi.toNat * 9)).off + 4, none⟩ = some (.int .i64 b4) ∧ w'.cell? ⟨(ad.add (hi.toNat * 9)).block, (ad.add (hi.toNat * 9)).off + 5, none⟩ = some (.int .i64 b5) ∧ w'.cell? ⟨(ad.add (hi.toNat * 9)).block, (ad.add (hi.toNat * 9)).off + 6, none⟩ = some (.int .i64 b6) ∧ w'.cell? ⟨(ad.add (hi.toNat * 9)).block, (ad.add (hi.toNat * 9)).off + 7, none⟩ = some (.int .i64 b7) ∧ w'.cell? ⟨(ad.add (hi.toNat * 9)).block, (ad.add (hi.toNat * 9)).off + 8, none⟩ = some (.int .i64 b8))
            (first | go_keep | exact ⟨pw_cell_below hbw4 g0, pw_cell_below hbw4 g1, pw_cell_below hbw4 g2, pw_cell_below hbw4 g3, pw_cell_below hbw4 g4, pw_cell_below hbw4 g5, pw_cell_below hbw4 g6, pw_cell_below hbw4 g7, pw_cell_below hbw4 g8, pw_cell_below hbw4 bh0, pw_cell_below hbw4 bh1, pw_cell_below hbw4 bh2, pw_cell_below hbw4 bh3, pw_cell_below hbw4 bh4, pw_cell_below hbw4 bh5, pw_cell_below hbw4 bh6, pw_cell_below hbw4 bh7, pw_cell_below hbw4 bh8⟩)
            (first | (go_at_call 36; (with_reducible refine (allocate_Worst_1.calls b0 b1 b2 b3 b4 b5 b6 b7 b8 x0 x1 x2 x3 x4 x5 x6 x7 x8 1 false _ HP2.out).mono ?_); rintro e w4 ⟨rfl, hz⟩; have hbw4 : Below w3.heap.size w3 w4 := (by refine below_then ?_ ?_ hz; (repeat (first | exact Below.refl _ _ | apply pw_below_drewN | apply below_drew1)); exact Nat.le_refl _); have HB4 : Aside0 (Below w.heap.size w w4) := ⟨below_step HB3.out hbw4⟩; clear hz))
          go_wp2
          go_roundg (gk - 1)
          case measure => have := HK.out; have := HT.out; omega
          case rel => exact ⟨i + 1, _, _, rfl, rfl, congrArg (Value.int .i64) WR.out, ⟨by have := HK.out; have := HT.out; omega⟩, HN, ⟨(by repeat (first | exact HB4.out | apply below_alloc | apply pw_below_drewN | apply below_drew1))⟩⟩
        | true =>
          go_region_held3 (fun w' => w'.cell? ⟨wr.heap.size, 0, none⟩ = some (.int .i64 x0) ∧ w'.cell? ⟨wr.heap.size, 1, none⟩ = some (.int .i64 x1) ∧ w'.cell? ⟨wr.heap.size, 2, none⟩ = some (.int .i64 x2) ∧ w'.cell? ⟨wr.heap.size, 3, none⟩ = some (.bool x3) ∧ w'.cell? ⟨wr.heap.size, 4, none⟩ = some (.int .i64 x4) ∧ w'.cell? ⟨wr.heap.size, 5, none⟩ = some (.int .i64 x5) ∧ w'.cell? ⟨wr.heap.size, 6, none⟩ = some (.int .i64 x6) ∧ w'.cell? ⟨wr.heap.size, 7, none⟩ = some (.int .i64 x7) ∧ w'.cell? ⟨wr.heap.size, 8, none⟩ = some (.int .i64 x8) ∧ w'.cell? (ad.add (hi.toNat * 9)) = some (.int .i64 b0) ∧ w'.cell? ⟨(ad.add (hi.toNat * 9)).block, (ad.add (hi.toNat * 9)).off + 1, none⟩ = some (.int .i64 b1) ∧ w'.cell? ⟨(ad.add (hi.toNat * 9)).block, (ad.add (hi.toNat * 9)).off + 2, none⟩ = some (.int .i64 b2) ∧ w'.cell? ⟨(ad.add (hi.toNat * 9)).block, (ad.add (hi.toNat * 9)).off + 3, none⟩ = some (.bool b3) ∧ w'.cell? ⟨(ad.add (hi.toNat * 9)).block, (ad.add (hi.toNat * 9)).off + 4, none⟩ = some (.int .i64 b4) ∧ w'.cell? ⟨(ad.add (hi.toNat * 9)).block, (ad.add (hi.toNat * 9)).off + 5, none⟩ = some (.int .i64 b5) ∧ w'.cell? ⟨(ad.add (hi.toNat * 9)).block, (ad.add (hi.toNat * 9)).off + 6, none⟩ = some (.int .i64 b6) ∧ w'.cell? ⟨(ad.add (hi.toNat * 9)).block, (ad.add (hi.toNat * 9)).off + 7, none⟩ = some (.int .i64 b7) ∧ w'.cell? ⟨(ad.add (hi.toNat * 9)).block, (ad.add (hi.toNat * 9)).off + 8, none⟩ = some (.int .i64 b8))
            (first | go_keep | exact ⟨pw_cell_below hbw4 g0, pw_cell_below hbw4 g1, pw_cell_below hbw4 g2, pw_cell_below hbw4 g3, pw_cell_below hbw4 g4, pw_cell_below hbw4 g5, pw_cell_below hbw4 g6, pw_cell_below hbw4 g7, pw_cell_below hbw4 g8, pw_cell_below hbw4 bh0, pw_cell_below hbw4 bh1, pw_cell_below hbw4 bh2, pw_cell_below hbw4 bh3, pw_cell_below hbw4 bh4, pw_cell_below hbw4 bh5, pw_cell_below hbw4 bh6, pw_cell_below hbw4 bh7, pw_cell_below hbw4 bh8⟩)
            (first | (go_at_call 36; (with_reducible refine (allocate_Worst_1.calls b0 b1 b2 b3 b4 b5 b6 b7 b8 x0 x1 x2 x3 x4 x5 x6 x7 x8 1 true _ HP2.out).mono ?_); rintro e w4 ⟨rfl, hz⟩; have hbw4 : Below w3.heap.size w3 w4 := (by refine below_then ?_ ?_ hz; (repeat (first | exact Below.refl _ _ | apply pw_below_drewN | apply below_drew1)); exact Nat.le_refl _); have HB4 : Aside0 (Below w.heap.size w w4) := ⟨below_step HB3.out hbw4⟩; clear hz))
          go_wp2
          go_roundg (gk - 1)
          case measure => have := HK.out; have := HT.out; omega
          case rel => exact ⟨i + 1, _, _, rfl, rfl, congrArg (Value.int .i64) WR.out, ⟨by have := HK.out; have := HT.out; omega⟩, HN, ⟨(by repeat (first | exact HB4.out | apply below_alloc | apply pw_below_drewN | apply below_drew1))⟩⟩
    · have b0 : decide ((i : Int) < (l0.length : Int)) = false := decide_eq_false (by omega)
      have b1 : decide (i < l0.length) = false := decide_eq_false hlt
      have hE : worstEnd l0 (lo, hi) = (r1, r2) := by rw [← HR.out, show l0.length = i by have := HK.out; omega, HI.out]
      have HE := Aside0.mk hE
      have HD1 : Aside0 (lo < (l0.length : Int)) := ⟨by have := HK.out; omega⟩
      have HD3 : Aside0 (hi < (l0.length : Int)) := ⟨by have := HK.out; omega⟩
      clear hE hlt d1 d3
      by_cases cl : lo < 0
      · have s0 : decide (lo < 0) = true := decide_eq_true cl
        obtain ⟨rfl, rfl⟩ : r1 = 0 ∧ r2 = false := by
          have h := HE.out
          unfold worstEnd at h
          rw [if_pos (.inl cl), Prod.mk.injEq] at h
          exact ⟨h.1.symm, h.2.symm⟩
        clear cl
        go_upto_region 14 with (fail)
        go_quiet (fail)
        go_wp2
        go_ret2
        exact ⟨rfl, (by repeat (first | exact HB.out | apply below_alloc | apply pw_below_drewN | apply below_drew1))⟩
      have s0 : decide (lo < 0) = false := decide_eq_false cl
      have CL := Aside0.mk cl
      have CH : Aside0 (¬ hi < 0) := ⟨fun h => cl (HD4.out.2 h)⟩
      have lp : 0 ≤ lo := by omega
      have hp : 0 ≤ hi := by have := CH.out; omega
      have lq := HD1.out
      have hq := HD3.out
      clear cl
      obtain ⟨ad, rfl⟩ : ∃ ad, A0 = some ad := by obtain ⟨ad, e, _⟩ := at_T39 HRr.out lo lp lq; exact ⟨ad, e⟩
      obtain ⟨ada, ea, ah0, ah1, ah2, ah3, ah4, ah5, ah6, ah7, ah8⟩ := at_T39 HRr.out (lo) lp lq
      obtain rfl : ad = ada := by injection ea
      clear ea
      obtain ⟨a0, ea0⟩ : ∃ x, (rd_T39 l0 (lo)).f0.f0 = x := ⟨_, rfl⟩
      obtain ⟨a1, ea1⟩ : ∃ x, (rd_T39 l0 (lo)).f0.f1 = x := ⟨_, rfl⟩
      obtain ⟨a2, ea2⟩ : ∃ x, (rd_T39 l0 (lo)).f0.f2 = x := ⟨_, rfl⟩
      obtain ⟨a3, ea3⟩ : ∃ x, (rd_T39 l0 (lo)).f0.f3 = x := ⟨_, rfl⟩
      obtain ⟨a4, ea4⟩ : ∃ x, (rd_T39 l0 (lo)).f0.f4 = x := ⟨_, rfl⟩
      obtain ⟨a5, ea5⟩ : ∃ x, (rd_T39 l0 (lo)).f0.f5 = x := ⟨_, rfl⟩
      obtain ⟨a6, ea6⟩ : ∃ x, (rd_T39 l0 (lo)).f1 = x := ⟨_, rfl⟩
      obtain ⟨a7, ea7⟩ : ∃ x, (rd_T39 l0 (lo)).f2 = x := ⟨_, rfl⟩
      obtain ⟨a8, ea8⟩ : ∃ x, (rd_T39 l0 (lo)).f3 = x := ⟨_, rfl⟩
      rw [ea0] at ah0
      rw [ea1] at ah1
      rw [ea2] at ah2
      rw [ea3] at ah3
      rw [ea4] at ah4
      rw [ea5] at ah5
      rw [ea6] at ah6
      rw [ea7] at ah7
      rw [ea8] at ah8
      obtain ⟨adb, eb, bh0, bh1, bh2, bh3, bh4, bh5, bh6, bh7, bh8⟩ := at_T39 HRr.out (hi) hp hq
      obtain rfl : ad = adb := by injection eb
      clear eb
      obtain ⟨b0, eb0⟩ : ∃ x, (rd_T39 l0 (hi)).f0.f0 = x := ⟨_, rfl⟩
      obtain ⟨b1, eb1⟩ : ∃ x, (rd_T39 l0 (hi)).f0.f1 = x := ⟨_, rfl⟩
      obtain ⟨b2, eb2⟩ : ∃ x, (rd_T39 l0 (hi)).f0.f2 = x := ⟨_, rfl⟩
      obtain ⟨b3, eb3⟩ : ∃ x, (rd_T39 l0 (hi)).f0.f3 = x := ⟨_, rfl⟩
      obtain ⟨b4, eb4⟩ : ∃ x, (rd_T39 l0 (hi)).f0.f4 = x := ⟨_, rfl⟩
      obtain ⟨b5, eb5⟩ : ∃ x, (rd_T39 l0 (hi)).f0.f5 = x := ⟨_, rfl⟩
      obtain ⟨b6, eb6⟩ : ∃ x, (rd_T39 l0 (hi)).f1 = x := ⟨_, rfl⟩
      obtain ⟨b7, eb7⟩ : ∃ x, (rd_T39 l0 (hi)).f2 = x := ⟨_, rfl⟩
      obtain ⟨b8, eb8⟩ : ∃ x, (rd_T39 l0 (hi)).f3 = x := ⟨_, rfl⟩
      rw [eb0] at bh0
      rw [eb1] at bh1
      rw [eb2] at bh2
      rw [eb3] at bh3
      rw [eb4] at bh4
      rw [eb5] at bh5
      rw [eb6] at bh6
      rw [eb7] at bh7
      rw [eb8] at bh8
      obtain ⟨p1, hp1⟩ := lessB_some (rd_T39 l0 lo) (rd_T39 l0 hi) 2
      have hE : (r1, r2) = if p1 = false then ((0 : Int), false) else (lo, true) := by
        rw [← HE.out]
        unfold worstEnd
        simp only [hp1, CL.out, false_or, Option.some.injEq]
      unfold lessB at hp1
      rw [ea0, ea1, ea2, ea3, ea4, ea5, ea6, ea7, ea8, eb0, eb1, eb2, eb3, eb4, eb5, eb6, eb7, eb8] at hp1
      have HP1 := Aside0.mk hp1
      clear hp1 HE ea0 ea1 ea2 ea3 ea4 ea5 ea6 ea7 ea8 eb0 eb1 eb2 eb3 eb4 eb5 eb6 eb7 eb8
      replace lp := eq_true lp
      replace lq := eq_true lq
      replace hp := eq_true hp
      replace hq := eq_true hq
      cases p1 with
      | false =>
        obtain ⟨rfl, rfl⟩ : r1 = 0 ∧ r2 = false := by rw [if_pos rfl, Prod.mk.injEq] at hE; exact hE
        clear hE
        go_upto_region 14 with (fail)
        go_region_held3 (fun w' => w'.cell? (ad.add (lo.toNat * 9)) = some (.int .i64 a0) ∧ w'.cell? ⟨(ad.add (lo.toNat * 9)).block, (ad.add (lo.toNat * 9)).off + 1, none⟩ = some (.int .i64 a1) ∧ w'.cell? ⟨(ad.add (lo.toNat * 9)).block, (ad.add (lo.toNat * 9)).off + 2, none⟩ = some (.int .i64 a2) ∧ w'.cell? ⟨(ad.add (lo.toNat * 9)).block, (ad.add (lo.toNat * 9)).off + 3, none⟩ = some (.bool a3) ∧ w'.cell? ⟨(ad.add (lo.toNat * 9)).block, (ad.add (lo.toNat * 9)).off + 4, none⟩ = some (.int .i64 a4) ∧ w'.cell? ⟨(ad.add (lo.toNat * 9)).block, (ad.add (lo.toNat * 9)).off + 5, none⟩ = some (.int .i64 a5) ∧ w'.cell? ⟨(ad.add (lo.toNat * 9)).block, (ad.add (lo.toNat * 9)).off + 6, none⟩ = some (.int .i64 a6) ∧ w'.cell? ⟨(ad.add (lo.toNat * 9)).block, (ad.add (lo.toNat * 9)).off + 7, none⟩ = some (.int .i64 a7) ∧ w'.cell? ⟨(ad.add (lo.toNat * 9)).block, (ad.add (lo.toNat * 9)).off + 8, none⟩ = some (.int .i64 a8) ∧ w'.cell? (ad.add (hi.toNat * 9)) = some (.int .i64 b0) ∧ w'.cell? ⟨(ad.add (hi.toNat * 9)).block, (ad.add (hi.toNat * 9)).off + 1, none⟩ = some (.int .i64 b1) ∧ w'.cell? ⟨(ad.add (hi.toNat * 9)).block, (ad.add (hi.toNat * 9)).off + 2, none⟩ = some (.int .i64 b2) ∧ w'.cell? ⟨(ad.add (hi.toNat * 9)).block, (ad.add (hi.toNat * 9)).off + 3, none⟩ = some (.bool b3) ∧ w'.cell? ⟨(ad.add (hi.toNat * 9)).block, (ad.add (hi.toNat * 9)).off + 4, none⟩ = some (.int .i64 b4) ∧ w'.cell? ⟨(ad.add (hi.toNat * 9)).block, (ad.add (hi.toNat * 9)).off + 5, none⟩ = some (.int .i64 b5) ∧ w'.cell? ⟨(ad.add (hi.toNat * 9)).block, (ad.add (hi.toNat * 9)).off + 6, none⟩ = some (.int .i64 b6) ∧ w'.cell? ⟨(ad.add (hi.toNat * 9)).block, (ad.add (hi.toNat * 9)).off + 7, none⟩ = some (.int .i64 b7) ∧ w'.cell? ⟨(ad.add (hi.toNat * 9)).block, (ad.add (hi.toNat * 9)).off + 8, none⟩ = some (.int .i64 b8))
          (first | go_keep | exact ⟨pw_cell_below hbw3 ah0, pw_cell_below hbw3 ah1, pw_cell_below hbw3 ah2, pw_cell_below hbw3 ah3, pw_cell_below hbw3 ah4, pw_cell_below hbw3 ah5, pw_cell_below hbw3 ah6, pw_cell_below hbw3 ah7, pw_cell_below hbw3 ah8, pw_cell_below hbw3 bh0, pw_cell_below hbw3 bh1, pw_cell_below hbw3 bh2, pw_cell_below hbw3 bh3, pw_cell_below hbw3 bh4, pw_cell_below hbw3 bh5, pw_cell_below hbw3 bh6, pw_cell_below hbw3 bh7, pw_cell_below hbw3 bh8⟩)
          (first | (go_at_call 36; (with_reducible refine (allocate_Worst_1.calls a0 a1 a2 a3 a4 a5 a6 a7 a8 b0 b1 b2 b3 b4 b5 b6 b7 b8 2 false _ HP1.out).mono ?_); rintro e w3 ⟨rfl, hz⟩; have hbw3 : Below wr.heap.size wr w3 := (by refine below_then ?_ ?_ hz; (repeat (first | exact Below.refl _ _ | apply pw_below_drewN | apply below_drew1)); exact Nat.le_refl _); have HB3 : Aside0 (Below w.heap.size w w3) := ⟨below_step HB.out hbw3⟩; clear hz))
        go_wp2
        go_ret2
        exact ⟨rfl, (by repeat (first | exact HB3.out | apply below_alloc | apply pw_below_drewN | apply below_drew1))⟩
      | true =>
        obtain ⟨rfl, rfl⟩ : lo = r1 ∧ true = r2 := by rw [if_neg (by simp), Prod.mk.injEq] at hE; exact ⟨hE.1.symm, hE.2.symm⟩
        clear hE
        go_upto_region 14 with (fail)
        go_region_held3 (fun w' => w'.cell? (ad.add (lo.toNat * 9)) = some (.int .i64 a0) ∧ w'.cell? ⟨(ad.add (lo.toNat * 9)).block, (ad.add (lo.toNat * 9)).off + 1, none⟩ = some (.int .i64 a1) ∧ w'.cell? ⟨(ad.add (lo.toNat * 9)).block, (ad.add (lo.toNat * 9)).off + 2, none⟩ = some (.int .i64 a2) ∧ w'.cell? ⟨(ad.add (lo.toNat * 9)).block, (ad.add (lo.toNat * 9)).off + 3, none⟩ = some (.bool a3) ∧ w'.cell? ⟨(ad.add (lo.toNat * 9)).block, (ad.add (lo.toNat * 9)).off + 4, none⟩ = some (.int .i64 a4) ∧ w'.cell? ⟨(ad.add (lo.toNat * 9)).block, (ad.add (lo.toNat * 9)).off + 5, none⟩ = some (.int .i64 a5) ∧ w'.cell? ⟨(ad.add (lo.toNat * 9)).block, (ad.add (lo.toNat * 9)).off + 6, none⟩ = some (.int .i64 a6) ∧ w'.cell? ⟨(ad.add (lo.toNat * 9)).block, (ad.add (lo.toNat * 9)).off + 7, none⟩ = some (.int .i64 a7) ∧ w'.cell? ⟨(ad.add (lo.toNat * 9)).block, (ad.add (lo.toNat * 9)).off + 8, none⟩ = some (.int .i64 a8) ∧ w'.cell? (ad.add (hi.toNat * 9)) = some (.int .i64 b0) ∧ w'.cell? ⟨(ad.add (hi.toNat * 9)).block, (ad.add (hi.toNat * 9)).off + 1, none⟩ = some (.int .i64 b1) ∧ w'.cell? ⟨(ad.add (hi.toNat * 9)).block, (ad.add (hi.toNat * 9)).off + 2, none⟩ = some (.int .i64 b2) ∧ w'.cell? ⟨(ad.add (hi.toNat * 9)).block, (ad.add (hi.toNat * 9)).off + 3, none⟩ = some (.bool b3) ∧ w'.cell? ⟨(ad.add (hi.toNat * 9)).block, (ad.add (hi.toNat * 9)).off + 4, none⟩ = some (.int .i64 b4) ∧ w'.cell? ⟨(ad.add (hi.toNat * 9)).block, (ad.add (hi.toNat * 9)).off + 5, none⟩ = some (.int .i64 b5) ∧ w'.cell? ⟨(ad.add (hi.toNat * 9)).block, (ad.add (hi.toNat * 9)).off + 6, none⟩ = some (.int .i64 b6) ∧ w'.cell? ⟨(ad.add (hi.toNat * 9)).block, (ad.add (hi.toNat * 9)).off + 7, none⟩ = some (.int .i64 b7) ∧ w'.cell? ⟨(ad.add (hi.toNat * 9)).block, (ad.add (hi.toNat * 9)).off + 8, none⟩ = some (.int .i64 b8))
          (first | go_keep | exact ⟨pw_cell_below hbw3 ah0, pw_cell_below hbw3 ah1, pw_cell_below hbw3 ah2, pw_cell_below hbw3 ah3, pw_cell_below hbw3 ah4, pw_cell_below hbw3 ah5, pw_cell_below hbw3 ah6, pw_cell_below hbw3 ah7, pw_cell_below hbw3 ah8, pw_cell_below hbw3 bh0, pw_cell_below hbw3 bh1, pw_cell_below hbw3 bh2, pw_cell_below hbw3 bh3, pw_cell_below hbw3 bh4, pw_cell_below hbw3 bh5, pw_cell_below hbw3 bh6, pw_cell_below hbw3 bh7, pw_cell_below hbw3 bh8⟩)
          (first | (go_at_call 36; (with_reducible refine (allocate_Worst_1.calls a0 a1 a2 a3 a4 a5 a6 a7 a8 b0 b1 b2 b3 b4 b5 b6 b7 b8 2 true _ HP1.out).mono ?_); rintro e w3 ⟨rfl, hz⟩; have hbw3 : Below wr.heap.size wr w3 := (by refine below_then ?_ ?_ hz; (repeat (first | exact Below.refl _ _ | apply pw_below_drewN | apply below_drew1)); exact Nat.le_refl _); have HB3 : Aside0 (Below w.heap.size w w3) := ⟨below_step HB.out hbw3⟩; clear hz))
        go_wp2
        go_ret2
        exact ⟨rfl, (by repeat (first | exact HB3.out | apply below_alloc | apply pw_below_drewN | apply below_drew1))⟩

end Go.Proofs.Ytfbekkmmafkmpaa.PX
