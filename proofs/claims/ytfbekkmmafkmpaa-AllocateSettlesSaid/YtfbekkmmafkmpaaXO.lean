-- Written by wip/xprint.py, a program of this claim's own, over the kit's print program. Lean checks it.
import Derived.Test.YtfbekkmmafkmpaaXR
import Derived.Test.YtfbekkmmafkmpaaPXx0
namespace Go.Proofs.Ytfbekkmmafkmpaa.PX
open Go.ChangeShapes Go.WideShapes Go.ChangeAt Go.RowKit Go.Proofs.YtfbekkmmafkmpaaW.PrintWords Go.Proofs.YtfbekkmmafkmpaaW.PrintLast Go.Proofs.YtfbekkmmafkmpaaW.PrintMore
set_option linter.unusedVariables false
set_option linter.unusedSimpArgs false
def G37 (x : S37) : Prop := (Lit.int .i64 x.f0).wf = true ∧ (Lit.int .i64 x.f1).wf = true ∧ (Lit.int .i64 x.f2).wf = true ∧ True ∧ (Lit.int .i64 x.f4).wf = true ∧ (Lit.int .i64 x.f5).wf = true
theorem open37 : Opens Try.prog k37 37 G37 := by
  intro H enc w base spare held fuel cs x h
  obtain ⟨xs, n, _, _, hlen, hxl, hg⟩ := DataW.trod_struct Try.underlying37 h
  have hC : Try.prog.cellsOf 37 = 6 := by kernel_rfl
  have hc3 : Try.prog.cellsOf 3 = 1 := by kernel_rfl
  have hc4 : Try.prog.cellsOf 4 = 1 := by kernel_rfl
  rw [hC] at hlen
  match cs, hlen with
  | [c0, c1, c2, c3, c4, c5], _ =>
    clear hlen h hC
    obtain ⟨y0, hy0⟩ : ∃ y, xs[0]? = some y := ⟨_, List.getElem?_eq_getElem (by rw [hxl]; decide)⟩
    have g0 : DataW.trod enc Try.prog w base spare held n 3 [c0] = some y0 := by have h_ := hg 0 _ rfl; rw [hy0] at h_; simpa [hc3] using h_
    obtain ⟨v0, K0, G0⟩ := opens_int Try.underlying3 _ _ _ _ _ _ _ _ _ g0
    obtain rfl := (List.cons.inj K0).1
    obtain ⟨y1, hy1⟩ : ∃ y, xs[1]? = some y := ⟨_, List.getElem?_eq_getElem (by rw [hxl]; decide)⟩
    have g1 : DataW.trod enc Try.prog w base spare held n 3 [c1] = some y1 := by have h_ := hg 1 _ rfl; rw [hy1] at h_; simpa [hc3] using h_
    obtain ⟨v1, K1, G1⟩ := opens_int Try.underlying3 _ _ _ _ _ _ _ _ _ g1
    obtain rfl := (List.cons.inj K1).1
    obtain ⟨y2, hy2⟩ : ∃ y, xs[2]? = some y := ⟨_, List.getElem?_eq_getElem (by rw [hxl]; decide)⟩
    have g2 : DataW.trod enc Try.prog w base spare held n 3 [c2] = some y2 := by have h_ := hg 2 _ rfl; rw [hy2] at h_; simpa [hc3] using h_
    obtain ⟨v2, K2, G2⟩ := opens_int Try.underlying3 _ _ _ _ _ _ _ _ _ g2
    obtain rfl := (List.cons.inj K2).1
    obtain ⟨y3, hy3⟩ : ∃ y, xs[3]? = some y := ⟨_, List.getElem?_eq_getElem (by rw [hxl]; decide)⟩
    have g3 : DataW.trod enc Try.prog w base spare held n 4 [c3] = some y3 := by have h_ := hg 3 _ rfl; rw [hy3] at h_; simpa [hc4] using h_
    obtain ⟨v3, K3, -⟩ := opens_bool Try.underlying4 _ _ _ _ _ _ _ _ _ g3
    obtain rfl := (List.cons.inj K3).1
    obtain ⟨y4, hy4⟩ : ∃ y, xs[4]? = some y := ⟨_, List.getElem?_eq_getElem (by rw [hxl]; decide)⟩
    have g4 : DataW.trod enc Try.prog w base spare held n 3 [c4] = some y4 := by have h_ := hg 4 _ rfl; rw [hy4] at h_; simpa [hc3] using h_
    obtain ⟨v4, K4, G4⟩ := opens_int Try.underlying3 _ _ _ _ _ _ _ _ _ g4
    obtain rfl := (List.cons.inj K4).1
    obtain ⟨y5, hy5⟩ : ∃ y, xs[5]? = some y := ⟨_, List.getElem?_eq_getElem (by rw [hxl]; decide)⟩
    have g5 : DataW.trod enc Try.prog w base spare held n 3 [c5] = some y5 := by have h_ := hg 5 _ rfl; rw [hy5] at h_; simpa [hc3] using h_
    obtain ⟨v5, K5, G5⟩ := opens_int Try.underlying3 _ _ _ _ _ _ _ _ _ g5
    obtain rfl := (List.cons.inj K5).1
    exact ⟨⟨v0, v1, v2, v3, v4, v5⟩, k37_mk w ⟨v0, v1, v2, v3, v4, v5⟩, G0, G1, G2, trivial, G4, G5⟩
def G39 (x : S39) : Prop := G37 x.f0 ∧ (Lit.int .i64 x.f1).wf = true ∧ (Lit.int .i64 x.f2).wf = true ∧ (Lit.int .i64 x.f3).wf = true
theorem open39 : Opens Try.prog k39 39 G39 := by
  intro H enc w base spare held fuel cs x h
  obtain ⟨xs, n, _, _, hlen, hxl, hg⟩ := DataW.trod_struct Try.underlying39 h
  have hC : Try.prog.cellsOf 39 = 9 := by kernel_rfl
  have hc3 : Try.prog.cellsOf 3 = 1 := by kernel_rfl
  have hc37 : Try.prog.cellsOf 37 = 6 := by kernel_rfl
  rw [hC] at hlen
  match cs, hlen with
  | [c0, c1, c2, c3, c4, c5, c6, c7, c8], _ =>
    clear hlen h hC
    obtain ⟨y0, hy0⟩ : ∃ y, xs[0]? = some y := ⟨_, List.getElem?_eq_getElem (by rw [hxl]; decide)⟩
    have g0 : DataW.trod enc Try.prog w base spare held n 37 [c0, c1, c2, c3, c4, c5] = some y0 := by have h_ := hg 0 _ rfl; rw [hy0] at h_; simpa [hc37] using h_
    obtain ⟨v0, K0, G0⟩ := open37 _ _ _ _ _ _ _ _ _ g0
    have e0 := k37_open K0
    simp only [List.cons.injEq, and_true] at e0
    obtain ⟨rfl, rfl, rfl, rfl, rfl, rfl⟩ := e0
    obtain ⟨y1, hy1⟩ : ∃ y, xs[1]? = some y := ⟨_, List.getElem?_eq_getElem (by rw [hxl]; decide)⟩
    have g1 : DataW.trod enc Try.prog w base spare held n 3 [c6] = some y1 := by have h_ := hg 1 _ rfl; rw [hy1] at h_; simpa [hc3] using h_
    obtain ⟨v1, K1, G1⟩ := opens_int Try.underlying3 _ _ _ _ _ _ _ _ _ g1
    obtain rfl := (List.cons.inj K1).1
    obtain ⟨y2, hy2⟩ : ∃ y, xs[2]? = some y := ⟨_, List.getElem?_eq_getElem (by rw [hxl]; decide)⟩
    have g2 : DataW.trod enc Try.prog w base spare held n 3 [c7] = some y2 := by have h_ := hg 2 _ rfl; rw [hy2] at h_; simpa [hc3] using h_
    obtain ⟨v2, K2, G2⟩ := opens_int Try.underlying3 _ _ _ _ _ _ _ _ _ g2
    obtain rfl := (List.cons.inj K2).1
    obtain ⟨y3, hy3⟩ : ∃ y, xs[3]? = some y := ⟨_, List.getElem?_eq_getElem (by rw [hxl]; decide)⟩
    have g3 : DataW.trod enc Try.prog w base spare held n 3 [c8] = some y3 := by have h_ := hg 3 _ rfl; rw [hy3] at h_; simpa [hc3] using h_
    obtain ⟨v3, K3, G3⟩ := opens_int Try.underlying3 _ _ _ _ _ _ _ _ _ g3
    obtain rfl := (List.cons.inj K3).1
    exact ⟨⟨v0, v1, v2, v3⟩, k39_mk w ⟨v0, v1, v2, v3⟩, G0, G1, G2, G3⟩
end Go.Proofs.Ytfbekkmmafkmpaa.PX
