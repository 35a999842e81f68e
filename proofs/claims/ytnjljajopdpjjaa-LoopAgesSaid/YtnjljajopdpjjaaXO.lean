-- Written by wip/xprint.py, a program of this claim's own, over the kit's print program. Lean checks it.
import Derived.Test.YtnjljajopdpjjaaXR
import Derived.Test.YtnjljajopdpjjaaPXx0
namespace Go.Proofs.Ytnjljajopdpjjaa.PX
open Go.ChangeShapes Go.WideShapes Go.ChangeAt Go.RowKit Go.Proofs.YtnjljajopdpjjaaW.PrintWords Go.Proofs.YtnjljajopdpjjaaW.PrintLast Go.Proofs.YtnjljajopdpjjaaW.PrintMore
set_option linter.unusedVariables false
set_option linter.unusedSimpArgs false
def G23 (x : S23) : Prop := (Lit.int .i64 x.f0).wf = true ∧ (Lit.int .i64 x.f1).wf = true ∧ (Lit.int .i64 x.f2).wf = true ∧ (Lit.int .i64 x.f3).wf = true ∧ (Lit.int .i64 x.f4).wf = true ∧ (Lit.int .i64 x.f5).wf = true ∧ (Lit.int .i64 x.f6).wf = true
theorem open23 : Opens Try.prog k23 23 G23 := by
  intro H enc w base spare held fuel cs x h
  obtain ⟨xs, n, _, _, hlen, hxl, hg⟩ := DataW.trod_struct Try.underlying23 h
  have hC : Try.prog.cellsOf 23 = 7 := by kernel_rfl
  have hc3 : Try.prog.cellsOf 3 = 1 := by kernel_rfl
  rw [hC] at hlen
  match cs, hlen with
  | [c0, c1, c2, c3, c4, c5, c6], _ =>
    clear hlen h hC
    obtain ⟨y0, hy0⟩ : ∃ y, xs[0]? = some y := ⟨_, List.getElem?_eq_getElem (by rw [hxl]; decide)⟩
    have g0 : DataW.trod enc Try.prog w base spare held n 3 [c0] = some y0 := by have h_ := hg 0 _ rfl; rw [hy0] at h_; simpa [hc3] using h_
    obtain ⟨v0, K0, G0⟩ := opens_int Try.underlying3 _ _ _ _ _ _ _ _ _ g0
    obtain rfl := (List.cons.inj K0).1
    obtain ⟨y1, hy1⟩ : ∃ y, xs[1]? = some y := ⟨_, List.getElem?_eq_getElem (by rw [hxl]; decide)⟩
    have g1 : DataW.trod enc Try.prog w base spare held n 3 [c1] = some y1 := by have h_ := hg 1 _ rfl; rw [hy1] at h_; simpa [hc3] using h_
    obtain ⟨v1, K1, G1⟩ := opens_int Try.underlying3 _ _ _ _ _ _ _ _ _ g1
    obtain rfl := (List.cons.inj K1).1
    obtain ⟨y2, hy2⟩ : ∃ y, xs[2]? = some y := ⟨_, List.getElem?_eq_getElem (by rw [hxl]; decide)⟩
    have g2 : DataW.trod enc Try.prog w base spare held n 3 [c2] = some y2 := by have h_ := hg 2 _ rfl; rw [hy2] at h_; simpa [hc3] using h_
    obtain ⟨v2, K2, G2⟩ := opens_int Try.underlying3 _ _ _ _ _ _ _ _ _ g2
    obtain rfl := (List.cons.inj K2).1
    obtain ⟨y3, hy3⟩ : ∃ y, xs[3]? = some y := ⟨_, List.getElem?_eq_getElem (by rw [hxl]; decide)⟩
    have g3 : DataW.trod enc Try.prog w base spare held n 3 [c3] = some y3 := by have h_ := hg 3 _ rfl; rw [hy3] at h_; simpa [hc3] using h_
    obtain ⟨v3, K3, G3⟩ := opens_int Try.underlying3 _ _ _ _ _ _ _ _ _ g3
    obtain rfl := (List.cons.inj K3).1
    obtain ⟨y4, hy4⟩ : ∃ y, xs[4]? = some y := ⟨_, List.getElem?_eq_getElem (by rw [hxl]; decide)⟩
    have g4 : DataW.trod enc Try.prog w base spare held n 3 [c4] = some y4 := by have h_ := hg 4 _ rfl; rw [hy4] at h_; simpa [hc3] using h_
    obtain ⟨v4, K4, G4⟩ := opens_int Try.underlying3 _ _ _ _ _ _ _ _ _ g4
    obtain rfl := (List.cons.inj K4).1
    obtain ⟨y5, hy5⟩ : ∃ y, xs[5]? = some y := ⟨_, List.getElem?_eq_getElem (by rw [hxl]; decide)⟩
    have g5 : DataW.trod enc Try.prog w base spare held n 3 [c5] = some y5 := by have h_ := hg 5 _ rfl; rw [hy5] at h_; simpa [hc3] using h_
    obtain ⟨v5, K5, G5⟩ := opens_int Try.underlying3 _ _ _ _ _ _ _ _ _ g5
    obtain rfl := (List.cons.inj K5).1
    obtain ⟨y6, hy6⟩ : ∃ y, xs[6]? = some y := ⟨_, List.getElem?_eq_getElem (by rw [hxl]; decide)⟩
    have g6 : DataW.trod enc Try.prog w base spare held n 3 [c6] = some y6 := by have h_ := hg 6 _ rfl; rw [hy6] at h_; simpa [hc3] using h_
    obtain ⟨v6, K6, G6⟩ := opens_int Try.underlying3 _ _ _ _ _ _ _ _ _ g6
    obtain rfl := (List.cons.inj K6).1
    exact ⟨⟨v0, v1, v2, v3, v4, v5, v6⟩, k23_mk w ⟨v0, v1, v2, v3, v4, v5, v6⟩, G0, G1, G2, G3, G4, G5, G6⟩
def G25 (x : S25) : Prop := (Lit.int .i64 x.f0).wf = true ∧ (Lit.int .i64 x.f1).wf = true
theorem open25 : Opens Try.prog k25 25 G25 := by
  intro H enc w base spare held fuel cs x h
  obtain ⟨xs, n, _, _, hlen, hxl, hg⟩ := DataW.trod_struct Try.underlying25 h
  have hC : Try.prog.cellsOf 25 = 2 := by kernel_rfl
  have hc3 : Try.prog.cellsOf 3 = 1 := by kernel_rfl
  rw [hC] at hlen
  match cs, hlen with
  | [c0, c1], _ =>
    clear hlen h hC
    obtain ⟨y0, hy0⟩ : ∃ y, xs[0]? = some y := ⟨_, List.getElem?_eq_getElem (by rw [hxl]; decide)⟩
    have g0 : DataW.trod enc Try.prog w base spare held n 3 [c0] = some y0 := by have h_ := hg 0 _ rfl; rw [hy0] at h_; simpa [hc3] using h_
    obtain ⟨v0, K0, G0⟩ := opens_int Try.underlying3 _ _ _ _ _ _ _ _ _ g0
    obtain rfl := (List.cons.inj K0).1
    obtain ⟨y1, hy1⟩ : ∃ y, xs[1]? = some y := ⟨_, List.getElem?_eq_getElem (by rw [hxl]; decide)⟩
    have g1 : DataW.trod enc Try.prog w base spare held n 3 [c1] = some y1 := by have h_ := hg 1 _ rfl; rw [hy1] at h_; simpa [hc3] using h_
    obtain ⟨v1, K1, G1⟩ := opens_int Try.underlying3 _ _ _ _ _ _ _ _ _ g1
    obtain rfl := (List.cons.inj K1).1
    exact ⟨⟨v0, v1⟩, k25_mk w ⟨v0, v1⟩, G0, G1⟩
def G34 (x : S34) : Prop := (Lit.int .i64 x.f0).wf = true ∧ (Lit.int .i64 x.f1).wf = true ∧ (Lit.int .i64 x.f2).wf = true
theorem open34 : Opens Try.prog k34 34 G34 := by
  intro H enc w base spare held fuel cs x h
  obtain ⟨xs, n, _, _, hlen, hxl, hg⟩ := DataW.trod_struct Try.underlying34 h
  have hC : Try.prog.cellsOf 34 = 3 := by kernel_rfl
  have hc3 : Try.prog.cellsOf 3 = 1 := by kernel_rfl
  rw [hC] at hlen
  match cs, hlen with
  | [c0, c1, c2], _ =>
    clear hlen h hC
    obtain ⟨y0, hy0⟩ : ∃ y, xs[0]? = some y := ⟨_, List.getElem?_eq_getElem (by rw [hxl]; decide)⟩
    have g0 : DataW.trod enc Try.prog w base spare held n 3 [c0] = some y0 := by have h_ := hg 0 _ rfl; rw [hy0] at h_; simpa [hc3] using h_
    obtain ⟨v0, K0, G0⟩ := opens_int Try.underlying3 _ _ _ _ _ _ _ _ _ g0
    obtain rfl := (List.cons.inj K0).1
    obtain ⟨y1, hy1⟩ : ∃ y, xs[1]? = some y := ⟨_, List.getElem?_eq_getElem (by rw [hxl]; decide)⟩
    have g1 : DataW.trod enc Try.prog w base spare held n 3 [c1] = some y1 := by have h_ := hg 1 _ rfl; rw [hy1] at h_; simpa [hc3] using h_
    obtain ⟨v1, K1, G1⟩ := opens_int Try.underlying3 _ _ _ _ _ _ _ _ _ g1
    obtain rfl := (List.cons.inj K1).1
    obtain ⟨y2, hy2⟩ : ∃ y, xs[2]? = some y := ⟨_, List.getElem?_eq_getElem (by rw [hxl]; decide)⟩
    have g2 : DataW.trod enc Try.prog w base spare held n 3 [c2] = some y2 := by have h_ := hg 2 _ rfl; rw [hy2] at h_; simpa [hc3] using h_
    obtain ⟨v2, K2, G2⟩ := opens_int Try.underlying3 _ _ _ _ _ _ _ _ _ g2
    obtain rfl := (List.cons.inj K2).1
    exact ⟨⟨v0, v1, v2⟩, k34_mk w ⟨v0, v1, v2⟩, G0, G1, G2⟩
end Go.Proofs.Ytnjljajopdpjjaa.PX
