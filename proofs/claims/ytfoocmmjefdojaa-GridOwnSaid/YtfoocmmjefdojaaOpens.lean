/- What comes in: the structs' openers. -/
import Derived.Test.YtfoocmmjefdojaaK0
import Derived.Test.YtfoocmmjefdojaaOpen
import Derived.KernelRfl
namespace Go.Proofs.Ytfoocmmjefdojaa
open Go.RowKit Go.Proofs.YtfoocmmjefdojaaW.PrintWords
set_option linter.unusedVariables false
set_option linter.unusedSimpArgs false

def good_34 (x : K.S34) : Prop := (Lit.int .i64 x.f0).wf = true ∧ (Lit.int .i64 x.f1).wf = true ∧ (Lit.int .i64 x.f2).wf = true
theorem opens_34 : Opens Try.prog 34 K.k34 good_34 := by
  intro H enc w base sp held fuel cs x h
  have hc3 : Try.prog.cellsOf 3 = 1 := by kernel_rfl
  have hct : Try.prog.cellsOf 34 = 3 := by kernel_rfl
  obtain ⟨xs, n, -, -, hl, hxl, hf⟩ := DataW.trod_struct Try.underlying34 h
  rw [hct] at hl
  obtain ⟨y0, hy0⟩ : ∃ y, xs[0]? = some y := ⟨_, List.getElem?_eq_getElem (by rw [hxl]; decide)⟩
  have e0 : DataW.trod enc Try.prog w base sp held n 3 ((cs.drop 0).take (Try.prog.cellsOf 3)) = some y0 := (hf 0 _ rfl).trans hy0
  rw [hc3] at e0
  obtain ⟨a0, k0, g0⟩ := (opens_int Try.underlying3) e0
  obtain ⟨y1, hy1⟩ : ∃ y, xs[1]? = some y := ⟨_, List.getElem?_eq_getElem (by rw [hxl]; decide)⟩
  have e1 : DataW.trod enc Try.prog w base sp held n 3 ((cs.drop 1).take (Try.prog.cellsOf 3)) = some y1 := (hf 1 _ rfl).trans hy1
  rw [hc3] at e1
  obtain ⟨a1, k1, g1⟩ := (opens_int Try.underlying3) e1
  obtain ⟨y2, hy2⟩ : ∃ y, xs[2]? = some y := ⟨_, List.getElem?_eq_getElem (by rw [hxl]; decide)⟩
  have e2 : DataW.trod enc Try.prog w base sp held n 3 ((cs.drop 2).take (Try.prog.cellsOf 3)) = some y2 := (hf 2 _ rfl).trans hy2
  rw [hc3] at e2
  obtain ⟨a2, k2, g2⟩ := (opens_int Try.underlying3) e2
  refine ⟨⟨a0, a1, a2⟩, ?_, g0, g1, g2⟩
  have hk : K.k34.K w ⟨a0, a1, a2⟩ (cs.drop 0) := ⟨(cs.drop 0).take 1, cs.drop 1, part_next 0 1, k0, ⟨(cs.drop 1).take 1, cs.drop 2, part_next 1 1, k1, (show (Kd.int .i64).K w a2 (cs.drop 2) from (part_last (cs := cs) 2 1 hl) ▸ k2)⟩⟩
  rwa [List.drop_zero] at hk

def good_40 (x : K.S40) : Prop := (Lit.int .i64 x.f0).wf = true ∧ (Lit.int .i64 x.f1).wf = true ∧ (Lit.int .i64 x.f2).wf = true ∧ (Lit.int .i64 x.f3).wf = true ∧ (Lit.int .i64 x.f4).wf = true
theorem opens_40 : Opens Try.prog 40 K.k40 good_40 := by
  intro H enc w base sp held fuel cs x h
  have hc3 : Try.prog.cellsOf 3 = 1 := by kernel_rfl
  have hct : Try.prog.cellsOf 40 = 5 := by kernel_rfl
  obtain ⟨xs, n, -, -, hl, hxl, hf⟩ := DataW.trod_struct Try.underlying40 h
  rw [hct] at hl
  obtain ⟨y0, hy0⟩ : ∃ y, xs[0]? = some y := ⟨_, List.getElem?_eq_getElem (by rw [hxl]; decide)⟩
  have e0 : DataW.trod enc Try.prog w base sp held n 3 ((cs.drop 0).take (Try.prog.cellsOf 3)) = some y0 := (hf 0 _ rfl).trans hy0
  rw [hc3] at e0
  obtain ⟨a0, k0, g0⟩ := (opens_int Try.underlying3) e0
  obtain ⟨y1, hy1⟩ : ∃ y, xs[1]? = some y := ⟨_, List.getElem?_eq_getElem (by rw [hxl]; decide)⟩
  have e1 : DataW.trod enc Try.prog w base sp held n 3 ((cs.drop 1).take (Try.prog.cellsOf 3)) = some y1 := (hf 1 _ rfl).trans hy1
  rw [hc3] at e1
  obtain ⟨a1, k1, g1⟩ := (opens_int Try.underlying3) e1
  obtain ⟨y2, hy2⟩ : ∃ y, xs[2]? = some y := ⟨_, List.getElem?_eq_getElem (by rw [hxl]; decide)⟩
  have e2 : DataW.trod enc Try.prog w base sp held n 3 ((cs.drop 2).take (Try.prog.cellsOf 3)) = some y2 := (hf 2 _ rfl).trans hy2
  rw [hc3] at e2
  obtain ⟨a2, k2, g2⟩ := (opens_int Try.underlying3) e2
  obtain ⟨y3, hy3⟩ : ∃ y, xs[3]? = some y := ⟨_, List.getElem?_eq_getElem (by rw [hxl]; decide)⟩
  have e3 : DataW.trod enc Try.prog w base sp held n 3 ((cs.drop 3).take (Try.prog.cellsOf 3)) = some y3 := (hf 3 _ rfl).trans hy3
  rw [hc3] at e3
  obtain ⟨a3, k3, g3⟩ := (opens_int Try.underlying3) e3
  obtain ⟨y4, hy4⟩ : ∃ y, xs[4]? = some y := ⟨_, List.getElem?_eq_getElem (by rw [hxl]; decide)⟩
  have e4 : DataW.trod enc Try.prog w base sp held n 3 ((cs.drop 4).take (Try.prog.cellsOf 3)) = some y4 := (hf 4 _ rfl).trans hy4
  rw [hc3] at e4
  obtain ⟨a4, k4, g4⟩ := (opens_int Try.underlying3) e4
  refine ⟨⟨a0, a1, a2, a3, a4⟩, ?_, g0, g1, g2, g3, g4⟩
  have hk : K.k40.K w ⟨a0, a1, a2, a3, a4⟩ (cs.drop 0) := ⟨(cs.drop 0).take 1, cs.drop 1, part_next 0 1, k0, ⟨(cs.drop 1).take 1, cs.drop 2, part_next 1 1, k1, ⟨(cs.drop 2).take 1, cs.drop 3, part_next 2 1, k2, ⟨(cs.drop 3).take 1, cs.drop 4, part_next 3 1, k3, (show (Kd.int .i64).K w a4 (cs.drop 4) from (part_last (cs := cs) 4 1 hl) ▸ k4)⟩⟩⟩⟩
  rwa [List.drop_zero] at hk

def good_58 (x : K.S58) : Prop := (Lit.int .i64 x.f0).wf = true ∧ (Lit.int .i64 x.f1).wf = true
theorem opens_58 : Opens Try.prog 58 K.k58 good_58 := by
  intro H enc w base sp held fuel cs x h
  have hc2 : Try.prog.cellsOf 2 = 1 := by kernel_rfl
  have hc3 : Try.prog.cellsOf 3 = 1 := by kernel_rfl
  have hct : Try.prog.cellsOf 58 = 2 := by kernel_rfl
  obtain ⟨xs, n, -, -, hl, hxl, hf⟩ := DataW.trod_struct Try.underlying58 h
  rw [hct] at hl
  obtain ⟨y0, hy0⟩ : ∃ y, xs[0]? = some y := ⟨_, List.getElem?_eq_getElem (by rw [hxl]; decide)⟩
  have e0 : DataW.trod enc Try.prog w base sp held n 3 ((cs.drop 0).take (Try.prog.cellsOf 3)) = some y0 := (hf 0 _ rfl).trans hy0
  rw [hc3] at e0
  obtain ⟨a0, k0, g0⟩ := (opens_int Try.underlying3) e0
  obtain ⟨y1, hy1⟩ : ∃ y, xs[1]? = some y := ⟨_, List.getElem?_eq_getElem (by rw [hxl]; decide)⟩
  have e1 : DataW.trod enc Try.prog w base sp held n 2 ((cs.drop 1).take (Try.prog.cellsOf 2)) = some y1 := (hf 1 _ rfl).trans hy1
  rw [hc2] at e1
  obtain ⟨a1, k1, g1⟩ := (opens_int Try.underlying2) e1
  refine ⟨⟨a0, a1⟩, ?_, g0, g1⟩
  have hk : K.k58.K w ⟨a0, a1⟩ (cs.drop 0) := ⟨(cs.drop 0).take 1, cs.drop 1, part_next 0 1, k0, (show (Kd.int .i64).K w a1 (cs.drop 1) from (part_last (cs := cs) 1 1 hl) ▸ k1)⟩
  rwa [List.drop_zero] at hk

def good_60 (x : K.S60) : Prop := good_40 x.f0 ∧ (Lit.int .i64 x.f1).wf = true ∧ (Lit.int .i64 x.f2).wf = true ∧ good_58 x.f3
theorem opens_60 : Opens Try.prog 60 K.k60 good_60 := by
  intro H enc w base sp held fuel cs x h
  have hc2 : Try.prog.cellsOf 2 = 1 := by kernel_rfl
  have hc40 : Try.prog.cellsOf 40 = 5 := by kernel_rfl
  have hc58 : Try.prog.cellsOf 58 = 2 := by kernel_rfl
  have hct : Try.prog.cellsOf 60 = 9 := by kernel_rfl
  obtain ⟨xs, n, -, -, hl, hxl, hf⟩ := DataW.trod_struct Try.underlying60 h
  rw [hct] at hl
  obtain ⟨y0, hy0⟩ : ∃ y, xs[0]? = some y := ⟨_, List.getElem?_eq_getElem (by rw [hxl]; decide)⟩
  have e0 : DataW.trod enc Try.prog w base sp held n 40 ((cs.drop 0).take (Try.prog.cellsOf 40)) = some y0 := (hf 0 _ rfl).trans hy0
  rw [hc40] at e0
  obtain ⟨a0, k0, g0⟩ := opens_40 e0
  obtain ⟨y1, hy1⟩ : ∃ y, xs[1]? = some y := ⟨_, List.getElem?_eq_getElem (by rw [hxl]; decide)⟩
  have e1 : DataW.trod enc Try.prog w base sp held n 2 ((cs.drop 5).take (Try.prog.cellsOf 2)) = some y1 := (hf 1 _ rfl).trans hy1
  rw [hc2] at e1
  obtain ⟨a1, k1, g1⟩ := (opens_int Try.underlying2) e1
  obtain ⟨y2, hy2⟩ : ∃ y, xs[2]? = some y := ⟨_, List.getElem?_eq_getElem (by rw [hxl]; decide)⟩
  have e2 : DataW.trod enc Try.prog w base sp held n 2 ((cs.drop 6).take (Try.prog.cellsOf 2)) = some y2 := (hf 2 _ rfl).trans hy2
  rw [hc2] at e2
  obtain ⟨a2, k2, g2⟩ := (opens_int Try.underlying2) e2
  obtain ⟨y3, hy3⟩ : ∃ y, xs[3]? = some y := ⟨_, List.getElem?_eq_getElem (by rw [hxl]; decide)⟩
  have e3 : DataW.trod enc Try.prog w base sp held n 58 ((cs.drop 7).take (Try.prog.cellsOf 58)) = some y3 := (hf 3 _ rfl).trans hy3
  rw [hc58] at e3
  obtain ⟨a3, k3, g3⟩ := opens_58 e3
  refine ⟨⟨a0, a1, a2, a3⟩, ?_, g0, g1, g2, g3⟩
  have hk : K.k60.K w ⟨a0, a1, a2, a3⟩ (cs.drop 0) := ⟨(cs.drop 0).take 5, cs.drop 5, part_next 0 5, k0, ⟨(cs.drop 5).take 1, cs.drop 6, part_next 5 1, k1, ⟨(cs.drop 6).take 1, cs.drop 7, part_next 6 1, k2, (show K.k58.K w a3 (cs.drop 7) from (part_last (cs := cs) 7 2 hl) ▸ k3)⟩⟩⟩
  rwa [List.drop_zero] at hk

def good_62 (x : K.S62) : Prop := (Lit.int .i64 x.f0).wf = true ∧ (Lit.int .i64 x.f1).wf = true ∧ (Lit.int .i64 x.f2).wf = true ∧ (Lit.int .i64 x.f3).wf = true
theorem opens_62 : Opens Try.prog 62 K.k62 good_62 := by
  intro H enc w base sp held fuel cs x h
  have hc2 : Try.prog.cellsOf 2 = 1 := by kernel_rfl
  have hct : Try.prog.cellsOf 62 = 4 := by kernel_rfl
  obtain ⟨xs, n, -, -, hl, hxl, hf⟩ := DataW.trod_struct Try.underlying62 h
  rw [hct] at hl
  obtain ⟨y0, hy0⟩ : ∃ y, xs[0]? = some y := ⟨_, List.getElem?_eq_getElem (by rw [hxl]; decide)⟩
  have e0 : DataW.trod enc Try.prog w base sp held n 2 ((cs.drop 0).take (Try.prog.cellsOf 2)) = some y0 := (hf 0 _ rfl).trans hy0
  rw [hc2] at e0
  obtain ⟨a0, k0, g0⟩ := (opens_int Try.underlying2) e0
  obtain ⟨y1, hy1⟩ : ∃ y, xs[1]? = some y := ⟨_, List.getElem?_eq_getElem (by rw [hxl]; decide)⟩
  have e1 : DataW.trod enc Try.prog w base sp held n 2 ((cs.drop 1).take (Try.prog.cellsOf 2)) = some y1 := (hf 1 _ rfl).trans hy1
  rw [hc2] at e1
  obtain ⟨a1, k1, g1⟩ := (opens_int Try.underlying2) e1
  obtain ⟨y2, hy2⟩ : ∃ y, xs[2]? = some y := ⟨_, List.getElem?_eq_getElem (by rw [hxl]; decide)⟩
  have e2 : DataW.trod enc Try.prog w base sp held n 2 ((cs.drop 2).take (Try.prog.cellsOf 2)) = some y2 := (hf 2 _ rfl).trans hy2
  rw [hc2] at e2
  obtain ⟨a2, k2, g2⟩ := (opens_int Try.underlying2) e2
  obtain ⟨y3, hy3⟩ : ∃ y, xs[3]? = some y := ⟨_, List.getElem?_eq_getElem (by rw [hxl]; decide)⟩
  have e3 : DataW.trod enc Try.prog w base sp held n 2 ((cs.drop 3).take (Try.prog.cellsOf 2)) = some y3 := (hf 3 _ rfl).trans hy3
  rw [hc2] at e3
  obtain ⟨a3, k3, g3⟩ := (opens_int Try.underlying2) e3
  refine ⟨⟨a0, a1, a2, a3⟩, ?_, g0, g1, g2, g3⟩
  have hk : K.k62.K w ⟨a0, a1, a2, a3⟩ (cs.drop 0) := ⟨(cs.drop 0).take 1, cs.drop 1, part_next 0 1, k0, ⟨(cs.drop 1).take 1, cs.drop 2, part_next 1 1, k1, ⟨(cs.drop 2).take 1, cs.drop 3, part_next 2 1, k2, (show (Kd.int .i64).K w a3 (cs.drop 3) from (part_last (cs := cs) 3 1 hl) ▸ k3)⟩⟩⟩
  rwa [List.drop_zero] at hk

end Go.Proofs.Ytfoocmmjefdojaa
