/- What comes in: the structs' openers. -/
import Derived.Test.YtjhpkikgajgdmaaK0
import Derived.Test.YtjhpkikgajgdmaaOpen
import Derived.KernelRfl
namespace Go.Proofs.Ytjhpkikgajgdmaa
open Go.RowKit Go.Proofs.YtjhpkikgajgdmaaW.PrintWords
set_option linter.unusedVariables false
set_option linter.unusedSimpArgs false

def good_32 (x : K.S32) : Prop := (Lit.int .i64 x.f0).wf = true ∧ (Lit.int .i64 x.f1).wf = true
set_option maxRecDepth 100000 in
theorem opens_32 : Opens Try.prog 32 K.k32 good_32 := by
  intro H enc w base sp held fuel cs x h
  have hc2 : Try.prog.cellsOf 2 = 1 := by kernel_rfl
  have hc3 : Try.prog.cellsOf 3 = 1 := by kernel_rfl
  have hct : Try.prog.cellsOf 32 = 2 := by kernel_rfl
  obtain ⟨xs, n, -, -, hl, hxl, hf⟩ := DataW.trod_struct Try.underlying32 h
  rw [hct] at hl
  obtain ⟨y0, hy0⟩ : ∃ y, xs[0]? = some y := ⟨_, List.getElem?_eq_getElem (by rw [hxl]; decide)⟩
  have e0 : DataW.trod enc Try.prog w base sp held n 3 ((cs.drop 0).take (Try.prog.cellsOf 3)) = some y0 := (hf 0 _ rfl).trans hy0
  rw [hc3] at e0
  obtain ⟨a0, k0, g0⟩ := (opens_int Try.underlying3) e0
  obtain ⟨y1, hy1⟩ : ∃ y, xs[1]? = some y := ⟨_, List.getElem?_eq_getElem (by rw [hxl]; decide)⟩
  have e1 : DataW.trod enc Try.prog w base sp held n 2 ((cs.drop 1).take (Try.prog.cellsOf 2)) = some y1 := (hf 1 _ rfl).trans hy1
  rw [hc2] at e1
  obtain ⟨a1, k1, g1⟩ := (opens_int Try.underlying2) e1
  refine ⟨⟨a0, a1⟩, ?_, g0, g1⟩
  have hk : K.k32.K w ⟨a0, a1⟩ (cs.drop 0) := ⟨(cs.drop 0).take 1, cs.drop 1, part_next 0 1, k0, (show (Kd.int .i64).K w a1 (cs.drop 1) from (part_last (cs := cs) 1 1 hl) ▸ k1)⟩
  rwa [List.drop_zero] at hk

def good_33 (x : K.S33) : Prop := (Lit.int .i64 x.f0).wf = true ∧ (Lit.int .i64 x.f1).wf = true ∧ (Lit.int .i64 x.f2).wf = true ∧ (Lit.int .i64 x.f3).wf = true
set_option maxRecDepth 100000 in
theorem opens_33 : Opens Try.prog 33 K.k33 good_33 := by
  intro H enc w base sp held fuel cs x h
  have hc2 : Try.prog.cellsOf 2 = 1 := by kernel_rfl
  have hct : Try.prog.cellsOf 33 = 4 := by kernel_rfl
  obtain ⟨xs, n, -, -, hl, hxl, hf⟩ := DataW.trod_array Try.underlying33 h
  rw [hct] at hl
  obtain ⟨y0, hy0⟩ : ∃ y, xs[0]? = some y := ⟨_, List.getElem?_eq_getElem (by rw [hxl]; decide)⟩
  have e0 : DataW.trod enc Try.prog w base sp held n 2 ((cs.drop 0).take (Try.prog.cellsOf 2)) = some y0 := by have := (hf 0 (by decide)).trans hy0; rwa [show 0 * Try.prog.cellsOf 2 = 0 by rw [hc2]] at this
  rw [hc2] at e0
  obtain ⟨a0, k0, g0⟩ := (opens_int Try.underlying2) e0
  obtain ⟨y1, hy1⟩ : ∃ y, xs[1]? = some y := ⟨_, List.getElem?_eq_getElem (by rw [hxl]; decide)⟩
  have e1 : DataW.trod enc Try.prog w base sp held n 2 ((cs.drop 1).take (Try.prog.cellsOf 2)) = some y1 := by have := (hf 1 (by decide)).trans hy1; rwa [show 1 * Try.prog.cellsOf 2 = 1 by rw [hc2]] at this
  rw [hc2] at e1
  obtain ⟨a1, k1, g1⟩ := (opens_int Try.underlying2) e1
  obtain ⟨y2, hy2⟩ : ∃ y, xs[2]? = some y := ⟨_, List.getElem?_eq_getElem (by rw [hxl]; decide)⟩
  have e2 : DataW.trod enc Try.prog w base sp held n 2 ((cs.drop 2).take (Try.prog.cellsOf 2)) = some y2 := by have := (hf 2 (by decide)).trans hy2; rwa [show 2 * Try.prog.cellsOf 2 = 2 by rw [hc2]] at this
  rw [hc2] at e2
  obtain ⟨a2, k2, g2⟩ := (opens_int Try.underlying2) e2
  obtain ⟨y3, hy3⟩ : ∃ y, xs[3]? = some y := ⟨_, List.getElem?_eq_getElem (by rw [hxl]; decide)⟩
  have e3 : DataW.trod enc Try.prog w base sp held n 2 ((cs.drop 3).take (Try.prog.cellsOf 2)) = some y3 := by have := (hf 3 (by decide)).trans hy3; rwa [show 3 * Try.prog.cellsOf 2 = 3 by rw [hc2]] at this
  rw [hc2] at e3
  obtain ⟨a3, k3, g3⟩ := (opens_int Try.underlying2) e3
  refine ⟨⟨a0, a1, a2, a3⟩, ?_, g0, g1, g2, g3⟩
  have hk : K.k33.K w ⟨a0, a1, a2, a3⟩ (cs.drop 0) := ⟨(cs.drop 0).take 1, cs.drop 1, part_next 0 1, k0, ⟨(cs.drop 1).take 1, cs.drop 2, part_next 1 1, k1, ⟨(cs.drop 2).take 1, cs.drop 3, part_next 2 1, k2, (show (Kd.int .i64).K w a3 (cs.drop 3) from (part_last (cs := cs) 3 1 hl) ▸ k3)⟩⟩⟩
  rwa [List.drop_zero] at hk

def good_36 (x : K.S36) : Prop := (Lit.int .i64 x.f0).wf = true ∧ (Lit.int .i64 x.f1).wf = true ∧ (Lit.int .u32 x.f2).wf = true
set_option maxRecDepth 100000 in
theorem opens_36 : Opens Try.prog 36 K.k36 good_36 := by
  intro H enc w base sp held fuel cs x h
  have hc2 : Try.prog.cellsOf 2 = 1 := by kernel_rfl
  have hc3 : Try.prog.cellsOf 3 = 1 := by kernel_rfl
  have hc34 : Try.prog.cellsOf 34 = 1 := by kernel_rfl
  have hct : Try.prog.cellsOf 36 = 3 := by kernel_rfl
  obtain ⟨xs, n, -, -, hl, hxl, hf⟩ := DataW.trod_struct Try.underlying36 h
  rw [hct] at hl
  obtain ⟨y0, hy0⟩ : ∃ y, xs[0]? = some y := ⟨_, List.getElem?_eq_getElem (by rw [hxl]; decide)⟩
  have e0 : DataW.trod enc Try.prog w base sp held n 3 ((cs.drop 0).take (Try.prog.cellsOf 3)) = some y0 := (hf 0 _ rfl).trans hy0
  rw [hc3] at e0
  obtain ⟨a0, k0, g0⟩ := (opens_int Try.underlying3) e0
  obtain ⟨y1, hy1⟩ : ∃ y, xs[1]? = some y := ⟨_, List.getElem?_eq_getElem (by rw [hxl]; decide)⟩
  have e1 : DataW.trod enc Try.prog w base sp held n 2 ((cs.drop 1).take (Try.prog.cellsOf 2)) = some y1 := (hf 1 _ rfl).trans hy1
  rw [hc2] at e1
  obtain ⟨a1, k1, g1⟩ := (opens_int Try.underlying2) e1
  obtain ⟨y2, hy2⟩ : ∃ y, xs[2]? = some y := ⟨_, List.getElem?_eq_getElem (by rw [hxl]; decide)⟩
  have e2 : DataW.trod enc Try.prog w base sp held n 34 ((cs.drop 2).take (Try.prog.cellsOf 34)) = some y2 := (hf 2 _ rfl).trans hy2
  rw [hc34] at e2
  obtain ⟨a2, k2, g2⟩ := (opens_int Try.underlying34) e2
  refine ⟨⟨a0, a1, a2⟩, ?_, g0, g1, g2⟩
  have hk : K.k36.K w ⟨a0, a1, a2⟩ (cs.drop 0) := ⟨(cs.drop 0).take 1, cs.drop 1, part_next 0 1, k0, ⟨(cs.drop 1).take 1, cs.drop 2, part_next 1 1, k1, (show (Kd.int .u32).K w a2 (cs.drop 2) from (part_last (cs := cs) 2 1 hl) ▸ k2)⟩⟩
  rwa [List.drop_zero] at hk

def good_37 (x : K.S37) : Prop := good_36 x.f0 ∧ good_36 x.f1 ∧ good_36 x.f2 ∧ good_36 x.f3
set_option maxRecDepth 100000 in
theorem opens_37 : Opens Try.prog 37 K.k37 good_37 := by
  intro H enc w base sp held fuel cs x h
  have hc36 : Try.prog.cellsOf 36 = 3 := by kernel_rfl
  have hct : Try.prog.cellsOf 37 = 12 := by kernel_rfl
  obtain ⟨xs, n, -, -, hl, hxl, hf⟩ := DataW.trod_array Try.underlying37 h
  rw [hct] at hl
  obtain ⟨y0, hy0⟩ : ∃ y, xs[0]? = some y := ⟨_, List.getElem?_eq_getElem (by rw [hxl]; decide)⟩
  have e0 : DataW.trod enc Try.prog w base sp held n 36 ((cs.drop 0).take (Try.prog.cellsOf 36)) = some y0 := by have := (hf 0 (by decide)).trans hy0; rwa [show 0 * Try.prog.cellsOf 36 = 0 by rw [hc36]] at this
  rw [hc36] at e0
  obtain ⟨a0, k0, g0⟩ := opens_36 e0
  obtain ⟨y1, hy1⟩ : ∃ y, xs[1]? = some y := ⟨_, List.getElem?_eq_getElem (by rw [hxl]; decide)⟩
  have e1 : DataW.trod enc Try.prog w base sp held n 36 ((cs.drop 3).take (Try.prog.cellsOf 36)) = some y1 := by have := (hf 1 (by decide)).trans hy1; rwa [show 1 * Try.prog.cellsOf 36 = 3 by rw [hc36]] at this
  rw [hc36] at e1
  obtain ⟨a1, k1, g1⟩ := opens_36 e1
  obtain ⟨y2, hy2⟩ : ∃ y, xs[2]? = some y := ⟨_, List.getElem?_eq_getElem (by rw [hxl]; decide)⟩
  have e2 : DataW.trod enc Try.prog w base sp held n 36 ((cs.drop 6).take (Try.prog.cellsOf 36)) = some y2 := by have := (hf 2 (by decide)).trans hy2; rwa [show 2 * Try.prog.cellsOf 36 = 6 by rw [hc36]] at this
  rw [hc36] at e2
  obtain ⟨a2, k2, g2⟩ := opens_36 e2
  obtain ⟨y3, hy3⟩ : ∃ y, xs[3]? = some y := ⟨_, List.getElem?_eq_getElem (by rw [hxl]; decide)⟩
  have e3 : DataW.trod enc Try.prog w base sp held n 36 ((cs.drop 9).take (Try.prog.cellsOf 36)) = some y3 := by have := (hf 3 (by decide)).trans hy3; rwa [show 3 * Try.prog.cellsOf 36 = 9 by rw [hc36]] at this
  rw [hc36] at e3
  obtain ⟨a3, k3, g3⟩ := opens_36 e3
  refine ⟨⟨a0, a1, a2, a3⟩, ?_, g0, g1, g2, g3⟩
  have hk : K.k37.K w ⟨a0, a1, a2, a3⟩ (cs.drop 0) := ⟨(cs.drop 0).take 3, cs.drop 3, part_next 0 3, k0, ⟨(cs.drop 3).take 3, cs.drop 6, part_next 3 3, k1, ⟨(cs.drop 6).take 3, cs.drop 9, part_next 6 3, k2, (show K.k36.K w a3 (cs.drop 9) from (part_last (cs := cs) 9 3 hl) ▸ k3)⟩⟩⟩
  rwa [List.drop_zero] at hk

def good_38 (x : K.S38) : Prop := (Lit.int .i64 x.f0).wf = true ∧ (Lit.int .i64 x.f1).wf = true
set_option maxRecDepth 100000 in
theorem opens_38 : Opens Try.prog 38 K.k38 good_38 := by
  intro H enc w base sp held fuel cs x h
  have hc2 : Try.prog.cellsOf 2 = 1 := by kernel_rfl
  have hct : Try.prog.cellsOf 38 = 2 := by kernel_rfl
  obtain ⟨xs, n, -, -, hl, hxl, hf⟩ := DataW.trod_array Try.underlying38 h
  rw [hct] at hl
  obtain ⟨y0, hy0⟩ : ∃ y, xs[0]? = some y := ⟨_, List.getElem?_eq_getElem (by rw [hxl]; decide)⟩
  have e0 : DataW.trod enc Try.prog w base sp held n 2 ((cs.drop 0).take (Try.prog.cellsOf 2)) = some y0 := by have := (hf 0 (by decide)).trans hy0; rwa [show 0 * Try.prog.cellsOf 2 = 0 by rw [hc2]] at this
  rw [hc2] at e0
  obtain ⟨a0, k0, g0⟩ := (opens_int Try.underlying2) e0
  obtain ⟨y1, hy1⟩ : ∃ y, xs[1]? = some y := ⟨_, List.getElem?_eq_getElem (by rw [hxl]; decide)⟩
  have e1 : DataW.trod enc Try.prog w base sp held n 2 ((cs.drop 1).take (Try.prog.cellsOf 2)) = some y1 := by have := (hf 1 (by decide)).trans hy1; rwa [show 1 * Try.prog.cellsOf 2 = 1 by rw [hc2]] at this
  rw [hc2] at e1
  obtain ⟨a1, k1, g1⟩ := (opens_int Try.underlying2) e1
  refine ⟨⟨a0, a1⟩, ?_, g0, g1⟩
  have hk : K.k38.K w ⟨a0, a1⟩ (cs.drop 0) := ⟨(cs.drop 0).take 1, cs.drop 1, part_next 0 1, k0, (show (Kd.int .i64).K w a1 (cs.drop 1) from (part_last (cs := cs) 1 1 hl) ▸ k1)⟩
  rwa [List.drop_zero] at hk

def good_40 (x : K.S40) : Prop := good_32 x.f0 ∧ good_32 x.f1 ∧ good_33 x.f2 ∧ good_37 x.f3 ∧ (Lit.int .i64 x.f4).wf = true ∧ (Lit.int .i64 x.f5).wf = true ∧ (Lit.int .i64 x.f6).wf = true ∧ True ∧ True ∧ good_38 x.f9 ∧ True ∧ True
set_option maxRecDepth 100000 in
theorem opens_40 : Opens Try.prog 40 K.k40 good_40 := by
  intro H enc w base sp held fuel cs x h
  have hc3 : Try.prog.cellsOf 3 = 1 := by kernel_rfl
  have hc4 : Try.prog.cellsOf 4 = 1 := by kernel_rfl
  have hc32 : Try.prog.cellsOf 32 = 2 := by kernel_rfl
  have hc33 : Try.prog.cellsOf 33 = 4 := by kernel_rfl
  have hc37 : Try.prog.cellsOf 37 = 12 := by kernel_rfl
  have hc38 : Try.prog.cellsOf 38 = 2 := by kernel_rfl
  have hct : Try.prog.cellsOf 40 = 29 := by kernel_rfl
  obtain ⟨xs, n, -, -, hl, hxl, hf⟩ := DataW.trod_struct Try.underlying40 h
  rw [hct] at hl
  obtain ⟨y0, hy0⟩ : ∃ y, xs[0]? = some y := ⟨_, List.getElem?_eq_getElem (by rw [hxl]; decide)⟩
  have e0 : DataW.trod enc Try.prog w base sp held n 32 ((cs.drop 0).take (Try.prog.cellsOf 32)) = some y0 := (hf 0 _ rfl).trans hy0
  rw [hc32] at e0
  obtain ⟨a0, k0, g0⟩ := opens_32 e0
  obtain ⟨y1, hy1⟩ : ∃ y, xs[1]? = some y := ⟨_, List.getElem?_eq_getElem (by rw [hxl]; decide)⟩
  have e1 : DataW.trod enc Try.prog w base sp held n 32 ((cs.drop 2).take (Try.prog.cellsOf 32)) = some y1 := (hf 1 _ rfl).trans hy1
  rw [hc32] at e1
  obtain ⟨a1, k1, g1⟩ := opens_32 e1
  obtain ⟨y2, hy2⟩ : ∃ y, xs[2]? = some y := ⟨_, List.getElem?_eq_getElem (by rw [hxl]; decide)⟩
  have e2 : DataW.trod enc Try.prog w base sp held n 33 ((cs.drop 4).take (Try.prog.cellsOf 33)) = some y2 := (hf 2 _ rfl).trans hy2
  rw [hc33] at e2
  obtain ⟨a2, k2, g2⟩ := opens_33 e2
  obtain ⟨y3, hy3⟩ : ∃ y, xs[3]? = some y := ⟨_, List.getElem?_eq_getElem (by rw [hxl]; decide)⟩
  have e3 : DataW.trod enc Try.prog w base sp held n 37 ((cs.drop 8).take (Try.prog.cellsOf 37)) = some y3 := (hf 3 _ rfl).trans hy3
  rw [hc37] at e3
  obtain ⟨a3, k3, g3⟩ := opens_37 e3
  obtain ⟨y4, hy4⟩ : ∃ y, xs[4]? = some y := ⟨_, List.getElem?_eq_getElem (by rw [hxl]; decide)⟩
  have e4 : DataW.trod enc Try.prog w base sp held n 3 ((cs.drop 20).take (Try.prog.cellsOf 3)) = some y4 := (hf 4 _ rfl).trans hy4
  rw [hc3] at e4
  obtain ⟨a4, k4, g4⟩ := (opens_int Try.underlying3) e4
  obtain ⟨y5, hy5⟩ : ∃ y, xs[5]? = some y := ⟨_, List.getElem?_eq_getElem (by rw [hxl]; decide)⟩
  have e5 : DataW.trod enc Try.prog w base sp held n 3 ((cs.drop 21).take (Try.prog.cellsOf 3)) = some y5 := (hf 5 _ rfl).trans hy5
  rw [hc3] at e5
  obtain ⟨a5, k5, g5⟩ := (opens_int Try.underlying3) e5
  obtain ⟨y6, hy6⟩ : ∃ y, xs[6]? = some y := ⟨_, List.getElem?_eq_getElem (by rw [hxl]; decide)⟩
  have e6 : DataW.trod enc Try.prog w base sp held n 3 ((cs.drop 22).take (Try.prog.cellsOf 3)) = some y6 := (hf 6 _ rfl).trans hy6
  rw [hc3] at e6
  obtain ⟨a6, k6, g6⟩ := (opens_int Try.underlying3) e6
  obtain ⟨y7, hy7⟩ : ∃ y, xs[7]? = some y := ⟨_, List.getElem?_eq_getElem (by rw [hxl]; decide)⟩
  have e7 : DataW.trod enc Try.prog w base sp held n 4 ((cs.drop 23).take (Try.prog.cellsOf 4)) = some y7 := (hf 7 _ rfl).trans hy7
  rw [hc4] at e7
  obtain ⟨a7, k7, g7⟩ := (opens_bool Try.underlying4) e7
  obtain ⟨y8, hy8⟩ : ∃ y, xs[8]? = some y := ⟨_, List.getElem?_eq_getElem (by rw [hxl]; decide)⟩
  have e8 : DataW.trod enc Try.prog w base sp held n 4 ((cs.drop 24).take (Try.prog.cellsOf 4)) = some y8 := (hf 8 _ rfl).trans hy8
  rw [hc4] at e8
  obtain ⟨a8, k8, g8⟩ := (opens_bool Try.underlying4) e8
  obtain ⟨y9, hy9⟩ : ∃ y, xs[9]? = some y := ⟨_, List.getElem?_eq_getElem (by rw [hxl]; decide)⟩
  have e9 : DataW.trod enc Try.prog w base sp held n 38 ((cs.drop 25).take (Try.prog.cellsOf 38)) = some y9 := (hf 9 _ rfl).trans hy9
  rw [hc38] at e9
  obtain ⟨a9, k9, g9⟩ := opens_38 e9
  obtain ⟨y10, hy10⟩ : ∃ y, xs[10]? = some y := ⟨_, List.getElem?_eq_getElem (by rw [hxl]; decide)⟩
  have e10 : DataW.trod enc Try.prog w base sp held n 4 ((cs.drop 27).take (Try.prog.cellsOf 4)) = some y10 := (hf 10 _ rfl).trans hy10
  rw [hc4] at e10
  obtain ⟨a10, k10, g10⟩ := (opens_bool Try.underlying4) e10
  obtain ⟨y11, hy11⟩ : ∃ y, xs[11]? = some y := ⟨_, List.getElem?_eq_getElem (by rw [hxl]; decide)⟩
  have e11 : DataW.trod enc Try.prog w base sp held n 4 ((cs.drop 28).take (Try.prog.cellsOf 4)) = some y11 := (hf 11 _ rfl).trans hy11
  rw [hc4] at e11
  obtain ⟨a11, k11, g11⟩ := (opens_bool Try.underlying4) e11
  refine ⟨⟨a0, a1, a2, a3, a4, a5, a6, a7, a8, a9, a10, a11⟩, ?_, g0, g1, g2, g3, g4, g5, g6, g7, g8, g9, g10, g11⟩
  have hk : K.k40.K w ⟨a0, a1, a2, a3, a4, a5, a6, a7, a8, a9, a10, a11⟩ (cs.drop 0) := ⟨(cs.drop 0).take 2, cs.drop 2, part_next 0 2, k0, ⟨(cs.drop 2).take 2, cs.drop 4, part_next 2 2, k1, ⟨(cs.drop 4).take 4, cs.drop 8, part_next 4 4, k2, ⟨(cs.drop 8).take 12, cs.drop 20, part_next 8 12, k3, ⟨(cs.drop 20).take 1, cs.drop 21, part_next 20 1, k4, ⟨(cs.drop 21).take 1, cs.drop 22, part_next 21 1, k5, ⟨(cs.drop 22).take 1, cs.drop 23, part_next 22 1, k6, ⟨(cs.drop 23).take 1, cs.drop 24, part_next 23 1, k7, ⟨(cs.drop 24).take 1, cs.drop 25, part_next 24 1, k8, ⟨(cs.drop 25).take 2, cs.drop 27, part_next 25 2, k9, ⟨(cs.drop 27).take 1, cs.drop 28, part_next 27 1, k10, (show Kd.bool.K w a11 (cs.drop 28) from (part_last (cs := cs) 28 1 hl) ▸ k11)⟩⟩⟩⟩⟩⟩⟩⟩⟩⟩⟩
  rwa [List.drop_zero] at hk

def good_43 (x : K.S43) : Prop := (Lit.int .i64 x.f0).wf = true ∧ (∀ y ∈ x.f1, (Lit.int .i64 y).wf = true) ∧ good_40 x.f2 ∧ (∀ y ∈ x.f3, (Lit.int .i64 y).wf = true) ∧ (Lit.int .i64 x.f4).wf = true ∧ (Lit.int .i64 x.f5).wf = true
set_option maxRecDepth 100000 in
theorem opens_43 : Opens Try.prog 43 K.k43 good_43 := by
  intro H enc w base sp held fuel cs x h
  have hc2 : Try.prog.cellsOf 2 = 1 := by kernel_rfl
  have hc3 : Try.prog.cellsOf 3 = 1 := by kernel_rfl
  have hc30 : Try.prog.cellsOf 30 = 1 := by kernel_rfl
  have hc40 : Try.prog.cellsOf 40 = 29 := by kernel_rfl
  have hc41 : Try.prog.cellsOf 41 = 1 := by kernel_rfl
  have hct : Try.prog.cellsOf 43 = 34 := by kernel_rfl
  obtain ⟨xs, n, -, -, hl, hxl, hf⟩ := DataW.trod_struct Try.underlying43 h
  rw [hct] at hl
  obtain ⟨y0, hy0⟩ : ∃ y, xs[0]? = some y := ⟨_, List.getElem?_eq_getElem (by rw [hxl]; decide)⟩
  have e0 : DataW.trod enc Try.prog w base sp held n 3 ((cs.drop 0).take (Try.prog.cellsOf 3)) = some y0 := (hf 0 _ rfl).trans hy0
  rw [hc3] at e0
  obtain ⟨a0, k0, g0⟩ := (opens_int Try.underlying3) e0
  obtain ⟨y1, hy1⟩ : ∃ y, xs[1]? = some y := ⟨_, List.getElem?_eq_getElem (by rw [hxl]; decide)⟩
  have e1 : DataW.trod enc Try.prog w base sp held n 30 ((cs.drop 1).take (Try.prog.cellsOf 30)) = some y1 := (hf 1 _ rfl).trans hy1
  rw [hc30] at e1
  obtain ⟨a1, k1, g1⟩ := (opens_slice Try.underlying30 (by kernel_rfl) (opens_int Try.underlying3)) e1
  obtain ⟨y2, hy2⟩ : ∃ y, xs[2]? = some y := ⟨_, List.getElem?_eq_getElem (by rw [hxl]; decide)⟩
  have e2 : DataW.trod enc Try.prog w base sp held n 40 ((cs.drop 2).take (Try.prog.cellsOf 40)) = some y2 := (hf 2 _ rfl).trans hy2
  rw [hc40] at e2
  obtain ⟨a2, k2, g2⟩ := opens_40 e2
  obtain ⟨y3, hy3⟩ : ∃ y, xs[3]? = some y := ⟨_, List.getElem?_eq_getElem (by rw [hxl]; decide)⟩
  have e3 : DataW.trod enc Try.prog w base sp held n 41 ((cs.drop 31).take (Try.prog.cellsOf 41)) = some y3 := (hf 3 _ rfl).trans hy3
  rw [hc41] at e3
  obtain ⟨a3, k3, g3⟩ := (opens_slice Try.underlying41 (by kernel_rfl) (opens_int Try.underlying2)) e3
  obtain ⟨y4, hy4⟩ : ∃ y, xs[4]? = some y := ⟨_, List.getElem?_eq_getElem (by rw [hxl]; decide)⟩
  have e4 : DataW.trod enc Try.prog w base sp held n 2 ((cs.drop 32).take (Try.prog.cellsOf 2)) = some y4 := (hf 4 _ rfl).trans hy4
  rw [hc2] at e4
  obtain ⟨a4, k4, g4⟩ := (opens_int Try.underlying2) e4
  obtain ⟨y5, hy5⟩ : ∃ y, xs[5]? = some y := ⟨_, List.getElem?_eq_getElem (by rw [hxl]; decide)⟩
  have e5 : DataW.trod enc Try.prog w base sp held n 2 ((cs.drop 33).take (Try.prog.cellsOf 2)) = some y5 := (hf 5 _ rfl).trans hy5
  rw [hc2] at e5
  obtain ⟨a5, k5, g5⟩ := (opens_int Try.underlying2) e5
  refine ⟨⟨a0, a1, a2, a3, a4, a5⟩, ?_, g0, g1, g2, g3, g4, g5⟩
  have hk : K.k43.K w ⟨a0, a1, a2, a3, a4, a5⟩ (cs.drop 0) := ⟨(cs.drop 0).take 1, cs.drop 1, part_next 0 1, k0, ⟨(cs.drop 1).take 1, cs.drop 2, part_next 1 1, k1, ⟨(cs.drop 2).take 29, cs.drop 31, part_next 2 29, k2, ⟨(cs.drop 31).take 1, cs.drop 32, part_next 31 1, k3, ⟨(cs.drop 32).take 1, cs.drop 33, part_next 32 1, k4, (show (Kd.int .i64).K w a5 (cs.drop 33) from (part_last (cs := cs) 33 1 hl) ▸ k5)⟩⟩⟩⟩⟩
  rwa [List.drop_zero] at hk

end Go.Proofs.Ytjhpkikgajgdmaa
