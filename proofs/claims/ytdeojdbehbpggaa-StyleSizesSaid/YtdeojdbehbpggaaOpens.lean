/- What comes in: the structs' openers. -/
import Derived.Test.YtdeojdbehbpggaaK0
import Derived.Test.YtdeojdbehbpggaaOpen
import Derived.KernelRfl
namespace Go.Proofs.Ytdeojdbehbpggaa
open Go.RowKit Go.Proofs.YtdeojdbehbpggaaW.PrintWords
set_option linter.unusedVariables false
set_option linter.unusedSimpArgs false

def good_23 (x : K.S23) : Prop := (Lit.int .i64 x.f0).wf = true ∧ (Lit.int .i64 x.f1).wf = true
theorem opens_23 : Opens Try.prog 23 K.k23 good_23 := by
  intro H enc w base sp held fuel cs x h
  have hc2 : Try.prog.cellsOf 2 = 1 := by kernel_rfl
  have hc3 : Try.prog.cellsOf 3 = 1 := by kernel_rfl
  have hct : Try.prog.cellsOf 23 = 2 := by kernel_rfl
  obtain ⟨xs, n, -, -, hl, hxl, hf⟩ := DataW.trod_struct Try.underlying23 h
  rw [hct] at hl
  obtain ⟨y0, hy0⟩ : ∃ y, xs[0]? = some y := ⟨_, List.getElem?_eq_getElem (by rw [hxl]; decide)⟩
  have e0 : DataW.trod enc Try.prog w base sp held n 3 ((cs.drop 0).take (Try.prog.cellsOf 3)) = some y0 := (hf 0 _ rfl).trans hy0
  rw [hc3] at e0
  obtain ⟨a0, k0, g0⟩ := (opens_int Try.underlying3) e0
  obtain ⟨y1, hy1⟩ : ∃ y, xs[1]? = some y := ⟨_, List.getElem?_eq_getElem (by rw [hxl]; decide)⟩
  have e1 : DataW.trod enc Try.prog w base sp held n 2 ((cs.drop 1).take (Try.prog.cellsOf 2)) = some y1 := (hf 1 _ rfl).trans hy1
  rw [hc2] at e1
  obtain ⟨a1, k1, g1⟩ := (opens_int Try.underlying2) e1
  refine ⟨⟨a0, a1⟩, ?_, g0, g1⟩
  have hk : K.k23.K w ⟨a0, a1⟩ (cs.drop 0) := ⟨(cs.drop 0).take 1, cs.drop 1, part_next 0 1, k0, (show (Kd.int .i64).K w a1 (cs.drop 1) from (part_last (cs := cs) 1 1 hl) ▸ k1)⟩
  rwa [List.drop_zero] at hk

end Go.Proofs.Ytdeojdbehbpggaa
