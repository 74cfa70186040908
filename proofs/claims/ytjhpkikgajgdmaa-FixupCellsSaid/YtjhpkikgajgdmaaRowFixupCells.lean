/- Layer 5: the row of FixupCells. -/
import Derived.Test.YtjhpkikgajgdmaaRows
import Derived.Test.YtjhpkikgajgdmaaFxD
import Derived.Test.YtjhpkikgajgdmaaFxD
import Derived.Test.YtjhpkikgajgdmaaOpens
import Derived.WalkKit
import Derived.ProofKit
import Derived.OpenShut
import Derived.ChangeOld
import Derived.Below
import Derived.Carry
import Derived.KernelRfl
namespace Go.Proofs.Ytjhpkikgajgdmaa.rowFixupCells
open Go.ChangeShapes Go.WideShapes Go.ChangeAt Go.RowKit Go.Proofs.YtjhpkikgajgdmaaW.PrintWords Go.Proofs.Ytjhpkikgajgdmaa
set_option linter.unusedVariables false
set_option linter.unusedSimpArgs false
theorem own : ownKnob Try.prog.godebug = none := by kernel_rfl
theorem laidOut : laidOutB Try.prog = true := by kernel_rfl
set_option maxRecDepth 100000 in
theorem lifted (os : Os) (started : os.Started) (H : Type) (enc : TypeId × Value → H) :
    ReturnsInHanded {} Try.checked os 6 .any (Rows.fixupCellsSpec.pre6 enc Try.prog Try.f6 Rows.fixupCellsRow.domain false) (Rows.fixupCellsSpec.post enc Try.prog Try.f6 false true false false) := by
  refine returnsInHanded_of_change (C := Try.checked) own started (by kernel_rfl) Try.func6
    (ChangeSpec.witness6 (enc := enc) (C := Try.checked) false ⟨#[], #[.int .i64 0], []⟩ 8 (by kernel_rfl) (by kernel_rfl) (by kernel_rfl) (by kernel_rfl)) ?_
  intro W base args ds gs before hval0 hW hcnd _
  have hval : ∀ (j : Nat) t v, Try.f6.params[j]? = some t → args[j]? = some v → Value.okWide Try.prog W .any base t v := hval0
  have hW' := hW
  obtain ⟨p, q, hA0, hV, rfl, hfz, hnd⟩ := hW
  have hA : DataW.TrodAll enc Try.prog W 0 (fun _ => true) true Try.f6.params.toList args.toList ds p := hA0
  rw [Try.params6] at hA hval
  obtain ⟨v0, vs0, d0, ds0, p0, q0, hargs, rfl, rfl, h0, r0⟩ := trodAll_cons hA
  obtain ⟨rfl, rfl, rfl⟩ := trodAll_nil r0
  obtain rfl : args = #[v0] := by cases args; simp_all
  obtain ⟨rfl, rfl⟩ := trodVars_none hV
  have lt0 : ∀ x ∈ p0, x.block < W.heap.size := by obtain ⟨m, hm⟩ := h0; exact DataW.trod_lt m _ _ _ hm
  obtain ⟨fu0, tr0⟩ := id h0
  obtain ⟨x0, hk0, hg0⟩ := (opens_int Try.underlying3) tr0
  obtain ⟨z0, hz0⟩ : ∃ z, v0 = .int .i64 z := by obtain ⟨z, hz, _⟩ := open_int Try.underlying3 (hval 0 3 v0 rfl rfl) h0; exact ⟨z, hz⟩
  subst hz0
  obtain rfl : x0 = z0 := by have := hk0; simp [Kd.int, Kd.bool, Kd.scalar, Value.cells] at this; first | exact this.symm | exact this
  clear hA0 hval0
  obtain hf := K.pure_FixupCells x0 hg0
  refine (K.purflinglaw05_FixupCells.calls x0 true W  hf).mono fun e W' ⟨he, bel⟩ => ?_
  subst he
  exact ⟨_, rfl, _, _, _, [], _, [], hW', trodAll_mk1 (shut_bool Try.underlying4 _), (trodAll_cons_mk (Below.trod laidOut (by kernel_rfl) (of_decide_eq_true (by kernel_rfl)) h0 bel lt0) trodAll_mk0), rfl, bel.frame _, fun h => by cases h⟩
theorem over : Rows.fixupCellsRow.holds Try.pinned (OpenSpec.ofChange Rows.fixupCellsSpec) :=
  OpenClaim.holds_of_wide 6 Try.f6 rfl rfl rfl rfl rfl rfl rfl ⟨rfl, rfl, rfl, rfl, rfl⟩ rfl rfl rfl rfl rfl (by kernel_rfl) Try.func6 (by kernel_rfl)
    (of_decide_eq_true (by kernel_rfl)) (by unfold Func.isWrapper; first | (rw [if_pos (by decide +kernel)]; kernel_rfl) | (rw [if_neg (by decide +kernel)]; exact ⟨rfl, rfl⟩))
    (fun os started H enc _ => lifted os started H enc)
/-- the statement -/
theorem proved : Rows.FixupCellsSaid := over
end Go.Proofs.Ytjhpkikgajgdmaa.rowFixupCells
