/- Layer 8: the row of LinesAll. -/
import Derived.Test.YteckkphbgfmolaaRows
import Derived.Test.YteckkphbgfmolaaLnA
import Derived.Test.YteckkphbgfmolaaLnA
import Derived.Test.YteckkphbgfmolaaOpens
import Derived.WalkKit
import Derived.ProofKit
import Derived.OpenShut
import Derived.ChangeOld
import Derived.Below
import Derived.Carry
import Derived.KernelRfl
namespace Go.Proofs.Yteckkphbgfmolaa.rowLinesAll
open Go.ChangeShapes Go.WideShapes Go.ChangeAt Go.RowKit Go.Proofs.YteckkphbgfmolaaW.PrintWords Go.Proofs.Yteckkphbgfmolaa
set_option linter.unusedVariables false
set_option linter.unusedSimpArgs false
theorem own : ownKnob Try.prog.godebug = none := by kernel_rfl
theorem laidOut : laidOutB Try.prog = true := by kernel_rfl
set_option maxRecDepth 100000 in
theorem lifted (os : Os) (started : os.Started) (H : Type) (enc : TypeId × Value → H) :
    ReturnsInHanded {} Try.checked os 5 .any (Rows.linesAllSpec.pre6 enc Try.prog Try.f5 Rows.linesAllRow.domain false) (Rows.linesAllSpec.post enc Try.prog Try.f5 false true false false) := by
  refine returnsInHanded_of_change (C := Try.checked) own started (by kernel_rfl) Try.func5
    (ChangeSpec.witness6 (enc := enc) (C := Try.checked) false ⟨#[], #[.agg #[.int .i64 0, .slice none 0 0, .int .i64 0, .int .i64 0, .int .i64 0, .int .i64 0, .int .i64 0, .int .i64 0, .int .i64 0, .int .i64 0, .int .i64 0, .int .i64 0, .int .u32 0, .int .i64 0, .int .i64 0, .int .u32 0, .int .i64 0, .int .i64 0, .int .u32 0, .int .i64 0, .int .i64 0, .int .u32 0, .int .i64 0, .int .i64 0, .int .i64 0, .bool false, .bool false, .int .i64 0, .int .i64 0, .bool false, .bool false, .slice none 0 0, .int .i64 0, .int .i64 0], .int .i64 0], []⟩ 8 (by kernel_rfl) (by kernel_rfl) (by kernel_rfl) (by kernel_rfl)) ?_
  intro W base args ds gs before hval0 hW hcnd _
  have hval : ∀ (j : Nat) t v, Try.f5.params[j]? = some t → args[j]? = some v → Value.okWide Try.prog W .any base t v := hval0
  have hW' := hW
  obtain ⟨p, q, hA0, hV, rfl, hfz, hnd⟩ := hW
  have hA : DataW.TrodAll enc Try.prog W 0 (fun _ => true) true Try.f5.params.toList args.toList ds p := hA0
  rw [Try.params5] at hA hval
  obtain ⟨v0, vs0, d0, ds0, p0, q0, hargs, rfl, rfl, h0, r0⟩ := trodAll_cons hA
  obtain ⟨v1, vs1, d1, ds1, p1, q1, rfl, rfl, rfl, h1, r1⟩ := trodAll_cons r0
  obtain ⟨rfl, rfl, rfl⟩ := trodAll_nil r1
  obtain rfl : args = #[v0, v1] := by cases args; simp_all
  obtain ⟨rfl, rfl⟩ := trodVars_none hV
  have lt0 : ∀ x ∈ p0, x.block < W.heap.size := by obtain ⟨m, hm⟩ := h0; exact DataW.trod_lt m _ _ _ hm
  obtain ⟨fu0, tr0⟩ := id h0
  obtain ⟨x0, hk0, hg0⟩ := opens_35 tr0
  obtain ⟨cv0, rfl, hs0⟩ := okWide_struct Try.underlying35 (hval 0 35 v0 rfl rfl)
  have ho0 := K.k35_open hk0
  obtain ⟨Aa0_1, ca0_1, Aa0_31, ca0_31, hq0, hl0_1, hr0_1, hl0_31, hr0_31⟩ := ho0
  obtain rfl : cv0 = _ := by have := congrArg List.toArray hq0; simpa [Value.cells] using this
  have lt1 : ∀ x ∈ p1, x.block < W.heap.size := by obtain ⟨m, hm⟩ := h1; exact DataW.trod_lt m _ _ _ hm
  obtain ⟨fu1, tr1⟩ := id h1
  obtain ⟨x1, hk1, hg1⟩ := (opens_int Try.underlying2) tr1
  obtain ⟨z1, hz1⟩ : ∃ z, v1 = .int .i64 z := by obtain ⟨z, hz, _⟩ := open_int Try.underlying2 (hval 1 2 v1 rfl rfl) h1; exact ⟨z, hz⟩
  subst hz1
  obtain rfl : x1 = z1 := by have := hk1; simp [Kd.int, Kd.bool, Kd.scalar, Value.cells] at this; first | exact this.symm | exact this
  clear hA0 hval0
  obtain hf := Pure.linesAll_pure x0 x1 hg0 hg1
  refine (K.purflinglaw08_LinesAll.calls (x0.f0) _ _ x0.f1 (x0.f2.f0.f0) (x0.f2.f0.f1) (x0.f2.f1.f0) (x0.f2.f1.f1) (x0.f2.f2.f0) (x0.f2.f2.f1) (x0.f2.f2.f2) (x0.f2.f2.f3) (x0.f2.f3.f0.f0) (x0.f2.f3.f0.f1) (x0.f2.f3.f0.f2) (x0.f2.f3.f1.f0) (x0.f2.f3.f1.f1) (x0.f2.f3.f1.f2) (x0.f2.f3.f2.f0) (x0.f2.f3.f2.f1) (x0.f2.f3.f2.f2) (x0.f2.f3.f3.f0) (x0.f2.f3.f3.f1) (x0.f2.f3.f3.f2) (x0.f2.f4) (x0.f2.f5) (x0.f2.f6) (x0.f2.f7) (x0.f2.f8) (x0.f2.f9.f0) (x0.f2.f9.f1) (x0.f2.f10) (x0.f2.f11) _ _ x0.f3 (x0.f4) (x0.f5) x1 true W hr0_1 hl0_1 hr0_31 hl0_31 hf).mono fun e W' ⟨he, bel⟩ => ?_
  subst he
  exact ⟨_, rfl, _, _, _, [], _, [], hW', trodAll_mk1 (shut_bool Try.underlying4 _), (trodAll_cons_mk (Below.trod laidOut (by kernel_rfl) (of_decide_eq_true (by kernel_rfl)) h0 bel lt0) (trodAll_cons_mk (Below.trod laidOut (by kernel_rfl) (of_decide_eq_true (by kernel_rfl)) h1 bel lt1) trodAll_mk0)), rfl, bel.frame _, fun h => by cases h⟩
theorem over : Rows.linesAllRow.holds Try.pinned (OpenSpec.ofChange Rows.linesAllSpec) :=
  OpenClaim.holds_of_wide 5 Try.f5 rfl rfl rfl rfl rfl rfl rfl ⟨rfl, rfl, rfl, rfl, rfl⟩ rfl rfl rfl rfl rfl (by kernel_rfl) Try.func5 (by kernel_rfl)
    (of_decide_eq_true (by kernel_rfl)) (by unfold Func.isWrapper; first | (rw [if_pos (by decide +kernel)]; kernel_rfl) | (rw [if_neg (by decide +kernel)]; exact ⟨rfl, rfl⟩))
    (fun os started H enc _ => lifted os started H enc)
/-- the statement -/
theorem proved : Rows.LinesAllSaid := over
end Go.Proofs.Yteckkphbgfmolaa.rowLinesAll
