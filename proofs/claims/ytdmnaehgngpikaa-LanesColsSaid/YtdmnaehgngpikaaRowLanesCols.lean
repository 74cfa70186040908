/- Layer 6: the row of LanesCols. -/
import Derived.Test.YtdmnaehgngpikaaRows
import Derived.Test.YtdmnaehgngpikaaK17
import Derived.Test.YtdmnaehgngpikaaLc7
import Derived.Test.YtdmnaehgngpikaaOpens
import Derived.WalkKit
import Derived.ProofKit
import Derived.OpenShut
import Derived.ChangeOld
import Derived.Below
import Derived.Carry
import Derived.KernelRfl
namespace Go.Proofs.Ytdmnaehgngpikaa.rowLanesCols
open Go.ChangeShapes Go.WideShapes Go.ChangeAt Go.RowKit Go.Proofs.YtdmnaehgngpikaaW.PrintWords Go.Proofs.Ytdmnaehgngpikaa
set_option linter.unusedVariables false
set_option linter.unusedSimpArgs false
theorem own : ownKnob Try.prog.godebug = none := by kernel_rfl
theorem laidOut : laidOutB Try.prog = true := by kernel_rfl
set_option maxRecDepth 100000 in
theorem lifted (os : Os) (started : os.Started) (H : Type) (enc : TypeId × Value → H) :
    ReturnsInHanded {} Try.checked os 3 .any (Rows.lanesColsSpec.pre6 enc Try.prog Try.f3 Rows.lanesColsRow.domain false) (Rows.lanesColsSpec.post enc Try.prog Try.f3 false true false false) := by
  refine returnsInHanded_of_change (C := Try.checked) own started (by kernel_rfl) Try.func3
    (ChangeSpec.witness6 (enc := enc) (C := Try.checked) false ⟨#[], #[.slice none 0 0, .int .i64 0, .int .i64 0], []⟩ 8 (by kernel_rfl) (by kernel_rfl) (by kernel_rfl) (by kernel_rfl)) ?_
  intro W base args ds gs before hval0 hW hcnd _
  have hval : ∀ (j : Nat) t v, Try.f3.params[j]? = some t → args[j]? = some v → Value.okWide Try.prog W .any base t v := hval0
  have hW' := hW
  obtain ⟨p, q, hA0, hV, rfl, hfz, hnd⟩ := hW
  have hA : DataW.TrodAll enc Try.prog W 0 (fun _ => true) true Try.f3.params.toList args.toList ds p := hA0
  rw [Try.params3] at hA hval
  obtain ⟨v0, vs0, d0, ds0, p0, q0, hargs, rfl, rfl, h0, r0⟩ := trodAll_cons hA
  obtain ⟨v1, vs1, d1, ds1, p1, q1, rfl, rfl, rfl, h1, r1⟩ := trodAll_cons r0
  obtain ⟨v2, vs2, d2, ds2, p2, q2, rfl, rfl, rfl, h2, r2⟩ := trodAll_cons r1
  obtain ⟨rfl, rfl, rfl⟩ := trodAll_nil r2
  obtain rfl : args = #[v0, v1, v2] := by cases args; simp_all
  obtain ⟨rfl, rfl⟩ := trodVars_none hV
  have lt0 : ∀ x ∈ p0, x.block < W.heap.size := by obtain ⟨m, hm⟩ := h0; exact DataW.trod_lt m _ _ _ hm
  obtain ⟨fu0, tr0⟩ := id h0
  obtain ⟨x0, hk0, hg0⟩ := (opens_slice Try.underlying22 (by kernel_rfl) opens_48) tr0
  obtain ⟨av0, lv0, cv0, rfl⟩ := okWide_slice Try.underlying22 (hval 0 22 v0 rfl rfl)
  obtain ⟨A0, c0, hq0, hl0, hr0⟩ := hk0
  obtain ⟨rfl, rfl, rfl⟩ : av0 = A0 ∧ lv0 = x0.length ∧ cv0 = c0 := by simpa [Value.cells] using hq0
  have lt1 : ∀ x ∈ p1, x.block < W.heap.size := by obtain ⟨m, hm⟩ := h1; exact DataW.trod_lt m _ _ _ hm
  obtain ⟨fu1, tr1⟩ := id h1
  obtain ⟨x1, hk1, hg1⟩ := (opens_int Try.underlying3) tr1
  obtain ⟨z1, hz1⟩ : ∃ z, v1 = .int .i64 z := by obtain ⟨z, hz, _⟩ := open_int Try.underlying3 (hval 1 3 v1 rfl rfl) h1; exact ⟨z, hz⟩
  subst hz1
  obtain rfl : x1 = z1 := by have := hk1; simp [Kd.int, Kd.bool, Kd.scalar, Value.cells] at this; first | exact this.symm | exact this
  have lt2 : ∀ x ∈ p2, x.block < W.heap.size := by obtain ⟨m, hm⟩ := h2; exact DataW.trod_lt m _ _ _ hm
  obtain ⟨fu2, tr2⟩ := id h2
  obtain ⟨x2, hk2, hg2⟩ := (opens_int Try.underlying3) tr2
  obtain ⟨z2, hz2⟩ : ∃ z, v2 = .int .i64 z := by obtain ⟨z, hz, _⟩ := open_int Try.underlying3 (hval 2 3 v2 rfl rfl) h2; exact ⟨z, hz⟩
  subst hz2
  obtain rfl : x2 = z2 := by have := hk2; simp [Kd.int, Kd.bool, Kd.scalar, Value.cells] at this; first | exact this.symm | exact this
  clear hA0 hval0
  obtain ⟨k, hf⟩ := K.pure_LanesCols x0 x1 x2 hg0 hg1 hg2
  refine (K.purflinglaw06_LanesCols.calls k _ _ x0 x1 x2 true W hr0 hl0 hf).mono fun e W' ⟨he, bel⟩ => ?_
  subst he
  exact ⟨_, rfl, _, _, _, [], _, [], hW', trodAll_mk1 (shut_bool Try.underlying4 _), (trodAll_cons_mk (Below.trod laidOut (by kernel_rfl) (of_decide_eq_true (by kernel_rfl)) h0 bel lt0) (trodAll_cons_mk (Below.trod laidOut (by kernel_rfl) (of_decide_eq_true (by kernel_rfl)) h1 bel lt1) (trodAll_cons_mk (Below.trod laidOut (by kernel_rfl) (of_decide_eq_true (by kernel_rfl)) h2 bel lt2) trodAll_mk0))), rfl, bel.frame _, fun h => by cases h⟩
theorem over : Rows.lanesColsRow.holds Try.pinned (OpenSpec.ofChange Rows.lanesColsSpec) :=
  OpenClaim.holds_of_wide 3 Try.f3 rfl rfl rfl rfl rfl rfl rfl ⟨rfl, rfl, rfl, rfl, rfl⟩ rfl rfl rfl rfl rfl (by kernel_rfl) Try.func3 (by kernel_rfl)
    (of_decide_eq_true (by kernel_rfl)) (by unfold Func.isWrapper; first | (rw [if_pos (by decide +kernel)]; kernel_rfl) | (rw [if_neg (by decide +kernel)]; exact ⟨rfl, rfl⟩))
    (fun os started H enc _ => lifted os started H enc)
/-- the statement -/
theorem proved : Rows.LanesColsSaid := over
end Go.Proofs.Ytdmnaehgngpikaa.rowLanesCols
