/- Layer 3, StyleSizes, plain: the program's answer is the reference's. -/
import Derived.Test.YtdeojdbehbpggaaPureStyleWants
import Derived.Test.YtdeojdbehbpggaaK5
import Derived.Test.YtdeojdbehbpggaaOpens
namespace Go.Proofs.Ytdeojdbehbpggaa.Pure
set_option linter.unusedVariables false
set_option linter.unusedSimpArgs false
open Go.RowKit Go.Proofs.Ytdeojdbehbpggaa.K Go.Proofs.YtdeojdbehbpggaaW.PrintWords Go.Proofs.YtdeojdbehbpggaaW.PrintLast

theorem StyleSizes (x : K.S23) (n d : Int) (hx : good_23 x) (hn : (Lit.int .i64 n).wf = true) (hd : (Lit.int .i64 d).wf = true) : ∃ k, purflinglaw03_StyleSizes.f k x.f0 x.f1 n d = some true := by
  have hn' : -9223372036854775808 ≤ n ∧ n ≤ 9223372036854775807 := by simpa [Lit.wf, IntKind.min, IntKind.max, IntKind.signed, IntKind.bits] using hn
  have hx' : -9223372036854775808 ≤ x.f1 ∧ x.f1 ≤ 9223372036854775807 := by simpa [Lit.wf, IntKind.min, IntKind.max, IntKind.signed, IntKind.bits] using hx.2
  refine ⟨8, ?_⟩
  unfold purflinglaw03_StyleSizes.f purflinglaw03_shown.f style_Wanted.f purflingref03_Wanted.f
  simp only [Option.bind_some]
  rw [if_pos trivial, part_eq 8 (by decide) _ _ hx'.2 hn'.2, rpart_eq 8 (by decide) _ _ hx'.2 hn'.2]
  simp only [Option.bind_some]
  split
  · simp
  · split
    · split <;> simp
    · simp
end Go.Proofs.Ytdeojdbehbpggaa.Pure
