/- Layer 5, plain: FixupKinds. -/
import Derived.Test.YtjhpkikgajgdmaaFxK
import Derived.Test.YtjhpkikgajgdmaaK14
namespace Go.Proofs.Ytjhpkikgajgdmaa.K
open Go.RowKit
set_option linter.unusedVariables false
set_option linter.unusedSimpArgs false

theorem pure_FixupKinds {P Q : Prop} (a0 a1 : Int) (_ : P) (_ : Q) : ∃ k, purflinglaw05_FixupKinds.f k a0 a1 = some true := by
  refine ⟨2, ?_⟩
  unfold purflinglaw05_FixupKinds.f purflinglaw05_shown.f fixup_May.f fixup_Around.f
  rw [Option.bind_some, if_pos rfl, Option.bind_some, rmay_f, Option.bind_some, if_pos (by simp), Option.bind_some, raround_f, Option.bind_some]
  simp
end Go.Proofs.Ytjhpkikgajgdmaa.K
