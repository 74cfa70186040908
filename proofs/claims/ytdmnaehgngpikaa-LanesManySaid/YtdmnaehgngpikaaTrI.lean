/- Layer 4: equal lists. -/
import Derived.Test.YtdmnaehgngpikaaTrB
import Derived.Test.YtdmnaehgngpikaaK2
import Derived.Test.YtdmnaehgngpikaaTrA
namespace Go.Proofs.Ytdmnaehgngpikaa.K
open Go.RowKit Go.Proofs.YtdmnaehgngpikaaW.PrintWords Go.Proofs.YtdmnaehgngpikaaW.PrintLast Go.Proofs.YtdmnaehgngpikaaW.PrintMore
set_option linter.unusedVariables false
set_option linter.unusedSimpArgs false
theorem wrap_up {j : Nat} (h : j < 9000000000000000000) : wrap64 ((j : Int) + 1) = ((j + 1 : Nat) : Int) := by unfold wrap64; omega
end Go.Proofs.Ytdmnaehgngpikaa.K
