/- Layer 4: equal lists. -/
import Derived.Test.YtdmnaehgngpikaaTrB
import Derived.Test.YtdmnaehgngpikaaK2
import Derived.Test.YtdmnaehgngpikaaTrA
namespace Go.Proofs.Ytdmnaehgngpikaa.K
open Go.RowKit Go.Proofs.YtdmnaehgngpikaaW.PrintWords Go.Proofs.YtdmnaehgngpikaaW.PrintLast Go.Proofs.YtdmnaehgngpikaaW.PrintMore
set_option linter.unusedVariables false
set_option linter.unusedSimpArgs false
theorem wrap_up {j : Nat} (h : j < 9000000000000000000) : wrap64 ((j : Int) + 1) = ((j + 1 : Nat) : Int) := by unfold wrap64; omega
theorem ints_l0 (l : List Int) (hl : l.length < 1000000000) : ∀ (d j k : Nat), j + d = l.length → d < k → purflingref04_Ints.l0 k l l (j : Int) = some true
  | 0, j, k + 1, h, _ => by
    unfold purflingref04_Ints.l0
    rw [if_neg (by omega)]
  | d + 1, j, k + 1, h, hk => by
    unfold purflingref04_Ints.l0
    rw [if_pos (by omega), if_pos (by omega), if_pos (by omega), if_pos rfl, wrap_up (by omega)]
    exact ints_l0 l hl d (j + 1) k (by omega) (by omega)
end Go.Proofs.Ytdmnaehgngpikaa.K
