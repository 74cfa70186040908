/- What comes in: the structs' openers. -/
import Derived.Test.YtdmnaehgngpikaaK0
import Derived.Test.YtdmnaehgngpikaaOpen
import Derived.KernelRfl
namespace Go.Proofs.Ytdmnaehgngpikaa
open Go.RowKit Go.Proofs.YtdmnaehgngpikaaW.PrintWords
set_option linter.unusedVariables false
set_option linter.unusedSimpArgs false
end Go.Proofs.Ytdmnaehgngpikaa
