/- Layer 3, plain: computed again it is the same. -/
import Derived.Test.YtjhpkikgajgdmaaDefs
namespace Go.Proofs.Ytjhpkikgajgdmaa
set_option linter.unusedVariables false
set_option linter.unusedSimpArgs false
end Go.Proofs.Ytjhpkikgajgdmaa
