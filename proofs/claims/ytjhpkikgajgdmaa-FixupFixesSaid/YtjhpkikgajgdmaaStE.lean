/- Equality of rows of plain cells. -/
import Derived.Test.YtjhpkikgajgdmaaProg
import Derived.Test.YtjhpkikgajgdmaaDefs
import Derived.Outline
import Derived.Handy
import Derived.BigQuiet
import Derived.WalkKit
import Derived.DeepKeys
namespace Go.Proofs.Ytjhpkikgajgdmaa
open Go.RowKit
set_option linter.unusedVariables false
set_option linter.unusedSimpArgs false
theorem int_refl {P : Program} {d : Nat} {t : TypeId} {k k' : IntKind} {a : Int} (w : World) (h : P.underlying t = some (.int k')) : (Op.equalIn (d + 1) t (.int k a) (.int k a)).run P w = .ok true w := by rw [run_equalIn_int w d t k k' a a h]; simp
end Go.Proofs.Ytjhpkikgajgdmaa
