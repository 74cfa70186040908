/- Layer 3: the head of the laws, in the print's form. -/
import Derived.Test.YtdeojdbehbpggaaK0
import Derived.Test.YtdeojdbehbpggaaSt9
namespace Go.Proofs.Ytdeojdbehbpggaa.K
open Go.RowKit
def purflinglaw03_shown.f : Option Bool := some true
theorem purflinglaw03_shown.calls (r : Bool) (w : World) (h : purflinglaw03_shown.f = some r) :
    Calls Try.prog 10 #[] w fun e w' => e = .returned (.bool r) ∧ Below w.heap.size w w' := by
  obtain rfl := Option.some.inj h
  exact Go.Proofs.Ytdeojdbehbpggaa.shown_any w
end Go.Proofs.Ytdeojdbehbpggaa.K
