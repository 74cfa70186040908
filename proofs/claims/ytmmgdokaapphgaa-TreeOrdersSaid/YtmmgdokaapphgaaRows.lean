/-
  No cell of these rows narrows 'for every input' (looked for: loops, veiled, ifaces, maps, wideKeys, modest, calm, conditions, laid).
  DERIVED. THE GIVEN ROWS OF THIS SEAT. 7 by the template 'for every input the law returns true; each argument reads behind the call as it read before'; 0 by the template 'total and deterministic' (their statements: YtmmgdokaapphgaaTotals.lean).
  GIVEN WITH THE SEED: the statements are not yours to turn. If you find one false, say at which input.
  Laid BY PROGRAM, IN A SANDBOX (cutbox-rows.mjs): the forced cells as the released guide's own fill.sh prints them over the translation 6572511d94934242… (all of the seat's roots in one cut). By AI agents, Wed Nov 11 2026. No macro, syntax, notation, axiom, sorry.
-/
import Derived.Test.YtmmgdokaapphgaaChecked
import GoSem.Claim
import GoSem.ClaimJoined
import GoSem.ClaimMapViews
import Derived.JoinedTies
import Derived.KernelRfl
namespace Go.Proofs.Ytmmgdokaapphgaa
/- THE CELL 'sum', in the pinned program and in every row, IS THE sha256 OF THE DUMP (.gsa) THAT YtmmgdokaapphgaaProg.lean LOADS. Nothing in Lean hashes anything: it is a label: what it is worth is what the hold of that sum in a sandbox is worth. -/
noncomputable def Try.pinned : Pinned := { name := "ytmmgdokaapphgaa", sum := "6572511d94934242db82318d568bfe081d556a33c672f4bb1c9eede2e784da3c", checked := Try.checked }
namespace Rows
def none {H : Type} : Left H := { results := [], args := [] }

/-- 'purflinglaw04.TreeChecks': WHATEVER THE INPUT: true; the input reads as it did. -/
def treeChecksSpec : ChangeSpec := { name := "treeChecks", fn := fun _ => fun
  | [d] => { results := [.lit (.bool true)], args := [d] }
  | _ => none }
def treeChecksRow : OpenClaim := { program := "ytmmgdokaapphgaa", sum := "6572511d94934242db82318d568bfe081d556a33c672f4bb1c9eede2e784da3c", func := "purfling/purflinglaw04.TreeChecks", spec := "treeChecks", unfollowed := true, recurses := true, apart := false }
def TreeChecksSaid : Prop := treeChecksRow.holds Try.pinned (OpenSpec.ofChange treeChecksSpec)

/-- ITS FALSE NEIGHBOUR: 'it returns false'. Refute it at one input. -/
def treeChecksWrong : ChangeSpec := { name := "treeChecks", fn := fun _ => fun
  | [d] => { results := [.lit (.bool false)], args := [d] }
  | _ => none }
def TreeChecksWrongFalsely : Prop := treeChecksRow.holds Try.pinned (OpenSpec.ofChange treeChecksWrong)

/-- 'purflinglaw04.TreeChains': WHATEVER THE INPUT: true; the input reads as it did. -/
def treeChainsSpec : ChangeSpec := { name := "treeChains", fn := fun _ => fun
  | [d] => { results := [.lit (.bool true)], args := [d] }
  | _ => none }
def treeChainsRow : OpenClaim := { program := "ytmmgdokaapphgaa", sum := "6572511d94934242db82318d568bfe081d556a33c672f4bb1c9eede2e784da3c", func := "purfling/purflinglaw04.TreeChains", spec := "treeChains", unfollowed := true, recurses := true, apart := false }
def TreeChainsSaid : Prop := treeChainsRow.holds Try.pinned (OpenSpec.ofChange treeChainsSpec)

/-- ITS FALSE NEIGHBOUR: 'it returns false'. Refute it at one input. -/
def treeChainsWrong : ChangeSpec := { name := "treeChains", fn := fun _ => fun
  | [d] => { results := [.lit (.bool false)], args := [d] }
  | _ => none }
def TreeChainsWrongFalsely : Prop := treeChainsRow.holds Try.pinned (OpenSpec.ofChange treeChainsWrong)

/-- 'purflinglaw04.TreeLoops': WHATEVER THE INPUT: true; the input reads as it did. -/
def treeLoopsSpec : ChangeSpec := { name := "treeLoops", fn := fun _ => fun
  | [d1, d2, d3] => { results := [.lit (.bool true)], args := [d1, d2, d3] }
  | _ => none }
def treeLoopsRow : OpenClaim := { program := "ytmmgdokaapphgaa", sum := "6572511d94934242db82318d568bfe081d556a33c672f4bb1c9eede2e784da3c", func := "purfling/purflinglaw04.TreeLoops", spec := "treeLoops", unfollowed := true, recurses := true, apart := false }
def TreeLoopsSaid : Prop := treeLoopsRow.holds Try.pinned (OpenSpec.ofChange treeLoopsSpec)

/-- ITS FALSE NEIGHBOUR: 'it returns false'. Refute it at one input. -/
def treeLoopsWrong : ChangeSpec := { name := "treeLoops", fn := fun _ => fun
  | [d1, d2, d3] => { results := [.lit (.bool false)], args := [d1, d2, d3] }
  | _ => none }
def TreeLoopsWrongFalsely : Prop := treeLoopsRow.holds Try.pinned (OpenSpec.ofChange treeLoopsWrong)

/-- 'purflinglaw04.TreeMany': WHATEVER THE INPUT: true; the input reads as it did. -/
def treeManySpec : ChangeSpec := { name := "treeMany", fn := fun _ => fun
  | [d] => { results := [.lit (.bool true)], args := [d] }
  | _ => none }
def treeManyRow : OpenClaim := { program := "ytmmgdokaapphgaa", sum := "6572511d94934242db82318d568bfe081d556a33c672f4bb1c9eede2e784da3c", func := "purfling/purflinglaw04.TreeMany", spec := "treeMany", unfollowed := true, recurses := true, apart := false }
def TreeManySaid : Prop := treeManyRow.holds Try.pinned (OpenSpec.ofChange treeManySpec)

/-- ITS FALSE NEIGHBOUR: 'it returns false'. Refute it at one input. -/
def treeManyWrong : ChangeSpec := { name := "treeMany", fn := fun _ => fun
  | [d] => { results := [.lit (.bool false)], args := [d] }
  | _ => none }
def TreeManyWrongFalsely : Prop := treeManyRow.holds Try.pinned (OpenSpec.ofChange treeManyWrong)

/-- 'purflinglaw04.TreeOrders': WHATEVER THE INPUT: true; the input reads as it did. -/
def treeOrdersSpec : ChangeSpec := { name := "treeOrders", fn := fun _ => fun
  | [d] => { results := [.lit (.bool true)], args := [d] }
  | _ => none }
def treeOrdersRow : OpenClaim := { program := "ytmmgdokaapphgaa", sum := "6572511d94934242db82318d568bfe081d556a33c672f4bb1c9eede2e784da3c", func := "purfling/purflinglaw04.TreeOrders", spec := "treeOrders", unfollowed := true, recurses := true, apart := false }
def TreeOrdersSaid : Prop := treeOrdersRow.holds Try.pinned (OpenSpec.ofChange treeOrdersSpec)

/-- ITS FALSE NEIGHBOUR: 'it returns false'. Refute it at one input. -/
def treeOrdersWrong : ChangeSpec := { name := "treeOrders", fn := fun _ => fun
  | [d] => { results := [.lit (.bool false)], args := [d] }
  | _ => none }
def TreeOrdersWrongFalsely : Prop := treeOrdersRow.holds Try.pinned (OpenSpec.ofChange treeOrdersWrong)

/-- 'purflinglaw04.TreeComputes': WHATEVER THE INPUT: true; the input reads as it did. -/
def treeComputesSpec : ChangeSpec := { name := "treeComputes", fn := fun _ => fun
  | [d] => { results := [.lit (.bool true)], args := [d] }
  | _ => none }
def treeComputesRow : OpenClaim := { program := "ytmmgdokaapphgaa", sum := "6572511d94934242db82318d568bfe081d556a33c672f4bb1c9eede2e784da3c", func := "purfling/purflinglaw04.TreeComputes", spec := "treeComputes", unfollowed := true, recurses := true, apart := false }
def TreeComputesSaid : Prop := treeComputesRow.holds Try.pinned (OpenSpec.ofChange treeComputesSpec)

/-- ITS FALSE NEIGHBOUR: 'it returns false'. Refute it at one input. -/
def treeComputesWrong : ChangeSpec := { name := "treeComputes", fn := fun _ => fun
  | [d] => { results := [.lit (.bool false)], args := [d] }
  | _ => none }
def TreeComputesWrongFalsely : Prop := treeComputesRow.holds Try.pinned (OpenSpec.ofChange treeComputesWrong)

/-- 'purflinglaw04.TreeTells': WHATEVER THE INPUT: true; the input reads as it did. -/
def treeTellsSpec : ChangeSpec := { name := "treeTells", fn := fun _ => fun
  | [d] => { results := [.lit (.bool true)], args := [d] }
  | _ => none }
def treeTellsRow : OpenClaim := { program := "ytmmgdokaapphgaa", sum := "6572511d94934242db82318d568bfe081d556a33c672f4bb1c9eede2e784da3c", func := "purfling/purflinglaw04.TreeTells", spec := "treeTells", unfollowed := true, recurses := true, apart := false }
def TreeTellsSaid : Prop := treeTellsRow.holds Try.pinned (OpenSpec.ofChange treeTellsSpec)

/-- ITS FALSE NEIGHBOUR: 'it returns false'. Refute it at one input. -/
def treeTellsWrong : ChangeSpec := { name := "treeTells", fn := fun _ => fun
  | [d] => { results := [.lit (.bool false)], args := [d] }
  | _ => none }
def TreeTellsWrongFalsely : Prop := treeTellsRow.holds Try.pinned (OpenSpec.ofChange treeTellsWrong)

/- THE SECOND FORM. 'bulk': how many values and letters a reading holds, each counted each time it is reached (what is shared counts as often as it is met; a slice's spare places count too). A statement '..UptoSaid' is the law's where the arguments, and the package variables that the reading takes, are together of bulk at most 1048576: NARROWER than '..Said'. Prove '..Said' where nothing that the law and all that it calls make is longer than what came in: it says more and counts as full. Else prove '..UptoSaid'. A law counts once. -/
mutual
def uptoBulk {H : Type} : DataW H → Nat
  | .lit (.string bytes) => bytes.length + 1
  | .lit _ => 1
  | .nil => 1
  | .ptr d => uptoBulk d + 1
  | .slice elems spare => uptoBulkAll elems + uptoBulkAll spare + 1
  | .agg parts => uptoBulkAll parts + 1
  | .iface _ d => uptoBulk d + 1
  | .map entries => uptoBulkEntries entries + 1
  | .held _ => 1
def uptoBulkAll {H : Type} : List (DataW H) → Nat
  | [] => 0
  | d :: r => uptoBulk d + uptoBulkAll r
def uptoBulkEntries {H : Type} : List (Lit × DataW H) → Nat
  | [] => 0
  | x :: r => uptoBulkEntry x + uptoBulkEntries r
def uptoBulkEntry {H : Type} : Lit × DataW H → Nat
  | (.string bytes, d) => bytes.length + uptoBulk d + 1
  | (_, d) => uptoBulk d + 1
 end
def uptoSmall : (H : Type) → List (DataW H) → Bool := fun _ ds => decide (uptoBulkAll ds ≤ 1048576)
def OpenSpec.upto (s : _root_.Go.ChangeSpec) : _root_.Go.OpenSpec := { _root_.Go.OpenSpec.ofChange s with cond := some uptoSmall }

/-- 'purflinglaw04.TreeChecks', WHERE WHAT IT READS IS OF BULK AT MOST 1048576: true; the input reads as it did. -/
def treeChecksUptoRow : OpenClaim := { program := "ytmmgdokaapphgaa", sum := "6572511d94934242db82318d568bfe081d556a33c672f4bb1c9eede2e784da3c", func := "purfling/purflinglaw04.TreeChecks", spec := "treeChecks", unfollowed := true, recurses := true, apart := false, narrowed := true }
def TreeChecksUptoSaid : Prop := treeChecksUptoRow.holds Try.pinned (OpenSpec.upto treeChecksSpec)

/-- 'purflinglaw04.TreeChains', WHERE WHAT IT READS IS OF BULK AT MOST 1048576: true; the input reads as it did. -/
def treeChainsUptoRow : OpenClaim := { program := "ytmmgdokaapphgaa", sum := "6572511d94934242db82318d568bfe081d556a33c672f4bb1c9eede2e784da3c", func := "purfling/purflinglaw04.TreeChains", spec := "treeChains", unfollowed := true, recurses := true, apart := false, narrowed := true }
def TreeChainsUptoSaid : Prop := treeChainsUptoRow.holds Try.pinned (OpenSpec.upto treeChainsSpec)

/-- 'purflinglaw04.TreeLoops', WHERE WHAT IT READS IS OF BULK AT MOST 1048576: true; the input reads as it did. -/
def treeLoopsUptoRow : OpenClaim := { program := "ytmmgdokaapphgaa", sum := "6572511d94934242db82318d568bfe081d556a33c672f4bb1c9eede2e784da3c", func := "purfling/purflinglaw04.TreeLoops", spec := "treeLoops", unfollowed := true, recurses := true, apart := false, narrowed := true }
def TreeLoopsUptoSaid : Prop := treeLoopsUptoRow.holds Try.pinned (OpenSpec.upto treeLoopsSpec)

/-- 'purflinglaw04.TreeMany', WHERE WHAT IT READS IS OF BULK AT MOST 1048576: true; the input reads as it did. -/
def treeManyUptoRow : OpenClaim := { program := "ytmmgdokaapphgaa", sum := "6572511d94934242db82318d568bfe081d556a33c672f4bb1c9eede2e784da3c", func := "purfling/purflinglaw04.TreeMany", spec := "treeMany", unfollowed := true, recurses := true, apart := false, narrowed := true }
def TreeManyUptoSaid : Prop := treeManyUptoRow.holds Try.pinned (OpenSpec.upto treeManySpec)

/-- 'purflinglaw04.TreeOrders', WHERE WHAT IT READS IS OF BULK AT MOST 1048576: true; the input reads as it did. -/
def treeOrdersUptoRow : OpenClaim := { program := "ytmmgdokaapphgaa", sum := "6572511d94934242db82318d568bfe081d556a33c672f4bb1c9eede2e784da3c", func := "purfling/purflinglaw04.TreeOrders", spec := "treeOrders", unfollowed := true, recurses := true, apart := false, narrowed := true }
def TreeOrdersUptoSaid : Prop := treeOrdersUptoRow.holds Try.pinned (OpenSpec.upto treeOrdersSpec)

/-- 'purflinglaw04.TreeComputes', WHERE WHAT IT READS IS OF BULK AT MOST 1048576: true; the input reads as it did. -/
def treeComputesUptoRow : OpenClaim := { program := "ytmmgdokaapphgaa", sum := "6572511d94934242db82318d568bfe081d556a33c672f4bb1c9eede2e784da3c", func := "purfling/purflinglaw04.TreeComputes", spec := "treeComputes", unfollowed := true, recurses := true, apart := false, narrowed := true }
def TreeComputesUptoSaid : Prop := treeComputesUptoRow.holds Try.pinned (OpenSpec.upto treeComputesSpec)

/-- 'purflinglaw04.TreeTells', WHERE WHAT IT READS IS OF BULK AT MOST 1048576: true; the input reads as it did. -/
def treeTellsUptoRow : OpenClaim := { program := "ytmmgdokaapphgaa", sum := "6572511d94934242db82318d568bfe081d556a33c672f4bb1c9eede2e784da3c", func := "purfling/purflinglaw04.TreeTells", spec := "treeTells", unfollowed := true, recurses := true, apart := false, narrowed := true }
def TreeTellsUptoSaid : Prop := treeTellsUptoRow.holds Try.pinned (OpenSpec.upto treeTellsSpec)

end Rows
end Go.Proofs.Ytmmgdokaapphgaa
