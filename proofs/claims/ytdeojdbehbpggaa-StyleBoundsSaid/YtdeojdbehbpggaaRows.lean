/-
  No cell of these rows narrows 'for every input' (looked for: loops, veiled, ifaces, maps, wideKeys, modest, calm, conditions, laid).
  DERIVED. THE GIVEN ROWS OF THIS SEAT. 7 by the template 'for every input the law returns true; each argument reads behind the call as it read before'; 0 by the template 'total and deterministic' (their statements: YtdeojdbehbpggaaTotals.lean).
  GIVEN WITH THE SEED: the statements are not yours to turn. If you find one false, say at which input.
  Laid BY PROGRAM, IN A SANDBOX (cutbox-rows.mjs): the forced cells as the released guide's own fill.sh prints them over the translation ddff79757c357808… (all of the seat's roots in one cut). By AI agents, Wed Nov 11 2026. No macro, syntax, notation, axiom, sorry.
-/
import Derived.Test.YtdeojdbehbpggaaChecked
import GoSem.Claim
import GoSem.ClaimJoined
import GoSem.ClaimMapViews
import Derived.JoinedTies
import Derived.KernelRfl
namespace Go.Proofs.Ytdeojdbehbpggaa
/- THE CELL 'sum', in the pinned program and in every row, IS THE sha256 OF THE DUMP (.gsa) THAT YtdeojdbehbpggaaProg.lean LOADS. Nothing in Lean hashes anything: it is a label: what it is worth is what the hold of that sum in a sandbox is worth. -/
noncomputable def Try.pinned : Pinned := { name := "ytdeojdbehbpggaa", sum := "ddff79757c357808fe99bb1996e25024de8b1db9066baf46a0cc3f7a9e53e186", checked := Try.checked }
namespace Rows
def none {H : Type} : Left H := { results := [], args := [] }

/-- 'purflinglaw03.StyleComputes': WHATEVER THE INPUT: true; the input reads as it did. -/
def styleComputesSpec : ChangeSpec := { name := "styleComputes", fn := fun _ => fun
  | [d] => { results := [.lit (.bool true)], args := [d] }
  | _ => none }
def styleComputesRow : OpenClaim := { program := "ytdeojdbehbpggaa", sum := "ddff79757c357808fe99bb1996e25024de8b1db9066baf46a0cc3f7a9e53e186", func := "purfling/purflinglaw03.StyleComputes", spec := "styleComputes", unfollowed := true, recurses := true, apart := false }
def StyleComputesSaid : Prop := styleComputesRow.holds Try.pinned (OpenSpec.ofChange styleComputesSpec)

/-- ITS FALSE NEIGHBOUR: 'it returns false'. Refute it at one input. -/
def styleComputesWrong : ChangeSpec := { name := "styleComputes", fn := fun _ => fun
  | [d] => { results := [.lit (.bool false)], args := [d] }
  | _ => none }
def StyleComputesWrongFalsely : Prop := styleComputesRow.holds Try.pinned (OpenSpec.ofChange styleComputesWrong)

/-- 'purflinglaw03.StyleFrames': WHATEVER THE INPUT: true; the input reads as it did. -/
def styleFramesSpec : ChangeSpec := { name := "styleFrames", fn := fun _ => fun
  | [d1, d2] => { results := [.lit (.bool true)], args := [d1, d2] }
  | _ => none }
def styleFramesRow : OpenClaim := { program := "ytdeojdbehbpggaa", sum := "ddff79757c357808fe99bb1996e25024de8b1db9066baf46a0cc3f7a9e53e186", func := "purfling/purflinglaw03.StyleFrames", spec := "styleFrames", unfollowed := true, recurses := true, apart := false }
def StyleFramesSaid : Prop := styleFramesRow.holds Try.pinned (OpenSpec.ofChange styleFramesSpec)

/-- ITS FALSE NEIGHBOUR: 'it returns false'. Refute it at one input. -/
def styleFramesWrong : ChangeSpec := { name := "styleFrames", fn := fun _ => fun
  | [d1, d2] => { results := [.lit (.bool false)], args := [d1, d2] }
  | _ => none }
def StyleFramesWrongFalsely : Prop := styleFramesRow.holds Try.pinned (OpenSpec.ofChange styleFramesWrong)

/-- 'purflinglaw03.StyleAgain': WHATEVER THE INPUT: true; the input reads as it did. -/
def styleAgainSpec : ChangeSpec := { name := "styleAgain", fn := fun _ => fun
  | [d] => { results := [.lit (.bool true)], args := [d] }
  | _ => none }
def styleAgainRow : OpenClaim := { program := "ytdeojdbehbpggaa", sum := "ddff79757c357808fe99bb1996e25024de8b1db9066baf46a0cc3f7a9e53e186", func := "purfling/purflinglaw03.StyleAgain", spec := "styleAgain", unfollowed := true, recurses := true, apart := false }
def StyleAgainSaid : Prop := styleAgainRow.holds Try.pinned (OpenSpec.ofChange styleAgainSpec)

/-- ITS FALSE NEIGHBOUR: 'it returns false'. Refute it at one input. -/
def styleAgainWrong : ChangeSpec := { name := "styleAgain", fn := fun _ => fun
  | [d] => { results := [.lit (.bool false)], args := [d] }
  | _ => none }
def StyleAgainWrongFalsely : Prop := styleAgainRow.holds Try.pinned (OpenSpec.ofChange styleAgainWrong)

/-- 'purflinglaw03.StyleBounds': WHATEVER THE INPUT: true; the input reads as it did. -/
def styleBoundsSpec : ChangeSpec := { name := "styleBounds", fn := fun _ => fun
  | [d] => { results := [.lit (.bool true)], args := [d] }
  | _ => none }
def styleBoundsRow : OpenClaim := { program := "ytdeojdbehbpggaa", sum := "ddff79757c357808fe99bb1996e25024de8b1db9066baf46a0cc3f7a9e53e186", func := "purfling/purflinglaw03.StyleBounds", spec := "styleBounds", unfollowed := true, recurses := true, apart := false }
def StyleBoundsSaid : Prop := styleBoundsRow.holds Try.pinned (OpenSpec.ofChange styleBoundsSpec)

/-- ITS FALSE NEIGHBOUR: 'it returns false'. Refute it at one input. -/
def styleBoundsWrong : ChangeSpec := { name := "styleBounds", fn := fun _ => fun
  | [d] => { results := [.lit (.bool false)], args := [d] }
  | _ => none }
def StyleBoundsWrongFalsely : Prop := styleBoundsRow.holds Try.pinned (OpenSpec.ofChange styleBoundsWrong)

/-- 'purflinglaw03.StyleKeeps': WHATEVER THE INPUT: true; the input reads as it did. -/
def styleKeepsSpec : ChangeSpec := { name := "styleKeeps", fn := fun _ => fun
  | [d] => { results := [.lit (.bool true)], args := [d] }
  | _ => none }
def styleKeepsRow : OpenClaim := { program := "ytdeojdbehbpggaa", sum := "ddff79757c357808fe99bb1996e25024de8b1db9066baf46a0cc3f7a9e53e186", func := "purfling/purflinglaw03.StyleKeeps", spec := "styleKeeps", unfollowed := true, recurses := true, apart := false }
def StyleKeepsSaid : Prop := styleKeepsRow.holds Try.pinned (OpenSpec.ofChange styleKeepsSpec)

/-- ITS FALSE NEIGHBOUR: 'it returns false'. Refute it at one input. -/
def styleKeepsWrong : ChangeSpec := { name := "styleKeeps", fn := fun _ => fun
  | [d] => { results := [.lit (.bool false)], args := [d] }
  | _ => none }
def StyleKeepsWrongFalsely : Prop := styleKeepsRow.holds Try.pinned (OpenSpec.ofChange styleKeepsWrong)

/-- 'purflinglaw03.StyleSizes': WHATEVER THE INPUT: true; the input reads as it did. -/
def styleSizesSpec : ChangeSpec := { name := "styleSizes", fn := fun _ => fun
  | [d1, d2, d3] => { results := [.lit (.bool true)], args := [d1, d2, d3] }
  | _ => none }
def styleSizesRow : OpenClaim := { program := "ytdeojdbehbpggaa", sum := "ddff79757c357808fe99bb1996e25024de8b1db9066baf46a0cc3f7a9e53e186", func := "purfling/purflinglaw03.StyleSizes", spec := "styleSizes", unfollowed := true, recurses := true, named := ["math/bits.divideError", "math/bits.overflowError"], apart := false }
def StyleSizesSaid : Prop := styleSizesRow.holds Try.pinned (OpenSpec.ofChange styleSizesSpec)

/-- ITS FALSE NEIGHBOUR: 'it returns false'. Refute it at one input. -/
def styleSizesWrong : ChangeSpec := { name := "styleSizes", fn := fun _ => fun
  | [d1, d2, d3] => { results := [.lit (.bool false)], args := [d1, d2, d3] }
  | _ => none }
def StyleSizesWrongFalsely : Prop := styleSizesRow.holds Try.pinned (OpenSpec.ofChange styleSizesWrong)

/-- 'purflinglaw03.StyleWants': WHATEVER THE INPUT: true; the input reads as it did. -/
def styleWantsSpec : ChangeSpec := { name := "styleWants", fn := fun _ => fun
  | [d1, d2, d3] => { results := [.lit (.bool true)], args := [d1, d2, d3] }
  | _ => none }
def styleWantsRow : OpenClaim := { program := "ytdeojdbehbpggaa", sum := "ddff79757c357808fe99bb1996e25024de8b1db9066baf46a0cc3f7a9e53e186", func := "purfling/purflinglaw03.StyleWants", spec := "styleWants", unfollowed := true, recurses := true, named := ["math/bits.divideError", "math/bits.overflowError"], apart := false }
def StyleWantsSaid : Prop := styleWantsRow.holds Try.pinned (OpenSpec.ofChange styleWantsSpec)

/-- ITS FALSE NEIGHBOUR: 'it returns false'. Refute it at one input. -/
def styleWantsWrong : ChangeSpec := { name := "styleWants", fn := fun _ => fun
  | [d1, d2, d3] => { results := [.lit (.bool false)], args := [d1, d2, d3] }
  | _ => none }
def StyleWantsWrongFalsely : Prop := styleWantsRow.holds Try.pinned (OpenSpec.ofChange styleWantsWrong)

/- THE SECOND FORM. 'bulk': how many values and letters a reading holds, each counted each time it is reached (what is shared counts as often as it is met; a slice's spare places count too). A statement '..UptoSaid' is the law's where the arguments, and the package variables that the reading takes, are together of bulk at most 1048576: NARROWER than '..Said'. Prove '..Said' where nothing that the law and all that it calls make is longer than what came in: it says more and counts as full. Else prove '..UptoSaid'. A law counts once. -/
mutual
def uptoBulk {H : Type} : DataW H → Nat
  | .lit (.string bytes) => bytes.length + 1
  | .lit _ => 1
  | .nil => 1
  | .ptr d => uptoBulk d + 1
  | .slice elems spare => uptoBulkAll elems + uptoBulkAll spare + 1
  | .agg parts => uptoBulkAll parts + 1
  | .iface _ d => uptoBulk d + 1
  | .map entries => uptoBulkEntries entries + 1
  | .held _ => 1
def uptoBulkAll {H : Type} : List (DataW H) → Nat
  | [] => 0
  | d :: r => uptoBulk d + uptoBulkAll r
def uptoBulkEntries {H : Type} : List (Lit × DataW H) → Nat
  | [] => 0
  | x :: r => uptoBulkEntry x + uptoBulkEntries r
def uptoBulkEntry {H : Type} : Lit × DataW H → Nat
  | (.string bytes, d) => bytes.length + uptoBulk d + 1
  | (_, d) => uptoBulk d + 1
 end
def uptoSmall : (H : Type) → List (DataW H) → Bool := fun _ ds => decide (uptoBulkAll ds ≤ 1048576)
def OpenSpec.upto (s : _root_.Go.ChangeSpec) : _root_.Go.OpenSpec := { _root_.Go.OpenSpec.ofChange s with cond := some uptoSmall }

/-- 'purflinglaw03.StyleComputes', WHERE WHAT IT READS IS OF BULK AT MOST 1048576: true; the input reads as it did. -/
def styleComputesUptoRow : OpenClaim := { program := "ytdeojdbehbpggaa", sum := "ddff79757c357808fe99bb1996e25024de8b1db9066baf46a0cc3f7a9e53e186", func := "purfling/purflinglaw03.StyleComputes", spec := "styleComputes", unfollowed := true, recurses := true, apart := false, narrowed := true }
def StyleComputesUptoSaid : Prop := styleComputesUptoRow.holds Try.pinned (OpenSpec.upto styleComputesSpec)

/-- 'purflinglaw03.StyleFrames', WHERE WHAT IT READS IS OF BULK AT MOST 1048576: true; the input reads as it did. -/
def styleFramesUptoRow : OpenClaim := { program := "ytdeojdbehbpggaa", sum := "ddff79757c357808fe99bb1996e25024de8b1db9066baf46a0cc3f7a9e53e186", func := "purfling/purflinglaw03.StyleFrames", spec := "styleFrames", unfollowed := true, recurses := true, apart := false, narrowed := true }
def StyleFramesUptoSaid : Prop := styleFramesUptoRow.holds Try.pinned (OpenSpec.upto styleFramesSpec)

/-- 'purflinglaw03.StyleAgain', WHERE WHAT IT READS IS OF BULK AT MOST 1048576: true; the input reads as it did. -/
def styleAgainUptoRow : OpenClaim := { program := "ytdeojdbehbpggaa", sum := "ddff79757c357808fe99bb1996e25024de8b1db9066baf46a0cc3f7a9e53e186", func := "purfling/purflinglaw03.StyleAgain", spec := "styleAgain", unfollowed := true, recurses := true, apart := false, narrowed := true }
def StyleAgainUptoSaid : Prop := styleAgainUptoRow.holds Try.pinned (OpenSpec.upto styleAgainSpec)

/-- 'purflinglaw03.StyleBounds', WHERE WHAT IT READS IS OF BULK AT MOST 1048576: true; the input reads as it did. -/
def styleBoundsUptoRow : OpenClaim := { program := "ytdeojdbehbpggaa", sum := "ddff79757c357808fe99bb1996e25024de8b1db9066baf46a0cc3f7a9e53e186", func := "purfling/purflinglaw03.StyleBounds", spec := "styleBounds", unfollowed := true, recurses := true, apart := false, narrowed := true }
def StyleBoundsUptoSaid : Prop := styleBoundsUptoRow.holds Try.pinned (OpenSpec.upto styleBoundsSpec)

/-- 'purflinglaw03.StyleKeeps', WHERE WHAT IT READS IS OF BULK AT MOST 1048576: true; the input reads as it did. -/
def styleKeepsUptoRow : OpenClaim := { program := "ytdeojdbehbpggaa", sum := "ddff79757c357808fe99bb1996e25024de8b1db9066baf46a0cc3f7a9e53e186", func := "purfling/purflinglaw03.StyleKeeps", spec := "styleKeeps", unfollowed := true, recurses := true, apart := false, narrowed := true }
def StyleKeepsUptoSaid : Prop := styleKeepsUptoRow.holds Try.pinned (OpenSpec.upto styleKeepsSpec)

/-- 'purflinglaw03.StyleSizes', WHERE WHAT IT READS IS OF BULK AT MOST 1048576: true; the input reads as it did. -/
def styleSizesUptoRow : OpenClaim := { program := "ytdeojdbehbpggaa", sum := "ddff79757c357808fe99bb1996e25024de8b1db9066baf46a0cc3f7a9e53e186", func := "purfling/purflinglaw03.StyleSizes", spec := "styleSizes", unfollowed := true, recurses := true, named := ["math/bits.divideError", "math/bits.overflowError"], apart := false, narrowed := true }
def StyleSizesUptoSaid : Prop := styleSizesUptoRow.holds Try.pinned (OpenSpec.upto styleSizesSpec)

/-- 'purflinglaw03.StyleWants', WHERE WHAT IT READS IS OF BULK AT MOST 1048576: true; the input reads as it did. -/
def styleWantsUptoRow : OpenClaim := { program := "ytdeojdbehbpggaa", sum := "ddff79757c357808fe99bb1996e25024de8b1db9066baf46a0cc3f7a9e53e186", func := "purfling/purflinglaw03.StyleWants", spec := "styleWants", unfollowed := true, recurses := true, named := ["math/bits.divideError", "math/bits.overflowError"], apart := false, narrowed := true }
def StyleWantsUptoSaid : Prop := styleWantsUptoRow.holds Try.pinned (OpenSpec.upto styleWantsSpec)

end Rows
end Go.Proofs.Ytdeojdbehbpggaa
