/-
  No cell of these rows narrows 'for every input' (looked for: loops, veiled, ifaces, maps, wideKeys, modest, calm, conditions, laid).
  DERIVED. THE GIVEN ROWS OF THIS SEAT. 7 by the template 'for every input the law returns true; each argument reads behind the call as it read before'; 0 by the template 'total and deterministic' (their statements: YteckkphbgfmolaaTotals.lean).
  GIVEN WITH THE SEED: the statements are not yours to turn. If you find one false, say at which input.
  Laid BY PROGRAM, IN A SANDBOX (cutbox-rows.mjs): the forced cells as the released guide's own fill.sh prints them over the translation 63cde63e803b673c… (all of the seat's roots in one cut). By AI agents, Wed Nov 11 2026. No macro, syntax, notation, axiom, sorry.
-/
import Derived.Test.YteckkphbgfmolaaChecked
import GoSem.Claim
import GoSem.ClaimJoined
import GoSem.ClaimMapViews
import Derived.JoinedTies
import Derived.KernelRfl
namespace Go.Proofs.Yteckkphbgfmolaa
/- THE CELL 'sum', in the pinned program and in every row, IS THE sha256 OF THE DUMP (.gsa) THAT YteckkphbgfmolaaProg.lean LOADS. Nothing in Lean hashes anything: it is a label: what it is worth is what the hold of that sum in a sandbox is worth. -/
noncomputable def Try.pinned : Pinned := { name := "yteckkphbgfmolaa", sum := "63cde63e803b673c79378c1a0eaec3dc0040ecfadd8c532826e802abd26af406", checked := Try.checked }
namespace Rows
def none {H : Type} : Left H := { results := [], args := [] }

/-- 'purflinglaw08.LinesBreak': WHATEVER THE INPUT: true; the input reads as it did. -/
def linesBreakSpec : ChangeSpec := { name := "linesBreak", fn := fun _ => fun
  | [d1, d2] => { results := [.lit (.bool true)], args := [d1, d2] }
  | _ => none }
def linesBreakRow : OpenClaim := { program := "yteckkphbgfmolaa", sum := "63cde63e803b673c79378c1a0eaec3dc0040ecfadd8c532826e802abd26af406", func := "purfling/purflinglaw08.LinesBreak", spec := "linesBreak", unfollowed := true, recurses := true, apart := false }
def LinesBreakSaid : Prop := linesBreakRow.holds Try.pinned (OpenSpec.ofChange linesBreakSpec)

/-- ITS FALSE NEIGHBOUR: 'it returns false'. Refute it at one input. -/
def linesBreakWrong : ChangeSpec := { name := "linesBreak", fn := fun _ => fun
  | [d1, d2] => { results := [.lit (.bool false)], args := [d1, d2] }
  | _ => none }
def LinesBreakWrongFalsely : Prop := linesBreakRow.holds Try.pinned (OpenSpec.ofChange linesBreakWrong)

/-- 'purflinglaw08.LinesWide': WHATEVER THE INPUT: true; the input reads as it did. -/
def linesWideSpec : ChangeSpec := { name := "linesWide", fn := fun _ => fun
  | [d1, d2, d3] => { results := [.lit (.bool true)], args := [d1, d2, d3] }
  | _ => none }
def linesWideRow : OpenClaim := { program := "yteckkphbgfmolaa", sum := "63cde63e803b673c79378c1a0eaec3dc0040ecfadd8c532826e802abd26af406", func := "purfling/purflinglaw08.LinesWide", spec := "linesWide", unfollowed := true, recurses := true, apart := false }
def LinesWideSaid : Prop := linesWideRow.holds Try.pinned (OpenSpec.ofChange linesWideSpec)

/-- ITS FALSE NEIGHBOUR: 'it returns false'. Refute it at one input. -/
def linesWideWrong : ChangeSpec := { name := "linesWide", fn := fun _ => fun
  | [d1, d2, d3] => { results := [.lit (.bool false)], args := [d1, d2, d3] }
  | _ => none }
def LinesWideWrongFalsely : Prop := linesWideRow.holds Try.pinned (OpenSpec.ofChange linesWideWrong)

/-- 'purflinglaw08.LinesAll': WHATEVER THE INPUT: true; the input reads as it did. -/
def linesAllSpec : ChangeSpec := { name := "linesAll", fn := fun _ => fun
  | [d1, d2] => { results := [.lit (.bool true)], args := [d1, d2] }
  | _ => none }
def linesAllRow : OpenClaim := { program := "yteckkphbgfmolaa", sum := "63cde63e803b673c79378c1a0eaec3dc0040ecfadd8c532826e802abd26af406", func := "purfling/purflinglaw08.LinesAll", spec := "linesAll", unfollowed := true, recurses := true, apart := false }
def LinesAllSaid : Prop := linesAllRow.holds Try.pinned (OpenSpec.ofChange linesAllSpec)

/-- ITS FALSE NEIGHBOUR: 'it returns false'. Refute it at one input. -/
def linesAllWrong : ChangeSpec := { name := "linesAll", fn := fun _ => fun
  | [d1, d2] => { results := [.lit (.bool false)], args := [d1, d2] }
  | _ => none }
def LinesAllWrongFalsely : Prop := linesAllRow.holds Try.pinned (OpenSpec.ofChange linesAllWrong)

/-- 'purflinglaw08.LinesFewer': WHATEVER THE INPUT: true; the input reads as it did. -/
def linesFewerSpec : ChangeSpec := { name := "linesFewer", fn := fun _ => fun
  | [d1, d2, d3] => { results := [.lit (.bool true)], args := [d1, d2, d3] }
  | _ => none }
def linesFewerRow : OpenClaim := { program := "yteckkphbgfmolaa", sum := "63cde63e803b673c79378c1a0eaec3dc0040ecfadd8c532826e802abd26af406", func := "purfling/purflinglaw08.LinesFewer", spec := "linesFewer", unfollowed := true, recurses := true, apart := false }
def LinesFewerSaid : Prop := linesFewerRow.holds Try.pinned (OpenSpec.ofChange linesFewerSpec)

/-- ITS FALSE NEIGHBOUR: 'it returns false'. Refute it at one input. -/
def linesFewerWrong : ChangeSpec := { name := "linesFewer", fn := fun _ => fun
  | [d1, d2, d3] => { results := [.lit (.bool false)], args := [d1, d2, d3] }
  | _ => none }
def LinesFewerWrongFalsely : Prop := linesFewerRow.holds Try.pinned (OpenSpec.ofChange linesFewerWrong)

/-- 'purflinglaw08.LinesBounds': WHATEVER THE INPUT: true; the input reads as it did. -/
def linesBoundsSpec : ChangeSpec := { name := "linesBounds", fn := fun _ => fun
  | [d1, d2] => { results := [.lit (.bool true)], args := [d1, d2] }
  | _ => none }
def linesBoundsRow : OpenClaim := { program := "yteckkphbgfmolaa", sum := "63cde63e803b673c79378c1a0eaec3dc0040ecfadd8c532826e802abd26af406", func := "purfling/purflinglaw08.LinesBounds", spec := "linesBounds", unfollowed := true, recurses := true, apart := false }
def LinesBoundsSaid : Prop := linesBoundsRow.holds Try.pinned (OpenSpec.ofChange linesBoundsSpec)

/-- ITS FALSE NEIGHBOUR: 'it returns false'. Refute it at one input. -/
def linesBoundsWrong : ChangeSpec := { name := "linesBounds", fn := fun _ => fun
  | [d1, d2] => { results := [.lit (.bool false)], args := [d1, d2] }
  | _ => none }
def LinesBoundsWrongFalsely : Prop := linesBoundsRow.holds Try.pinned (OpenSpec.ofChange linesBoundsWrong)

/-- 'purflinglaw08.LinesSums': WHATEVER THE INPUT: true; the input reads as it did. -/
def linesSumsSpec : ChangeSpec := { name := "linesSums", fn := fun _ => fun
  | [d1, d2, d3, d4] => { results := [.lit (.bool true)], args := [d1, d2, d3, d4] }
  | _ => none }
def linesSumsRow : OpenClaim := { program := "yteckkphbgfmolaa", sum := "63cde63e803b673c79378c1a0eaec3dc0040ecfadd8c532826e802abd26af406", func := "purfling/purflinglaw08.LinesSums", spec := "linesSums", unfollowed := true, recurses := true, apart := false }
def LinesSumsSaid : Prop := linesSumsRow.holds Try.pinned (OpenSpec.ofChange linesSumsSpec)

/-- ITS FALSE NEIGHBOUR: 'it returns false'. Refute it at one input. -/
def linesSumsWrong : ChangeSpec := { name := "linesSums", fn := fun _ => fun
  | [d1, d2, d3, d4] => { results := [.lit (.bool false)], args := [d1, d2, d3, d4] }
  | _ => none }
def LinesSumsWrongFalsely : Prop := linesSumsRow.holds Try.pinned (OpenSpec.ofChange linesSumsWrong)

/-- 'purflinglaw08.LinesMany': WHATEVER THE INPUT: true; the input reads as it did. -/
def linesManySpec : ChangeSpec := { name := "linesMany", fn := fun _ => fun
  | [d] => { results := [.lit (.bool true)], args := [d] }
  | _ => none }
def linesManyRow : OpenClaim := { program := "yteckkphbgfmolaa", sum := "63cde63e803b673c79378c1a0eaec3dc0040ecfadd8c532826e802abd26af406", func := "purfling/purflinglaw08.LinesMany", spec := "linesMany", unfollowed := true, recurses := true, apart := false }
def LinesManySaid : Prop := linesManyRow.holds Try.pinned (OpenSpec.ofChange linesManySpec)

/-- ITS FALSE NEIGHBOUR: 'it returns false'. Refute it at one input. -/
def linesManyWrong : ChangeSpec := { name := "linesMany", fn := fun _ => fun
  | [d] => { results := [.lit (.bool false)], args := [d] }
  | _ => none }
def LinesManyWrongFalsely : Prop := linesManyRow.holds Try.pinned (OpenSpec.ofChange linesManyWrong)

/- THE SECOND FORM. 'bulk': how many values and letters a reading holds, each counted each time it is reached (what is shared counts as often as it is met; a slice's spare places count too). A statement '..UptoSaid' is the law's where the arguments, and the package variables that the reading takes, are together of bulk at most 1048576: NARROWER than '..Said'. Prove '..Said' where nothing that the law and all that it calls make is longer than what came in: it says more and counts as full. Else prove '..UptoSaid'. A law counts once. -/
mutual
def uptoBulk {H : Type} : DataW H → Nat
  | .lit (.string bytes) => bytes.length + 1
  | .lit _ => 1
  | .nil => 1
  | .ptr d => uptoBulk d + 1
  | .slice elems spare => uptoBulkAll elems + uptoBulkAll spare + 1
  | .agg parts => uptoBulkAll parts + 1
  | .iface _ d => uptoBulk d + 1
  | .map entries => uptoBulkEntries entries + 1
  | .held _ => 1
def uptoBulkAll {H : Type} : List (DataW H) → Nat
  | [] => 0
  | d :: r => uptoBulk d + uptoBulkAll r
def uptoBulkEntries {H : Type} : List (Lit × DataW H) → Nat
  | [] => 0
  | x :: r => uptoBulkEntry x + uptoBulkEntries r
def uptoBulkEntry {H : Type} : Lit × DataW H → Nat
  | (.string bytes, d) => bytes.length + uptoBulk d + 1
  | (_, d) => uptoBulk d + 1
 end
def uptoSmall : (H : Type) → List (DataW H) → Bool := fun _ ds => decide (uptoBulkAll ds ≤ 1048576)
def OpenSpec.upto (s : _root_.Go.ChangeSpec) : _root_.Go.OpenSpec := { _root_.Go.OpenSpec.ofChange s with cond := some uptoSmall }

/-- 'purflinglaw08.LinesBreak', WHERE WHAT IT READS IS OF BULK AT MOST 1048576: true; the input reads as it did. -/
def linesBreakUptoRow : OpenClaim := { program := "yteckkphbgfmolaa", sum := "63cde63e803b673c79378c1a0eaec3dc0040ecfadd8c532826e802abd26af406", func := "purfling/purflinglaw08.LinesBreak", spec := "linesBreak", unfollowed := true, recurses := true, apart := false, narrowed := true }
def LinesBreakUptoSaid : Prop := linesBreakUptoRow.holds Try.pinned (OpenSpec.upto linesBreakSpec)

/-- 'purflinglaw08.LinesWide', WHERE WHAT IT READS IS OF BULK AT MOST 1048576: true; the input reads as it did. -/
def linesWideUptoRow : OpenClaim := { program := "yteckkphbgfmolaa", sum := "63cde63e803b673c79378c1a0eaec3dc0040ecfadd8c532826e802abd26af406", func := "purfling/purflinglaw08.LinesWide", spec := "linesWide", unfollowed := true, recurses := true, apart := false, narrowed := true }
def LinesWideUptoSaid : Prop := linesWideUptoRow.holds Try.pinned (OpenSpec.upto linesWideSpec)

/-- 'purflinglaw08.LinesAll', WHERE WHAT IT READS IS OF BULK AT MOST 1048576: true; the input reads as it did. -/
def linesAllUptoRow : OpenClaim := { program := "yteckkphbgfmolaa", sum := "63cde63e803b673c79378c1a0eaec3dc0040ecfadd8c532826e802abd26af406", func := "purfling/purflinglaw08.LinesAll", spec := "linesAll", unfollowed := true, recurses := true, apart := false, narrowed := true }
def LinesAllUptoSaid : Prop := linesAllUptoRow.holds Try.pinned (OpenSpec.upto linesAllSpec)

/-- 'purflinglaw08.LinesFewer', WHERE WHAT IT READS IS OF BULK AT MOST 1048576: true; the input reads as it did. -/
def linesFewerUptoRow : OpenClaim := { program := "yteckkphbgfmolaa", sum := "63cde63e803b673c79378c1a0eaec3dc0040ecfadd8c532826e802abd26af406", func := "purfling/purflinglaw08.LinesFewer", spec := "linesFewer", unfollowed := true, recurses := true, apart := false, narrowed := true }
def LinesFewerUptoSaid : Prop := linesFewerUptoRow.holds Try.pinned (OpenSpec.upto linesFewerSpec)

/-- 'purflinglaw08.LinesBounds', WHERE WHAT IT READS IS OF BULK AT MOST 1048576: true; the input reads as it did. -/
def linesBoundsUptoRow : OpenClaim := { program := "yteckkphbgfmolaa", sum := "63cde63e803b673c79378c1a0eaec3dc0040ecfadd8c532826e802abd26af406", func := "purfling/purflinglaw08.LinesBounds", spec := "linesBounds", unfollowed := true, recurses := true, apart := false, narrowed := true }
def LinesBoundsUptoSaid : Prop := linesBoundsUptoRow.holds Try.pinned (OpenSpec.upto linesBoundsSpec)

/-- 'purflinglaw08.LinesSums', WHERE WHAT IT READS IS OF BULK AT MOST 1048576: true; the input reads as it did. -/
def linesSumsUptoRow : OpenClaim := { program := "yteckkphbgfmolaa", sum := "63cde63e803b673c79378c1a0eaec3dc0040ecfadd8c532826e802abd26af406", func := "purfling/purflinglaw08.LinesSums", spec := "linesSums", unfollowed := true, recurses := true, apart := false, narrowed := true }
def LinesSumsUptoSaid : Prop := linesSumsUptoRow.holds Try.pinned (OpenSpec.upto linesSumsSpec)

/-- 'purflinglaw08.LinesMany', WHERE WHAT IT READS IS OF BULK AT MOST 1048576: true; the input reads as it did. -/
def linesManyUptoRow : OpenClaim := { program := "yteckkphbgfmolaa", sum := "63cde63e803b673c79378c1a0eaec3dc0040ecfadd8c532826e802abd26af406", func := "purfling/purflinglaw08.LinesMany", spec := "linesMany", unfollowed := true, recurses := true, apart := false, narrowed := true }
def LinesManyUptoSaid : Prop := linesManyUptoRow.holds Try.pinned (OpenSpec.upto linesManySpec)

end Rows
end Go.Proofs.Yteckkphbgfmolaa
