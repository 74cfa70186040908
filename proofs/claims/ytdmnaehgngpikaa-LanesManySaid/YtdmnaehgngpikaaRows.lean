/-
  No cell of these rows narrows 'for every input' (looked for: loops, veiled, ifaces, maps, wideKeys, modest, calm, conditions, laid).
  DERIVED. THE GIVEN ROWS OF THIS SEAT. 7 by the template 'for every input the law returns true; each argument reads behind the call as it read before'; 0 by the template 'total and deterministic' (their statements: YtdmnaehgngpikaaTotals.lean).
  GIVEN WITH THE SEED: the statements are not yours to turn. If you find one false, say at which input.
  Laid BY PROGRAM, IN A SANDBOX (cutbox-rows.mjs): the forced cells as the released guide's own fill.sh prints them over the translation ae72745a42342092… (all of the seat's roots in one cut). By AI agents, Wed Nov 11 2026. No macro, syntax, notation, axiom, sorry.
-/
import Derived.Test.YtdmnaehgngpikaaChecked
import GoSem.Claim
import GoSem.ClaimJoined
import GoSem.ClaimMapViews
import Derived.JoinedTies
import Derived.KernelRfl
namespace Go.Proofs.Ytdmnaehgngpikaa
/- THE CELL 'sum', in the pinned program and in every row, IS THE sha256 OF THE DUMP (.gsa) THAT YtdmnaehgngpikaaProg.lean LOADS. Nothing in Lean hashes anything: it is a label: what it is worth is what the hold of that sum in a sandbox is worth. -/
noncomputable def Try.pinned : Pinned := { name := "ytdmnaehgngpikaa", sum := "ae72745a423420921efb1d7259df9485c1dc73a5c7933c3721438919e5fbf7c4", checked := Try.checked }
namespace Rows
def none {H : Type} : Left H := { results := [], args := [] }

/-- 'purflinglaw06.LanesCols': WHATEVER THE INPUT: true; the input reads as it did. -/
def lanesColsSpec : ChangeSpec := { name := "lanesCols", fn := fun _ => fun
  | [d1, d2, d3] => { results := [.lit (.bool true)], args := [d1, d2, d3] }
  | _ => none }
def lanesColsRow : OpenClaim := { program := "ytdmnaehgngpikaa", sum := "ae72745a423420921efb1d7259df9485c1dc73a5c7933c3721438919e5fbf7c4", func := "purfling/purflinglaw06.LanesCols", spec := "lanesCols", unfollowed := true, recurses := true, apart := false }
def LanesColsSaid : Prop := lanesColsRow.holds Try.pinned (OpenSpec.ofChange lanesColsSpec)

/-- ITS FALSE NEIGHBOUR: 'it returns false'. Refute it at one input. -/
def lanesColsWrong : ChangeSpec := { name := "lanesCols", fn := fun _ => fun
  | [d1, d2, d3] => { results := [.lit (.bool false)], args := [d1, d2, d3] }
  | _ => none }
def LanesColsWrongFalsely : Prop := lanesColsRow.holds Try.pinned (OpenSpec.ofChange lanesColsWrong)

/-- 'purflinglaw06.LanesOnce': WHATEVER THE INPUT: true; the input reads as it did. -/
def lanesOnceSpec : ChangeSpec := { name := "lanesOnce", fn := fun _ => fun
  | [d1, d2] => { results := [.lit (.bool true)], args := [d1, d2] }
  | _ => none }
def lanesOnceRow : OpenClaim := { program := "ytdmnaehgngpikaa", sum := "ae72745a423420921efb1d7259df9485c1dc73a5c7933c3721438919e5fbf7c4", func := "purfling/purflinglaw06.LanesOnce", spec := "lanesOnce", unfollowed := true, recurses := true, apart := false }
def LanesOnceSaid : Prop := lanesOnceRow.holds Try.pinned (OpenSpec.ofChange lanesOnceSpec)

/-- ITS FALSE NEIGHBOUR: 'it returns false'. Refute it at one input. -/
def lanesOnceWrong : ChangeSpec := { name := "lanesOnce", fn := fun _ => fun
  | [d1, d2] => { results := [.lit (.bool false)], args := [d1, d2] }
  | _ => none }
def LanesOnceWrongFalsely : Prop := lanesOnceRow.holds Try.pinned (OpenSpec.ofChange lanesOnceWrong)

/-- 'purflinglaw06.LanesHeads': WHATEVER THE INPUT: true; the input reads as it did. -/
def lanesHeadsSpec : ChangeSpec := { name := "lanesHeads", fn := fun _ => fun
  | [d1, d2] => { results := [.lit (.bool true)], args := [d1, d2] }
  | _ => none }
def lanesHeadsRow : OpenClaim := { program := "ytdmnaehgngpikaa", sum := "ae72745a423420921efb1d7259df9485c1dc73a5c7933c3721438919e5fbf7c4", func := "purfling/purflinglaw06.LanesHeads", spec := "lanesHeads", unfollowed := true, recurses := true, apart := false }
def LanesHeadsSaid : Prop := lanesHeadsRow.holds Try.pinned (OpenSpec.ofChange lanesHeadsSpec)

/-- ITS FALSE NEIGHBOUR: 'it returns false'. Refute it at one input. -/
def lanesHeadsWrong : ChangeSpec := { name := "lanesHeads", fn := fun _ => fun
  | [d1, d2] => { results := [.lit (.bool false)], args := [d1, d2] }
  | _ => none }
def LanesHeadsWrongFalsely : Prop := lanesHeadsRow.holds Try.pinned (OpenSpec.ofChange lanesHeadsWrong)

/-- 'purflinglaw06.LanesMany': WHATEVER THE INPUT: true; the input reads as it did. -/
def lanesManySpec : ChangeSpec := { name := "lanesMany", fn := fun _ => fun
  | [d1, d2] => { results := [.lit (.bool true)], args := [d1, d2] }
  | _ => none }
def lanesManyRow : OpenClaim := { program := "ytdmnaehgngpikaa", sum := "ae72745a423420921efb1d7259df9485c1dc73a5c7933c3721438919e5fbf7c4", func := "purfling/purflinglaw06.LanesMany", spec := "lanesMany", unfollowed := true, recurses := true, apart := false }
def LanesManySaid : Prop := lanesManyRow.holds Try.pinned (OpenSpec.ofChange lanesManySpec)

/-- ITS FALSE NEIGHBOUR: 'it returns false'. Refute it at one input. -/
def lanesManyWrong : ChangeSpec := { name := "lanesMany", fn := fun _ => fun
  | [d1, d2] => { results := [.lit (.bool false)], args := [d1, d2] }
  | _ => none }
def LanesManyWrongFalsely : Prop := lanesManyRow.holds Try.pinned (OpenSpec.ofChange lanesManyWrong)

/-- 'purflinglaw06.LanesRows': WHATEVER THE INPUT: true; the input reads as it did. -/
def lanesRowsSpec : ChangeSpec := { name := "lanesRows", fn := fun _ => fun
  | [d1, d2] => { results := [.lit (.bool true)], args := [d1, d2] }
  | _ => none }
def lanesRowsRow : OpenClaim := { program := "ytdmnaehgngpikaa", sum := "ae72745a423420921efb1d7259df9485c1dc73a5c7933c3721438919e5fbf7c4", func := "purfling/purflinglaw06.LanesRows", spec := "lanesRows", unfollowed := true, recurses := true, apart := false }
def LanesRowsSaid : Prop := lanesRowsRow.holds Try.pinned (OpenSpec.ofChange lanesRowsSpec)

/-- ITS FALSE NEIGHBOUR: 'it returns false'. Refute it at one input. -/
def lanesRowsWrong : ChangeSpec := { name := "lanesRows", fn := fun _ => fun
  | [d1, d2] => { results := [.lit (.bool false)], args := [d1, d2] }
  | _ => none }
def LanesRowsWrongFalsely : Prop := lanesRowsRow.holds Try.pinned (OpenSpec.ofChange lanesRowsWrong)

/-- 'purflinglaw06.LanesCaptions': WHATEVER THE INPUT: true; the input reads as it did. -/
def lanesCaptionsSpec : ChangeSpec := { name := "lanesCaptions", fn := fun _ => fun
  | [d1, d2] => { results := [.lit (.bool true)], args := [d1, d2] }
  | _ => none }
def lanesCaptionsRow : OpenClaim := { program := "ytdmnaehgngpikaa", sum := "ae72745a423420921efb1d7259df9485c1dc73a5c7933c3721438919e5fbf7c4", func := "purfling/purflinglaw06.LanesCaptions", spec := "lanesCaptions", unfollowed := true, recurses := true, apart := false }
def LanesCaptionsSaid : Prop := lanesCaptionsRow.holds Try.pinned (OpenSpec.ofChange lanesCaptionsSpec)

/-- ITS FALSE NEIGHBOUR: 'it returns false'. Refute it at one input. -/
def lanesCaptionsWrong : ChangeSpec := { name := "lanesCaptions", fn := fun _ => fun
  | [d1, d2] => { results := [.lit (.bool false)], args := [d1, d2] }
  | _ => none }
def LanesCaptionsWrongFalsely : Prop := lanesCaptionsRow.holds Try.pinned (OpenSpec.ofChange lanesCaptionsWrong)

/-- 'purflinglaw06.LanesEnds': WHATEVER THE INPUT: true; the input reads as it did. -/
def lanesEndsSpec : ChangeSpec := { name := "lanesEnds", fn := fun _ => fun
  | [d] => { results := [.lit (.bool true)], args := [d] }
  | _ => none }
def lanesEndsRow : OpenClaim := { program := "ytdmnaehgngpikaa", sum := "ae72745a423420921efb1d7259df9485c1dc73a5c7933c3721438919e5fbf7c4", func := "purfling/purflinglaw06.LanesEnds", spec := "lanesEnds", unfollowed := true, recurses := true, apart := false }
def LanesEndsSaid : Prop := lanesEndsRow.holds Try.pinned (OpenSpec.ofChange lanesEndsSpec)

/-- ITS FALSE NEIGHBOUR: 'it returns false'. Refute it at one input. -/
def lanesEndsWrong : ChangeSpec := { name := "lanesEnds", fn := fun _ => fun
  | [d] => { results := [.lit (.bool false)], args := [d] }
  | _ => none }
def LanesEndsWrongFalsely : Prop := lanesEndsRow.holds Try.pinned (OpenSpec.ofChange lanesEndsWrong)

/- THE SECOND FORM. 'bulk': how many values and letters a reading holds, each counted each time it is reached (what is shared counts as often as it is met; a slice's spare places count too). A statement '..UptoSaid' is the law's where the arguments, and the package variables that the reading takes, are together of bulk at most 1048576: NARROWER than '..Said'. Prove '..Said' where nothing that the law and all that it calls make is longer than what came in: it says more and counts as full. Else prove '..UptoSaid'. A law counts once. -/
mutual
def uptoBulk {H : Type} : DataW H → Nat
  | .lit (.string bytes) => bytes.length + 1
  | .lit _ => 1
  | .nil => 1
  | .ptr d => uptoBulk d + 1
  | .slice elems spare => uptoBulkAll elems + uptoBulkAll spare + 1
  | .agg parts => uptoBulkAll parts + 1
  | .iface _ d => uptoBulk d + 1
  | .map entries => uptoBulkEntries entries + 1
  | .held _ => 1
def uptoBulkAll {H : Type} : List (DataW H) → Nat
  | [] => 0
  | d :: r => uptoBulk d + uptoBulkAll r
def uptoBulkEntries {H : Type} : List (Lit × DataW H) → Nat
  | [] => 0
  | x :: r => uptoBulkEntry x + uptoBulkEntries r
def uptoBulkEntry {H : Type} : Lit × DataW H → Nat
  | (.string bytes, d) => bytes.length + uptoBulk d + 1
  | (_, d) => uptoBulk d + 1
 end
def uptoSmall : (H : Type) → List (DataW H) → Bool := fun _ ds => decide (uptoBulkAll ds ≤ 1048576)
def OpenSpec.upto (s : _root_.Go.ChangeSpec) : _root_.Go.OpenSpec := { _root_.Go.OpenSpec.ofChange s with cond := some uptoSmall }

/-- 'purflinglaw06.LanesCols', WHERE WHAT IT READS IS OF BULK AT MOST 1048576: true; the input reads as it did. -/
def lanesColsUptoRow : OpenClaim := { program := "ytdmnaehgngpikaa", sum := "ae72745a423420921efb1d7259df9485c1dc73a5c7933c3721438919e5fbf7c4", func := "purfling/purflinglaw06.LanesCols", spec := "lanesCols", unfollowed := true, recurses := true, apart := false, narrowed := true }
def LanesColsUptoSaid : Prop := lanesColsUptoRow.holds Try.pinned (OpenSpec.upto lanesColsSpec)

/-- 'purflinglaw06.LanesOnce', WHERE WHAT IT READS IS OF BULK AT MOST 1048576: true; the input reads as it did. -/
def lanesOnceUptoRow : OpenClaim := { program := "ytdmnaehgngpikaa", sum := "ae72745a423420921efb1d7259df9485c1dc73a5c7933c3721438919e5fbf7c4", func := "purfling/purflinglaw06.LanesOnce", spec := "lanesOnce", unfollowed := true, recurses := true, apart := false, narrowed := true }
def LanesOnceUptoSaid : Prop := lanesOnceUptoRow.holds Try.pinned (OpenSpec.upto lanesOnceSpec)

/-- 'purflinglaw06.LanesHeads', WHERE WHAT IT READS IS OF BULK AT MOST 1048576: true; the input reads as it did. -/
def lanesHeadsUptoRow : OpenClaim := { program := "ytdmnaehgngpikaa", sum := "ae72745a423420921efb1d7259df9485c1dc73a5c7933c3721438919e5fbf7c4", func := "purfling/purflinglaw06.LanesHeads", spec := "lanesHeads", unfollowed := true, recurses := true, apart := false, narrowed := true }
def LanesHeadsUptoSaid : Prop := lanesHeadsUptoRow.holds Try.pinned (OpenSpec.upto lanesHeadsSpec)

/-- 'purflinglaw06.LanesMany', WHERE WHAT IT READS IS OF BULK AT MOST 1048576: true; the input reads as it did. -/
def lanesManyUptoRow : OpenClaim := { program := "ytdmnaehgngpikaa", sum := "ae72745a423420921efb1d7259df9485c1dc73a5c7933c3721438919e5fbf7c4", func := "purfling/purflinglaw06.LanesMany", spec := "lanesMany", unfollowed := true, recurses := true, apart := false, narrowed := true }
def LanesManyUptoSaid : Prop := lanesManyUptoRow.holds Try.pinned (OpenSpec.upto lanesManySpec)

/-- 'purflinglaw06.LanesRows', WHERE WHAT IT READS IS OF BULK AT MOST 1048576: true; the input reads as it did. -/
def lanesRowsUptoRow : OpenClaim := { program := "ytdmnaehgngpikaa", sum := "ae72745a423420921efb1d7259df9485c1dc73a5c7933c3721438919e5fbf7c4", func := "purfling/purflinglaw06.LanesRows", spec := "lanesRows", unfollowed := true, recurses := true, apart := false, narrowed := true }
def LanesRowsUptoSaid : Prop := lanesRowsUptoRow.holds Try.pinned (OpenSpec.upto lanesRowsSpec)

/-- 'purflinglaw06.LanesCaptions', WHERE WHAT IT READS IS OF BULK AT MOST 1048576: true; the input reads as it did. -/
def lanesCaptionsUptoRow : OpenClaim := { program := "ytdmnaehgngpikaa", sum := "ae72745a423420921efb1d7259df9485c1dc73a5c7933c3721438919e5fbf7c4", func := "purfling/purflinglaw06.LanesCaptions", spec := "lanesCaptions", unfollowed := true, recurses := true, apart := false, narrowed := true }
def LanesCaptionsUptoSaid : Prop := lanesCaptionsUptoRow.holds Try.pinned (OpenSpec.upto lanesCaptionsSpec)

/-- 'purflinglaw06.LanesEnds', WHERE WHAT IT READS IS OF BULK AT MOST 1048576: true; the input reads as it did. -/
def lanesEndsUptoRow : OpenClaim := { program := "ytdmnaehgngpikaa", sum := "ae72745a423420921efb1d7259df9485c1dc73a5c7933c3721438919e5fbf7c4", func := "purfling/purflinglaw06.LanesEnds", spec := "lanesEnds", unfollowed := true, recurses := true, apart := false, narrowed := true }
def LanesEndsUptoSaid : Prop := lanesEndsUptoRow.holds Try.pinned (OpenSpec.upto lanesEndsSpec)

end Rows
end Go.Proofs.Ytdmnaehgngpikaa
