/-
  No cell of these rows narrows 'for every input' (looked for: loops, veiled, ifaces, maps, wideKeys, modest, calm, conditions, laid).
  DERIVED. THE GIVEN ROWS OF THIS SEAT. 7 by the template 'for every input the law returns true; each argument reads behind the call as it read before'; 0 by the template 'total and deterministic' (their statements: YtjhpkikgajgdmaaTotals.lean).
  GIVEN WITH THE SEED: the statements are not yours to turn. If you find one false, say at which input.
  Laid BY PROGRAM, IN A SANDBOX (cutbox-rows.mjs): the forced cells as the released guide's own fill.sh prints them over the translation fe1df7473df1e162… (all of the seat's roots in one cut). By AI agents, Wed Nov 11 2026. No macro, syntax, notation, axiom, sorry.
-/
import Derived.Test.YtjhpkikgajgdmaaChecked
import GoSem.Claim
import GoSem.ClaimJoined
import GoSem.ClaimMapViews
import Derived.JoinedTies
import Derived.KernelRfl
namespace Go.Proofs.Ytjhpkikgajgdmaa
/- THE CELL 'sum', in the pinned program and in every row, IS THE sha256 OF THE DUMP (.gsa) THAT YtjhpkikgajgdmaaProg.lean LOADS. Nothing in Lean hashes anything: it is a label: what it is worth is what the hold of that sum in a sandbox is worth. -/
noncomputable def Try.pinned : Pinned := { name := "ytjhpkikgajgdmaa", sum := "fe1df7473df1e1621d6f6594f08f4f51455b9c8f444d83922daca5c0c10de050", checked := Try.checked }
namespace Rows
def none {H : Type} : Left H := { results := [], args := [] }

/-- 'purflinglaw05.FixupKinds': WHATEVER THE INPUT: true; the input reads as it did. -/
def fixupKindsSpec : ChangeSpec := { name := "fixupKinds", fn := fun _ => fun
  | [d1, d2] => { results := [.lit (.bool true)], args := [d1, d2] }
  | _ => none }
def fixupKindsRow : OpenClaim := { program := "ytjhpkikgajgdmaa", sum := "fe1df7473df1e1621d6f6594f08f4f51455b9c8f444d83922daca5c0c10de050", func := "purfling/purflinglaw05.FixupKinds", spec := "fixupKinds", unfollowed := true, recurses := true, apart := false }
def FixupKindsSaid : Prop := fixupKindsRow.holds Try.pinned (OpenSpec.ofChange fixupKindsSpec)

/-- ITS FALSE NEIGHBOUR: 'it returns false'. Refute it at one input. -/
def fixupKindsWrong : ChangeSpec := { name := "fixupKinds", fn := fun _ => fun
  | [d1, d2] => { results := [.lit (.bool false)], args := [d1, d2] }
  | _ => none }
def FixupKindsWrongFalsely : Prop := fixupKindsRow.holds Try.pinned (OpenSpec.ofChange fixupKindsWrong)

/-- 'purflinglaw05.FixupStands': WHATEVER THE INPUT: true; the input reads as it did. -/
def fixupStandsSpec : ChangeSpec := { name := "fixupStands", fn := fun _ => fun
  | [d] => { results := [.lit (.bool true)], args := [d] }
  | _ => none }
def fixupStandsRow : OpenClaim := { program := "ytjhpkikgajgdmaa", sum := "fe1df7473df1e1621d6f6594f08f4f51455b9c8f444d83922daca5c0c10de050", func := "purfling/purflinglaw05.FixupStands", spec := "fixupStands", unfollowed := true, recurses := true, apart := false }
def FixupStandsSaid : Prop := fixupStandsRow.holds Try.pinned (OpenSpec.ofChange fixupStandsSpec)

/-- ITS FALSE NEIGHBOUR: 'it returns false'. Refute it at one input. -/
def fixupStandsWrong : ChangeSpec := { name := "fixupStands", fn := fun _ => fun
  | [d] => { results := [.lit (.bool false)], args := [d] }
  | _ => none }
def FixupStandsWrongFalsely : Prop := fixupStandsRow.holds Try.pinned (OpenSpec.ofChange fixupStandsWrong)

/-- 'purflinglaw05.FixupKeeps': WHATEVER THE INPUT: true; the input reads as it did. -/
def fixupKeepsSpec : ChangeSpec := { name := "fixupKeeps", fn := fun _ => fun
  | [d] => { results := [.lit (.bool true)], args := [d] }
  | _ => none }
def fixupKeepsRow : OpenClaim := { program := "ytjhpkikgajgdmaa", sum := "fe1df7473df1e1621d6f6594f08f4f51455b9c8f444d83922daca5c0c10de050", func := "purfling/purflinglaw05.FixupKeeps", spec := "fixupKeeps", unfollowed := true, recurses := true, apart := false }
def FixupKeepsSaid : Prop := fixupKeepsRow.holds Try.pinned (OpenSpec.ofChange fixupKeepsSpec)

/-- ITS FALSE NEIGHBOUR: 'it returns false'. Refute it at one input. -/
def fixupKeepsWrong : ChangeSpec := { name := "fixupKeeps", fn := fun _ => fun
  | [d] => { results := [.lit (.bool false)], args := [d] }
  | _ => none }
def FixupKeepsWrongFalsely : Prop := fixupKeepsRow.holds Try.pinned (OpenSpec.ofChange fixupKeepsWrong)

/-- 'purflinglaw05.FixupCells': WHATEVER THE INPUT: true; the input reads as it did. -/
def fixupCellsSpec : ChangeSpec := { name := "fixupCells", fn := fun _ => fun
  | [d] => { results := [.lit (.bool true)], args := [d] }
  | _ => none }
def fixupCellsRow : OpenClaim := { program := "ytjhpkikgajgdmaa", sum := "fe1df7473df1e1621d6f6594f08f4f51455b9c8f444d83922daca5c0c10de050", func := "purfling/purflinglaw05.FixupCells", spec := "fixupCells", unfollowed := true, recurses := true, apart := false }
def FixupCellsSaid : Prop := fixupCellsRow.holds Try.pinned (OpenSpec.ofChange fixupCellsSpec)

/-- ITS FALSE NEIGHBOUR: 'it returns false'. Refute it at one input. -/
def fixupCellsWrong : ChangeSpec := { name := "fixupCells", fn := fun _ => fun
  | [d] => { results := [.lit (.bool false)], args := [d] }
  | _ => none }
def FixupCellsWrongFalsely : Prop := fixupCellsRow.holds Try.pinned (OpenSpec.ofChange fixupCellsWrong)

/-- 'purflinglaw05.FixupMore': WHATEVER THE INPUT: true; the input reads as it did. -/
def fixupMoreSpec : ChangeSpec := { name := "fixupMore", fn := fun _ => fun
  | [d] => { results := [.lit (.bool true)], args := [d] }
  | _ => none }
def fixupMoreRow : OpenClaim := { program := "ytjhpkikgajgdmaa", sum := "fe1df7473df1e1621d6f6594f08f4f51455b9c8f444d83922daca5c0c10de050", func := "purfling/purflinglaw05.FixupMore", spec := "fixupMore", unfollowed := true, recurses := true, apart := false }
def FixupMoreSaid : Prop := fixupMoreRow.holds Try.pinned (OpenSpec.ofChange fixupMoreSpec)

/-- ITS FALSE NEIGHBOUR: 'it returns false'. Refute it at one input. -/
def fixupMoreWrong : ChangeSpec := { name := "fixupMore", fn := fun _ => fun
  | [d] => { results := [.lit (.bool false)], args := [d] }
  | _ => none }
def FixupMoreWrongFalsely : Prop := fixupMoreRow.holds Try.pinned (OpenSpec.ofChange fixupMoreWrong)

/-- 'purflinglaw05.FixupFixes': WHATEVER THE INPUT: true; the input reads as it did. -/
def fixupFixesSpec : ChangeSpec := { name := "fixupFixes", fn := fun _ => fun
  | [d] => { results := [.lit (.bool true)], args := [d] }
  | _ => none }
def fixupFixesRow : OpenClaim := { program := "ytjhpkikgajgdmaa", sum := "fe1df7473df1e1621d6f6594f08f4f51455b9c8f444d83922daca5c0c10de050", func := "purfling/purflinglaw05.FixupFixes", spec := "fixupFixes", unfollowed := true, recurses := true, apart := false }
def FixupFixesSaid : Prop := fixupFixesRow.holds Try.pinned (OpenSpec.ofChange fixupFixesSpec)

/-- ITS FALSE NEIGHBOUR: 'it returns false'. Refute it at one input. -/
def fixupFixesWrong : ChangeSpec := { name := "fixupFixes", fn := fun _ => fun
  | [d] => { results := [.lit (.bool false)], args := [d] }
  | _ => none }
def FixupFixesWrongFalsely : Prop := fixupFixesRow.holds Try.pinned (OpenSpec.ofChange fixupFixesWrong)

/-- 'purflinglaw05.FixupAgain': WHATEVER THE INPUT: true; the input reads as it did. -/
def fixupAgainSpec : ChangeSpec := { name := "fixupAgain", fn := fun _ => fun
  | [d] => { results := [.lit (.bool true)], args := [d] }
  | _ => none }
def fixupAgainRow : OpenClaim := { program := "ytjhpkikgajgdmaa", sum := "fe1df7473df1e1621d6f6594f08f4f51455b9c8f444d83922daca5c0c10de050", func := "purfling/purflinglaw05.FixupAgain", spec := "fixupAgain", unfollowed := true, recurses := true, apart := false }
def FixupAgainSaid : Prop := fixupAgainRow.holds Try.pinned (OpenSpec.ofChange fixupAgainSpec)

/-- ITS FALSE NEIGHBOUR: 'it returns false'. Refute it at one input. -/
def fixupAgainWrong : ChangeSpec := { name := "fixupAgain", fn := fun _ => fun
  | [d] => { results := [.lit (.bool false)], args := [d] }
  | _ => none }
def FixupAgainWrongFalsely : Prop := fixupAgainRow.holds Try.pinned (OpenSpec.ofChange fixupAgainWrong)

/- THE SECOND FORM. 'bulk': how many values and letters a reading holds, each counted each time it is reached (what is shared counts as often as it is met; a slice's spare places count too). A statement '..UptoSaid' is the law's where the arguments, and the package variables that the reading takes, are together of bulk at most 1048576: NARROWER than '..Said'. Prove '..Said' where nothing that the law and all that it calls make is longer than what came in: it says more and counts as full. Else prove '..UptoSaid'. A law counts once. -/
mutual
def uptoBulk {H : Type} : DataW H → Nat
  | .lit (.string bytes) => bytes.length + 1
  | .lit _ => 1
  | .nil => 1
  | .ptr d => uptoBulk d + 1
  | .slice elems spare => uptoBulkAll elems + uptoBulkAll spare + 1
  | .agg parts => uptoBulkAll parts + 1
  | .iface _ d => uptoBulk d + 1
  | .map entries => uptoBulkEntries entries + 1
  | .held _ => 1
def uptoBulkAll {H : Type} : List (DataW H) → Nat
  | [] => 0
  | d :: r => uptoBulk d + uptoBulkAll r
def uptoBulkEntries {H : Type} : List (Lit × DataW H) → Nat
  | [] => 0
  | x :: r => uptoBulkEntry x + uptoBulkEntries r
def uptoBulkEntry {H : Type} : Lit × DataW H → Nat
  | (.string bytes, d) => bytes.length + uptoBulk d + 1
  | (_, d) => uptoBulk d + 1
 end
def uptoSmall : (H : Type) → List (DataW H) → Bool := fun _ ds => decide (uptoBulkAll ds ≤ 1048576)
def OpenSpec.upto (s : _root_.Go.ChangeSpec) : _root_.Go.OpenSpec := { _root_.Go.OpenSpec.ofChange s with cond := some uptoSmall }

/-- 'purflinglaw05.FixupKinds', WHERE WHAT IT READS IS OF BULK AT MOST 1048576: true; the input reads as it did. -/
def fixupKindsUptoRow : OpenClaim := { program := "ytjhpkikgajgdmaa", sum := "fe1df7473df1e1621d6f6594f08f4f51455b9c8f444d83922daca5c0c10de050", func := "purfling/purflinglaw05.FixupKinds", spec := "fixupKinds", unfollowed := true, recurses := true, apart := false, narrowed := true }
def FixupKindsUptoSaid : Prop := fixupKindsUptoRow.holds Try.pinned (OpenSpec.upto fixupKindsSpec)

/-- 'purflinglaw05.FixupStands', WHERE WHAT IT READS IS OF BULK AT MOST 1048576: true; the input reads as it did. -/
def fixupStandsUptoRow : OpenClaim := { program := "ytjhpkikgajgdmaa", sum := "fe1df7473df1e1621d6f6594f08f4f51455b9c8f444d83922daca5c0c10de050", func := "purfling/purflinglaw05.FixupStands", spec := "fixupStands", unfollowed := true, recurses := true, apart := false, narrowed := true }
def FixupStandsUptoSaid : Prop := fixupStandsUptoRow.holds Try.pinned (OpenSpec.upto fixupStandsSpec)

/-- 'purflinglaw05.FixupKeeps', WHERE WHAT IT READS IS OF BULK AT MOST 1048576: true; the input reads as it did. -/
def fixupKeepsUptoRow : OpenClaim := { program := "ytjhpkikgajgdmaa", sum := "fe1df7473df1e1621d6f6594f08f4f51455b9c8f444d83922daca5c0c10de050", func := "purfling/purflinglaw05.FixupKeeps", spec := "fixupKeeps", unfollowed := true, recurses := true, apart := false, narrowed := true }
def FixupKeepsUptoSaid : Prop := fixupKeepsUptoRow.holds Try.pinned (OpenSpec.upto fixupKeepsSpec)

/-- 'purflinglaw05.FixupCells', WHERE WHAT IT READS IS OF BULK AT MOST 1048576: true; the input reads as it did. -/
def fixupCellsUptoRow : OpenClaim := { program := "ytjhpkikgajgdmaa", sum := "fe1df7473df1e1621d6f6594f08f4f51455b9c8f444d83922daca5c0c10de050", func := "purfling/purflinglaw05.FixupCells", spec := "fixupCells", unfollowed := true, recurses := true, apart := false, narrowed := true }
def FixupCellsUptoSaid : Prop := fixupCellsUptoRow.holds Try.pinned (OpenSpec.upto fixupCellsSpec)

/-- 'purflinglaw05.FixupMore', WHERE WHAT IT READS IS OF BULK AT MOST 1048576: true; the input reads as it did. -/
def fixupMoreUptoRow : OpenClaim := { program := "ytjhpkikgajgdmaa", sum := "fe1df7473df1e1621d6f6594f08f4f51455b9c8f444d83922daca5c0c10de050", func := "purfling/purflinglaw05.FixupMore", spec := "fixupMore", unfollowed := true, recurses := true, apart := false, narrowed := true }
def FixupMoreUptoSaid : Prop := fixupMoreUptoRow.holds Try.pinned (OpenSpec.upto fixupMoreSpec)

/-- 'purflinglaw05.FixupFixes', WHERE WHAT IT READS IS OF BULK AT MOST 1048576: true; the input reads as it did. -/
def fixupFixesUptoRow : OpenClaim := { program := "ytjhpkikgajgdmaa", sum := "fe1df7473df1e1621d6f6594f08f4f51455b9c8f444d83922daca5c0c10de050", func := "purfling/purflinglaw05.FixupFixes", spec := "fixupFixes", unfollowed := true, recurses := true, apart := false, narrowed := true }
def FixupFixesUptoSaid : Prop := fixupFixesUptoRow.holds Try.pinned (OpenSpec.upto fixupFixesSpec)

/-- 'purflinglaw05.FixupAgain', WHERE WHAT IT READS IS OF BULK AT MOST 1048576: true; the input reads as it did. -/
def fixupAgainUptoRow : OpenClaim := { program := "ytjhpkikgajgdmaa", sum := "fe1df7473df1e1621d6f6594f08f4f51455b9c8f444d83922daca5c0c10de050", func := "purfling/purflinglaw05.FixupAgain", spec := "fixupAgain", unfollowed := true, recurses := true, apart := false, narrowed := true }
def FixupAgainUptoSaid : Prop := fixupAgainUptoRow.holds Try.pinned (OpenSpec.upto fixupAgainSpec)

end Rows
end Go.Proofs.Ytjhpkikgajgdmaa
