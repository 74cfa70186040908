/-
  No cell of these rows narrows 'for every input' (looked for: loops, veiled, ifaces, maps, wideKeys, modest, calm, conditions, laid).
  DERIVED. THE GIVEN ROWS OF THIS SEAT. 12 by the template 'for every input the law returns true; each argument reads behind the call as it read before'; 0 by the template 'total and deterministic' (their statements: YtfoocmmjefdojaaTotals.lean).
  GIVEN WITH THE SEED: the statements are not yours to turn. If you find one false, say at which input.
  Laid BY PROGRAM, IN A SANDBOX (cutbox-rows.mjs): the forced cells as the released guide's own fill.sh prints them over the translation 4ec1438d37912812… (all of the seat's roots in one cut). By AI agents, Wed Nov 11 2026. No macro, syntax, notation, axiom, sorry.
-/
import Derived.Test.YtfoocmmjefdojaaChecked
import GoSem.Claim
import GoSem.ClaimJoined
import GoSem.ClaimMapViews
import Derived.JoinedTies
import Derived.KernelRfl
namespace Go.Proofs.Ytfoocmmjefdojaa
/- THE CELL 'sum', in the pinned program and in every row, IS THE sha256 OF THE DUMP (.gsa) THAT YtfoocmmjefdojaaProg.lean LOADS. Nothing in Lean hashes anything: it is a label: what it is worth is what the hold of that sum in a sandbox is worth. -/
noncomputable def Try.pinned : Pinned := { name := "ytfoocmmjefdojaa", sum := "4ec1438d379128129595f79030adfbcca00b8f765472f4808d86b0497de151d6", checked := Try.checked }
namespace Rows
def none {H : Type} : Left H := { results := [], args := [] }

/-- 'purflinglaw07.GridLays': WHATEVER THE INPUT: true; the input reads as it did. -/
def gridLaysSpec : ChangeSpec := { name := "gridLays", fn := fun _ => fun
  | [d1, d2] => { results := [.lit (.bool true)], args := [d1, d2] }
  | _ => none }
def gridLaysRow : OpenClaim := { program := "ytfoocmmjefdojaa", sum := "4ec1438d379128129595f79030adfbcca00b8f765472f4808d86b0497de151d6", func := "purfling/purflinglaw07.GridLays", spec := "gridLays", unfollowed := true, recurses := true, plainKeys := false, apart := false }
def GridLaysSaid : Prop := gridLaysRow.holds Try.pinned (OpenSpec.ofChange gridLaysSpec)

/-- ITS FALSE NEIGHBOUR: 'it returns false'. Refute it at one input. -/
def gridLaysWrong : ChangeSpec := { name := "gridLays", fn := fun _ => fun
  | [d1, d2] => { results := [.lit (.bool false)], args := [d1, d2] }
  | _ => none }
def GridLaysWrongFalsely : Prop := gridLaysRow.holds Try.pinned (OpenSpec.ofChange gridLaysWrong)

/-- 'purflinglaw07.GridWide': WHATEVER THE INPUT: true; the input reads as it did. -/
def gridWideSpec : ChangeSpec := { name := "gridWide", fn := fun _ => fun
  | [d1, d2] => { results := [.lit (.bool true)], args := [d1, d2] }
  | _ => none }
def gridWideRow : OpenClaim := { program := "ytfoocmmjefdojaa", sum := "4ec1438d379128129595f79030adfbcca00b8f765472f4808d86b0497de151d6", func := "purfling/purflinglaw07.GridWide", spec := "gridWide", unfollowed := true, recurses := true, plainKeys := false, apart := false }
def GridWideSaid : Prop := gridWideRow.holds Try.pinned (OpenSpec.ofChange gridWideSpec)

/-- ITS FALSE NEIGHBOUR: 'it returns false'. Refute it at one input. -/
def gridWideWrong : ChangeSpec := { name := "gridWide", fn := fun _ => fun
  | [d1, d2] => { results := [.lit (.bool false)], args := [d1, d2] }
  | _ => none }
def GridWideWrongFalsely : Prop := gridWideRow.holds Try.pinned (OpenSpec.ofChange gridWideWrong)

/-- 'purflinglaw07.GridOwn': WHATEVER THE INPUT: true; the input reads as it did. -/
def gridOwnSpec : ChangeSpec := { name := "gridOwn", fn := fun _ => fun
  | [d1, d2] => { results := [.lit (.bool true)], args := [d1, d2] }
  | _ => none }
def gridOwnRow : OpenClaim := { program := "ytfoocmmjefdojaa", sum := "4ec1438d379128129595f79030adfbcca00b8f765472f4808d86b0497de151d6", func := "purfling/purflinglaw07.GridOwn", spec := "gridOwn", unfollowed := true, recurses := true, plainKeys := false, apart := false }
def GridOwnSaid : Prop := gridOwnRow.holds Try.pinned (OpenSpec.ofChange gridOwnSpec)

/-- ITS FALSE NEIGHBOUR: 'it returns false'. Refute it at one input. -/
def gridOwnWrong : ChangeSpec := { name := "gridOwn", fn := fun _ => fun
  | [d1, d2] => { results := [.lit (.bool false)], args := [d1, d2] }
  | _ => none }
def GridOwnWrongFalsely : Prop := gridOwnRow.holds Try.pinned (OpenSpec.ofChange gridOwnWrong)

/-- 'purflinglaw07.GridFirst': WHATEVER THE INPUT: true; the input reads as it did. -/
def gridFirstSpec : ChangeSpec := { name := "gridFirst", fn := fun _ => fun
  | [d1, d2] => { results := [.lit (.bool true)], args := [d1, d2] }
  | _ => none }
def gridFirstRow : OpenClaim := { program := "ytfoocmmjefdojaa", sum := "4ec1438d379128129595f79030adfbcca00b8f765472f4808d86b0497de151d6", func := "purfling/purflinglaw07.GridFirst", spec := "gridFirst", unfollowed := true, recurses := true, plainKeys := false, apart := false }
def GridFirstSaid : Prop := gridFirstRow.holds Try.pinned (OpenSpec.ofChange gridFirstSpec)

/-- ITS FALSE NEIGHBOUR: 'it returns false'. Refute it at one input. -/
def gridFirstWrong : ChangeSpec := { name := "gridFirst", fn := fun _ => fun
  | [d1, d2] => { results := [.lit (.bool false)], args := [d1, d2] }
  | _ => none }
def GridFirstWrongFalsely : Prop := gridFirstRow.holds Try.pinned (OpenSpec.ofChange gridFirstWrong)

/-- 'purflinglaw07.GridSlots': WHATEVER THE INPUT: true; the input reads as it did. -/
def gridSlotsSpec : ChangeSpec := { name := "gridSlots", fn := fun _ => fun
  | [d1, d2, d3] => { results := [.lit (.bool true)], args := [d1, d2, d3] }
  | _ => none }
def gridSlotsRow : OpenClaim := { program := "ytfoocmmjefdojaa", sum := "4ec1438d379128129595f79030adfbcca00b8f765472f4808d86b0497de151d6", func := "purfling/purflinglaw07.GridSlots", spec := "gridSlots", unfollowed := true, recurses := true, plainKeys := false, apart := false }
def GridSlotsSaid : Prop := gridSlotsRow.holds Try.pinned (OpenSpec.ofChange gridSlotsSpec)

/-- ITS FALSE NEIGHBOUR: 'it returns false'. Refute it at one input. -/
def gridSlotsWrong : ChangeSpec := { name := "gridSlots", fn := fun _ => fun
  | [d1, d2, d3] => { results := [.lit (.bool false)], args := [d1, d2, d3] }
  | _ => none }
def GridSlotsWrongFalsely : Prop := gridSlotsRow.holds Try.pinned (OpenSpec.ofChange gridSlotsWrong)

/-- 'purflinglaw07.GridPlain': WHATEVER THE INPUT: true; the input reads as it did. -/
def gridPlainSpec : ChangeSpec := { name := "gridPlain", fn := fun _ => fun
  | [d1, d2] => { results := [.lit (.bool true)], args := [d1, d2] }
  | _ => none }
def gridPlainRow : OpenClaim := { program := "ytfoocmmjefdojaa", sum := "4ec1438d379128129595f79030adfbcca00b8f765472f4808d86b0497de151d6", func := "purfling/purflinglaw07.GridPlain", spec := "gridPlain", unfollowed := true, recurses := true, plainKeys := false, apart := false }
def GridPlainSaid : Prop := gridPlainRow.holds Try.pinned (OpenSpec.ofChange gridPlainSpec)

/-- ITS FALSE NEIGHBOUR: 'it returns false'. Refute it at one input. -/
def gridPlainWrong : ChangeSpec := { name := "gridPlain", fn := fun _ => fun
  | [d1, d2] => { results := [.lit (.bool false)], args := [d1, d2] }
  | _ => none }
def GridPlainWrongFalsely : Prop := gridPlainRow.holds Try.pinned (OpenSpec.ofChange gridPlainWrong)

/-- 'purflinglaw13.ColumnsBands': WHATEVER THE INPUT: true; the input reads as it did. -/
def columnsBandsSpec : ChangeSpec := { name := "columnsBands", fn := fun _ => fun
  | [d1, d2] => { results := [.lit (.bool true)], args := [d1, d2] }
  | _ => none }
def columnsBandsRow : OpenClaim := { program := "ytfoocmmjefdojaa", sum := "4ec1438d379128129595f79030adfbcca00b8f765472f4808d86b0497de151d6", func := "purfling/purflinglaw13.ColumnsBands", spec := "columnsBands", unfollowed := true, recurses := true, plainKeys := false, apart := false }
def ColumnsBandsSaid : Prop := columnsBandsRow.holds Try.pinned (OpenSpec.ofChange columnsBandsSpec)

/-- ITS FALSE NEIGHBOUR: 'it returns false'. Refute it at one input. -/
def columnsBandsWrong : ChangeSpec := { name := "columnsBands", fn := fun _ => fun
  | [d1, d2] => { results := [.lit (.bool false)], args := [d1, d2] }
  | _ => none }
def ColumnsBandsWrongFalsely : Prop := columnsBandsRow.holds Try.pinned (OpenSpec.ofChange columnsBandsWrong)

/-- 'purflinglaw13.ColumnsOrder': WHATEVER THE INPUT: true; the input reads as it did. -/
def columnsOrderSpec : ChangeSpec := { name := "columnsOrder", fn := fun _ => fun
  | [d1, d2] => { results := [.lit (.bool true)], args := [d1, d2] }
  | _ => none }
def columnsOrderRow : OpenClaim := { program := "ytfoocmmjefdojaa", sum := "4ec1438d379128129595f79030adfbcca00b8f765472f4808d86b0497de151d6", func := "purfling/purflinglaw13.ColumnsOrder", spec := "columnsOrder", unfollowed := true, recurses := true, plainKeys := false, apart := false }
def ColumnsOrderSaid : Prop := columnsOrderRow.holds Try.pinned (OpenSpec.ofChange columnsOrderSpec)

/-- ITS FALSE NEIGHBOUR: 'it returns false'. Refute it at one input. -/
def columnsOrderWrong : ChangeSpec := { name := "columnsOrder", fn := fun _ => fun
  | [d1, d2] => { results := [.lit (.bool false)], args := [d1, d2] }
  | _ => none }
def ColumnsOrderWrongFalsely : Prop := columnsOrderRow.holds Try.pinned (OpenSpec.ofChange columnsOrderWrong)

/-- 'purflinglaw13.ColumnsMore': WHATEVER THE INPUT: true; the input reads as it did. -/
def columnsMoreSpec : ChangeSpec := { name := "columnsMore", fn := fun _ => fun
  | [d1, d2, d3] => { results := [.lit (.bool true)], args := [d1, d2, d3] }
  | _ => none }
def columnsMoreRow : OpenClaim := { program := "ytfoocmmjefdojaa", sum := "4ec1438d379128129595f79030adfbcca00b8f765472f4808d86b0497de151d6", func := "purfling/purflinglaw13.ColumnsMore", spec := "columnsMore", unfollowed := true, recurses := true, plainKeys := false, apart := false }
def ColumnsMoreSaid : Prop := columnsMoreRow.holds Try.pinned (OpenSpec.ofChange columnsMoreSpec)

/-- ITS FALSE NEIGHBOUR: 'it returns false'. Refute it at one input. -/
def columnsMoreWrong : ChangeSpec := { name := "columnsMore", fn := fun _ => fun
  | [d1, d2, d3] => { results := [.lit (.bool false)], args := [d1, d2, d3] }
  | _ => none }
def ColumnsMoreWrongFalsely : Prop := columnsMoreRow.holds Try.pinned (OpenSpec.ofChange columnsMoreWrong)

/-- 'purflinglaw13.ColumnsBare': WHATEVER THE INPUT: true; the input reads as it did. -/
def columnsBareSpec : ChangeSpec := { name := "columnsBare", fn := fun _ => fun
  | [d] => { results := [.lit (.bool true)], args := [d] }
  | _ => none }
def columnsBareRow : OpenClaim := { program := "ytfoocmmjefdojaa", sum := "4ec1438d379128129595f79030adfbcca00b8f765472f4808d86b0497de151d6", func := "purfling/purflinglaw13.ColumnsBare", spec := "columnsBare", unfollowed := true, recurses := true, plainKeys := false, apart := false }
def ColumnsBareSaid : Prop := columnsBareRow.holds Try.pinned (OpenSpec.ofChange columnsBareSpec)

/-- ITS FALSE NEIGHBOUR: 'it returns false'. Refute it at one input. -/
def columnsBareWrong : ChangeSpec := { name := "columnsBare", fn := fun _ => fun
  | [d] => { results := [.lit (.bool false)], args := [d] }
  | _ => none }
def ColumnsBareWrongFalsely : Prop := columnsBareRow.holds Try.pinned (OpenSpec.ofChange columnsBareWrong)

/-- 'purflinglaw13.ColumnsWide': WHATEVER THE INPUT: true; the input reads as it did. -/
def columnsWideSpec : ChangeSpec := { name := "columnsWide", fn := fun _ => fun
  | [d1, d2] => { results := [.lit (.bool true)], args := [d1, d2] }
  | _ => none }
def columnsWideRow : OpenClaim := { program := "ytfoocmmjefdojaa", sum := "4ec1438d379128129595f79030adfbcca00b8f765472f4808d86b0497de151d6", func := "purfling/purflinglaw13.ColumnsWide", spec := "columnsWide", unfollowed := true, recurses := true, plainKeys := false, apart := false }
def ColumnsWideSaid : Prop := columnsWideRow.holds Try.pinned (OpenSpec.ofChange columnsWideSpec)

/-- ITS FALSE NEIGHBOUR: 'it returns false'. Refute it at one input. -/
def columnsWideWrong : ChangeSpec := { name := "columnsWide", fn := fun _ => fun
  | [d1, d2] => { results := [.lit (.bool false)], args := [d1, d2] }
  | _ => none }
def ColumnsWideWrongFalsely : Prop := columnsWideRow.holds Try.pinned (OpenSpec.ofChange columnsWideWrong)

/-- 'purflinglaw13.ColumnsRight': WHATEVER THE INPUT: true; the input reads as it did. -/
def columnsRightSpec : ChangeSpec := { name := "columnsRight", fn := fun _ => fun
  | [d1, d2] => { results := [.lit (.bool true)], args := [d1, d2] }
  | _ => none }
def columnsRightRow : OpenClaim := { program := "ytfoocmmjefdojaa", sum := "4ec1438d379128129595f79030adfbcca00b8f765472f4808d86b0497de151d6", func := "purfling/purflinglaw13.ColumnsRight", spec := "columnsRight", unfollowed := true, recurses := true, plainKeys := false, apart := false }
def ColumnsRightSaid : Prop := columnsRightRow.holds Try.pinned (OpenSpec.ofChange columnsRightSpec)

/-- ITS FALSE NEIGHBOUR: 'it returns false'. Refute it at one input. -/
def columnsRightWrong : ChangeSpec := { name := "columnsRight", fn := fun _ => fun
  | [d1, d2] => { results := [.lit (.bool false)], args := [d1, d2] }
  | _ => none }
def ColumnsRightWrongFalsely : Prop := columnsRightRow.holds Try.pinned (OpenSpec.ofChange columnsRightWrong)

/- THE SECOND FORM. 'bulk': how many values and letters a reading holds, each counted each time it is reached (what is shared counts as often as it is met; a slice's spare places count too). A statement '..UptoSaid' is the law's where the arguments, and the package variables that the reading takes, are together of bulk at most 1048576: NARROWER than '..Said'. Prove '..Said' where nothing that the law and all that it calls make is longer than what came in: it says more and counts as full. Else prove '..UptoSaid'. A law counts once. -/
mutual
def uptoBulk {H : Type} : DataW H → Nat
  | .lit (.string bytes) => bytes.length + 1
  | .lit _ => 1
  | .nil => 1
  | .ptr d => uptoBulk d + 1
  | .slice elems spare => uptoBulkAll elems + uptoBulkAll spare + 1
  | .agg parts => uptoBulkAll parts + 1
  | .iface _ d => uptoBulk d + 1
  | .map entries => uptoBulkEntries entries + 1
  | .held _ => 1
def uptoBulkAll {H : Type} : List (DataW H) → Nat
  | [] => 0
  | d :: r => uptoBulk d + uptoBulkAll r
def uptoBulkEntries {H : Type} : List (Lit × DataW H) → Nat
  | [] => 0
  | x :: r => uptoBulkEntry x + uptoBulkEntries r
def uptoBulkEntry {H : Type} : Lit × DataW H → Nat
  | (.string bytes, d) => bytes.length + uptoBulk d + 1
  | (_, d) => uptoBulk d + 1
 end
def uptoSmall : (H : Type) → List (DataW H) → Bool := fun _ ds => decide (uptoBulkAll ds ≤ 1048576)
def OpenSpec.upto (s : _root_.Go.ChangeSpec) : _root_.Go.OpenSpec := { _root_.Go.OpenSpec.ofChange s with cond := some uptoSmall }

/-- 'purflinglaw07.GridLays', WHERE WHAT IT READS IS OF BULK AT MOST 1048576: true; the input reads as it did. -/
def gridLaysUptoRow : OpenClaim := { program := "ytfoocmmjefdojaa", sum := "4ec1438d379128129595f79030adfbcca00b8f765472f4808d86b0497de151d6", func := "purfling/purflinglaw07.GridLays", spec := "gridLays", unfollowed := true, recurses := true, plainKeys := false, apart := false, narrowed := true }
def GridLaysUptoSaid : Prop := gridLaysUptoRow.holds Try.pinned (OpenSpec.upto gridLaysSpec)

/-- 'purflinglaw07.GridWide', WHERE WHAT IT READS IS OF BULK AT MOST 1048576: true; the input reads as it did. -/
def gridWideUptoRow : OpenClaim := { program := "ytfoocmmjefdojaa", sum := "4ec1438d379128129595f79030adfbcca00b8f765472f4808d86b0497de151d6", func := "purfling/purflinglaw07.GridWide", spec := "gridWide", unfollowed := true, recurses := true, plainKeys := false, apart := false, narrowed := true }
def GridWideUptoSaid : Prop := gridWideUptoRow.holds Try.pinned (OpenSpec.upto gridWideSpec)

/-- 'purflinglaw07.GridOwn', WHERE WHAT IT READS IS OF BULK AT MOST 1048576: true; the input reads as it did. -/
def gridOwnUptoRow : OpenClaim := { program := "ytfoocmmjefdojaa", sum := "4ec1438d379128129595f79030adfbcca00b8f765472f4808d86b0497de151d6", func := "purfling/purflinglaw07.GridOwn", spec := "gridOwn", unfollowed := true, recurses := true, plainKeys := false, apart := false, narrowed := true }
def GridOwnUptoSaid : Prop := gridOwnUptoRow.holds Try.pinned (OpenSpec.upto gridOwnSpec)

/-- 'purflinglaw07.GridFirst', WHERE WHAT IT READS IS OF BULK AT MOST 1048576: true; the input reads as it did. -/
def gridFirstUptoRow : OpenClaim := { program := "ytfoocmmjefdojaa", sum := "4ec1438d379128129595f79030adfbcca00b8f765472f4808d86b0497de151d6", func := "purfling/purflinglaw07.GridFirst", spec := "gridFirst", unfollowed := true, recurses := true, plainKeys := false, apart := false, narrowed := true }
def GridFirstUptoSaid : Prop := gridFirstUptoRow.holds Try.pinned (OpenSpec.upto gridFirstSpec)

/-- 'purflinglaw07.GridSlots', WHERE WHAT IT READS IS OF BULK AT MOST 1048576: true; the input reads as it did. -/
def gridSlotsUptoRow : OpenClaim := { program := "ytfoocmmjefdojaa", sum := "4ec1438d379128129595f79030adfbcca00b8f765472f4808d86b0497de151d6", func := "purfling/purflinglaw07.GridSlots", spec := "gridSlots", unfollowed := true, recurses := true, plainKeys := false, apart := false, narrowed := true }
def GridSlotsUptoSaid : Prop := gridSlotsUptoRow.holds Try.pinned (OpenSpec.upto gridSlotsSpec)

/-- 'purflinglaw07.GridPlain', WHERE WHAT IT READS IS OF BULK AT MOST 1048576: true; the input reads as it did. -/
def gridPlainUptoRow : OpenClaim := { program := "ytfoocmmjefdojaa", sum := "4ec1438d379128129595f79030adfbcca00b8f765472f4808d86b0497de151d6", func := "purfling/purflinglaw07.GridPlain", spec := "gridPlain", unfollowed := true, recurses := true, plainKeys := false, apart := false, narrowed := true }
def GridPlainUptoSaid : Prop := gridPlainUptoRow.holds Try.pinned (OpenSpec.upto gridPlainSpec)

/-- 'purflinglaw13.ColumnsBands', WHERE WHAT IT READS IS OF BULK AT MOST 1048576: true; the input reads as it did. -/
def columnsBandsUptoRow : OpenClaim := { program := "ytfoocmmjefdojaa", sum := "4ec1438d379128129595f79030adfbcca00b8f765472f4808d86b0497de151d6", func := "purfling/purflinglaw13.ColumnsBands", spec := "columnsBands", unfollowed := true, recurses := true, plainKeys := false, apart := false, narrowed := true }
def ColumnsBandsUptoSaid : Prop := columnsBandsUptoRow.holds Try.pinned (OpenSpec.upto columnsBandsSpec)

/-- 'purflinglaw13.ColumnsOrder', WHERE WHAT IT READS IS OF BULK AT MOST 1048576: true; the input reads as it did. -/
def columnsOrderUptoRow : OpenClaim := { program := "ytfoocmmjefdojaa", sum := "4ec1438d379128129595f79030adfbcca00b8f765472f4808d86b0497de151d6", func := "purfling/purflinglaw13.ColumnsOrder", spec := "columnsOrder", unfollowed := true, recurses := true, plainKeys := false, apart := false, narrowed := true }
def ColumnsOrderUptoSaid : Prop := columnsOrderUptoRow.holds Try.pinned (OpenSpec.upto columnsOrderSpec)

/-- 'purflinglaw13.ColumnsMore', WHERE WHAT IT READS IS OF BULK AT MOST 1048576: true; the input reads as it did. -/
def columnsMoreUptoRow : OpenClaim := { program := "ytfoocmmjefdojaa", sum := "4ec1438d379128129595f79030adfbcca00b8f765472f4808d86b0497de151d6", func := "purfling/purflinglaw13.ColumnsMore", spec := "columnsMore", unfollowed := true, recurses := true, plainKeys := false, apart := false, narrowed := true }
def ColumnsMoreUptoSaid : Prop := columnsMoreUptoRow.holds Try.pinned (OpenSpec.upto columnsMoreSpec)

/-- 'purflinglaw13.ColumnsBare', WHERE WHAT IT READS IS OF BULK AT MOST 1048576: true; the input reads as it did. -/
def columnsBareUptoRow : OpenClaim := { program := "ytfoocmmjefdojaa", sum := "4ec1438d379128129595f79030adfbcca00b8f765472f4808d86b0497de151d6", func := "purfling/purflinglaw13.ColumnsBare", spec := "columnsBare", unfollowed := true, recurses := true, plainKeys := false, apart := false, narrowed := true }
def ColumnsBareUptoSaid : Prop := columnsBareUptoRow.holds Try.pinned (OpenSpec.upto columnsBareSpec)

/-- 'purflinglaw13.ColumnsWide', WHERE WHAT IT READS IS OF BULK AT MOST 1048576: true; the input reads as it did. -/
def columnsWideUptoRow : OpenClaim := { program := "ytfoocmmjefdojaa", sum := "4ec1438d379128129595f79030adfbcca00b8f765472f4808d86b0497de151d6", func := "purfling/purflinglaw13.ColumnsWide", spec := "columnsWide", unfollowed := true, recurses := true, plainKeys := false, apart := false, narrowed := true }
def ColumnsWideUptoSaid : Prop := columnsWideUptoRow.holds Try.pinned (OpenSpec.upto columnsWideSpec)

/-- 'purflinglaw13.ColumnsRight', WHERE WHAT IT READS IS OF BULK AT MOST 1048576: true; the input reads as it did. -/
def columnsRightUptoRow : OpenClaim := { program := "ytfoocmmjefdojaa", sum := "4ec1438d379128129595f79030adfbcca00b8f765472f4808d86b0497de151d6", func := "purfling/purflinglaw13.ColumnsRight", spec := "columnsRight", unfollowed := true, recurses := true, plainKeys := false, apart := false, narrowed := true }
def ColumnsRightUptoSaid : Prop := columnsRightUptoRow.holds Try.pinned (OpenSpec.upto columnsRightSpec)

end Rows
end Go.Proofs.Ytfoocmmjefdojaa
