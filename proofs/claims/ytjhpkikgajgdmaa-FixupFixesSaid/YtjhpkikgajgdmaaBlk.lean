/- Layer 7: blocks that are known. -/
import Derived.Test.YtjhpkikgajgdmaaK0
import Derived.Test.YtjhpkikgajgdmaaRange
import Derived.Test.YtjhpkikgajgdmaaHeld
import Derived.Laws.Rows
import Derived.Outline
import Derived.Shelf.Abstract
import Derived.BigQuiet
import Derived.RegionTactic
import Derived.ChangeAlike
import Derived.BigRegion
import Derived.StillTailTactics
import Derived.Deep.RegionWith
import Derived.Below
import Derived.Carry
import Derived.Deep.LoopGhost
import Derived.Deep.RegionLaw
import Derived.Handy
import Derived.Laws.Bits64
import Derived.Laws.BitsLemmas
import Derived.Laws.CopyOwn
import Derived.Laws.CopyRow
import Derived.Laws.MakeOwn
import Derived.Lib.Hide
import Derived.LoopTactic
import Derived.MapKept
import Derived.RangeFuncRecord
import Derived.WalkKit
namespace Go.Proofs.Ytjhpkikgajgdmaa.K
open Go.RowKit Go.Proofs.YtjhpkikgajgdmaaW.PrintWords Go.Proofs.YtjhpkikgajgdmaaW.PrintLast Go.Proofs.YtjhpkikgajgdmaaW.PrintMore
set_option linter.unusedVariables false
set_option linter.unusedSimpArgs false
/-- block b is the cells cs, of type t -/
def BlkIs (w : World) (b t : Nat) (cs : Array Value) : Prop := w.heap[b]? = some (.cells cs t (0, 0))
theorem BlkIs.cell {w : World} {b t : Nat} {cs : Array Value} (h : BlkIs w b t cs) (j : Nat) : w.cell? ⟨b, j, none⟩ = cs[j]? := cell_of_row w b j cs t (0, 0) h
theorem BlkIs.frozen {w : World} {b t : Nat} {cs : Array Value} (h : BlkIs w b t cs) (j : Nat) : w.frozen? ⟨b, j, none⟩ = false := frozen_of_row w b j cs t h
theorem BlkIs.lt {w : World} {b t : Nat} {cs : Array Value} (h : BlkIs w b t cs) : b < w.heap.size := (Array.getElem?_eq_some_iff.1 h).1
theorem BlkIs.alloc {w : World} {b t : Nat} {cs : Array Value} (h : BlkIs w b t cs) (o : Obj) : BlkIs (w.alloc o) b t cs := (Below.heap_alloc w o b h.lt).trans h
theorem BlkIs.set {w : World} {b t : Nat} {cs : Array Value} (h : BlkIs w b t cs) (i : Nat) (v : Value) : BlkIs (w.setCell ⟨b, i, none⟩ v) b t (cs.setIfInBounds i v) := heap_setCell_same w b i cs t v h
theorem BlkIs.drew {w : World} {b t : Nat} {cs : Array Value} (h : BlkIs w b t cs) : BlkIs w.drew b t cs := h
theorem BlkIs.grown {w w' : World} {b t : Nat} {cs : Array Value} {row : Option Nat} (h : BlkIs w b t cs) (hg : w.grownBy w' row) (hne : some b ≠ row) : BlkIs w' b t cs := (hg.block b h.lt hne).trans h
theorem BlkIs.other {w : World} {b t : Nat} {cs : Array Value} (h : BlkIs w b t cs) {p : Addr} (hp : b ≠ p.block) (v : Value) : BlkIs (w.setCell p v) b t cs := (heap_setCell_other w p b v hp).trans h
end Go.Proofs.Ytjhpkikgajgdmaa.K
