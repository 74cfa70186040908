/- Layer 7: blocks that are known. -/
import Derived.Test.YtjhpkikgajgdmaaK0
import Derived.Test.YtjhpkikgajgdmaaRange
import Derived.Test.YtjhpkikgajgdmaaHeld
import Derived.Laws.Rows
import Derived.Outline
import Derived.Shelf.Abstract
import Derived.BigQuiet
import Derived.RegionTactic
import Derived.ChangeAlike
import Derived.BigRegion
import Derived.StillTailTactics
import Derived.Deep.RegionWith
import Derived.Below
import Derived.Carry
import Derived.Deep.LoopGhost
import Derived.Deep.RegionLaw
import Derived.Handy
import Derived.Laws.Bits64
import Derived.Laws.BitsLemmas
import Derived.Laws.CopyOwn
import Derived.Laws.CopyRow
import Derived.Laws.MakeOwn
import Derived.Lib.Hide
import Derived.LoopTactic
import Derived.MapKept
import Derived.RangeFuncRecord
import Derived.WalkKit
namespace Go.Proofs.Ytjhpkikgajgdmaa.K
open Go.RowKit Go.Proofs.YtjhpkikgajgdmaaW.PrintWords Go.Proofs.YtjhpkikgajgdmaaW.PrintLast Go.Proofs.YtjhpkikgajgdmaaW.PrintMore
set_option linter.unusedVariables false
set_option linter.unusedSimpArgs false

/-- block b is the cells cs, of type t -/
def BlkIs (w : World) (b t : Nat) (cs : Array Value) : Prop := w.heap[b]? = some (.cells cs t (0, 0))
theorem BlkIs.cell {w : World} {b t : Nat} {cs : Array Value} (h : BlkIs w b t cs) (j : Nat) : w.cell? ⟨b, j, none⟩ = cs[j]? := cell_of_row w b j cs t (0, 0) h
theorem BlkIs.frozen {w : World} {b t : Nat} {cs : Array Value} (h : BlkIs w b t cs) (j : Nat) : w.frozen? ⟨b, j, none⟩ = false := frozen_of_row w b j cs t h
theorem BlkIs.lt {w : World} {b t : Nat} {cs : Array Value} (h : BlkIs w b t cs) : b < w.heap.size := (Array.getElem?_eq_some_iff.1 h).1
theorem BlkIs.alloc {w : World} {b t : Nat} {cs : Array Value} (h : BlkIs w b t cs) (o : Obj) : BlkIs (w.alloc o) b t cs := (Below.heap_alloc w o b h.lt).trans h
theorem BlkIs.set {w : World} {b t : Nat} {cs : Array Value} (h : BlkIs w b t cs) (i : Nat) (v : Value) : BlkIs (w.setCell ⟨b, i, none⟩ v) b t (cs.setIfInBounds i v) := heap_setCell_same w b i cs t v h
theorem BlkIs.drew {w : World} {b t : Nat} {cs : Array Value} (h : BlkIs w b t cs) : BlkIs w.drew b t cs := h
theorem BlkIs.grown {w w' : World} {b t : Nat} {cs : Array Value} {row : Option Nat} (h : BlkIs w b t cs) (hg : w.grownBy w' row) (hne : some b ≠ row) : BlkIs w' b t cs := (hg.block b h.lt hne).trans h

theorem grown_set {w w1 : World} {O : Nat} (h : w.grownBy w1 (some O)) (o : Nat) (v : Value) : w.grownBy (w1.setCell ⟨O, o, none⟩ v) (some O) :=
  ⟨h.os, h.tape, h.output, by simpa using h.size, fun k hk hne => (Below.heap_setCell w1 ⟨O, o, none⟩ v k (fun e => hne (by rw [e]))).trans (h.block k hk hne)⟩
theorem grown_alloc {w w1 : World} {row : Option Nat} (h : w.grownBy w1 row) (o : Obj) : w.grownBy (w1.alloc o) row := World.grownBy.trans h (World.grownBy_alloc w1 o row)
theorem grown_drew {w w1 : World} {row : Option Nat} (h : w.grownBy w1 row) : w.grownBy w1.drew row := ⟨h.os, h.tape, h.output, h.size, h.block⟩
theorem grown_below {w w1 w2 : World} {row : Option Nat} (h : w.grownBy w1 row) (hb : Below w1.heap.size w1 w2) : w.grownBy w2 row :=
  ⟨hb.os.trans h.os, hb.tape.trans h.tape, hb.output.trans h.output, Nat.le_trans h.size hb.size, fun k hk hne => (hb.block k (Nat.lt_of_lt_of_le hk h.size)).trans (h.block k hk hne)⟩


theorem wpIn_scope_wide {n : Nat} {P : Program} {c : Code} {Q : Exit → Act → World → Prop} {a : Act} {w : World} (h : c.wpIn Fence.wide n P (Exit.noGoto Q) a w) : (Code.scope c).wpIn Fence.wide n P Q a w :=
  wpIn_wide.2 (wp_scope_straight (wpIn_wide.1 h))


def onlyNormal (R : Act → World → Prop) : Exit → Act → World → Prop
  | .normal, a, w => R a w
  | _, _, _ => False
theorem wp_only {P : Program} {c : Code} {Q : Exit → Act → World → Prop} {a : Act} {w : World} (h : c.wp P (onlyNormal fun a w => Q .normal a w) a w) : c.wp P Q a w :=
  Code.wp_mono (fun e a w h => by cases e <;> first | exact h | exact h.elim) h

theorem BlkIs.other {w : World} {b t : Nat} {cs : Array Value} (h : BlkIs w b t cs) {p : Addr} (hp : b ≠ p.block) (v : Value) : BlkIs (w.setCell p v) b t cs := (heap_setCell_other w p b v hp).trans h


end Go.Proofs.Ytjhpkikgajgdmaa.K
