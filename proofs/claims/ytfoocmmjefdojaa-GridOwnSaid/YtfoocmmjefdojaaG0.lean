-- PRINTED by print.py (a twelfth state) out of the translation. Not trusted: Lean checks it.
import Derived.Test.YtfoocmmjefdojaaProg
import Derived.Below
import Derived.Deep.Draws
import Derived.Deep.AppendLies
import Derived.Maps.AppendAt
import Derived.OwnWalk
import Derived.Laws.BytesArg
import Derived.Laws.MakeOwn
import Derived.Laws.OwnMore
import Derived.Deep.OwnRows
import Derived.Tactics
import Derived.Lib.ConvBytes
import Derived.Laws.Slices
import Derived.WalkKit
import Derived.KernelRfl
import Derived.RowKit3
import Derived.Deep.LoopGhost
import Derived.Deep.QuietTactic
import Derived.BigQuiet
import Derived.WideLaws
import Derived.Deep.DeepCutAuto
import Derived.Deep.CutBlock
import Derived.Deep.RegionHeld3
import Derived.Laws.Rows
import Derived.Lib.AppendStr
import Derived.ArgAppend
import Derived.Laws.IdiomCopy
import Derived.OrdersHeld
import Derived.Laws.BitsLemmas
import Derived.RowKit
import Derived.Test.YtfoocmmjefdojaaWWords
import Derived.Test.YtfoocmmjefdojaaWLast
import Derived.Test.YtfoocmmjefdojaaWTab
import Derived.Test.YtfoocmmjefdojaaWFour
import Derived.Test.YtfoocmmjefdojaaWQPut
import Derived.Test.YtfoocmmjefdojaaWApart
import Derived.Test.YtfoocmmjefdojaaWArr
import Derived.Test.YtfoocmmjefdojaaWZeros
import Derived.Test.YtfoocmmjefdojaaWFoot
import Derived.Test.YtfoocmmjefdojaaWKept
import Derived.Test.YtfoocmmjefdojaaWShare
import Derived.Test.YtfoocmmjefdojaaWN
import Derived.Test.YtfoocmmjefdojaaWFootNe
import Derived.Test.YtfoocmmjefdojaaWAt
import Derived.Test.YtfoocmmjefdojaaWEqStruct
import Derived.Test.YtfoocmmjefdojaaWRepsOne
import Derived.Test.YtfoocmmjefdojaaWInv
import Derived.Test.YtfoocmmjefdojaaWInvWords
import Derived.Test.YtfoocmmjefdojaaWGuard
import Derived.Test.YtfoocmmjefdojaaWNEv
import Derived.Test.YtfoocmmjefdojaaWMore
namespace Go.Proofs.Ytfoocmmjefdojaa.G
open Go.RowKit Go.Proofs.YtfoocmmjefdojaaW.PrintWords Go.Proofs.YtfoocmmjefdojaaW.PrintLast Go.Proofs.YtfoocmmjefdojaaW.PrintMore
attribute [local go_sem] max2_int min2_int max_two min_two max_three min_three max_four min_four   -- for this text's walks alone
set_option linter.unusedVariables false
set_option linter.unusedSimpArgs false



def errW : Option Int → Value
  | none => .nilIface
  | some c => .iface 0 (.int .i64 c)
theorem errW_none : errW none = .nilIface := rfl
theorem errW_some (c : Int) : errW (some c) = .iface 0 (.int .i64 c) := rfl

-- the values' own types
def rd_L1 (xs : List (List Int)) (i : Int) : (List Int) := xs.getD i.toNat ([] : List Int)
theorem at_L1 {w : World} {A : Option Addr} {n : Nat} {xs : List (List Int)} (h : Kd.C (Kd.slice 3 (Kd.int .i64)) w A n xs) (i : Int) (h0 : 0 ≤ i) (h1 : i < n) : ∃ ad A0 c0, A = some ad ∧ w.cell? (ad.add i.toNat) = some (.slice A0 (rd_L1 xs i).length c0) ∧ (rd_L1 xs i).length ≤ c0 ∧ (Kd.int .i64).C w A0 (rd_L1 xs i).length (rd_L1 xs i) := by
  obtain ⟨ad, c, e, _, hK, hc0⟩ := Kd.C_get h ([] : List Int) i h0 h1
  have hc : ∀ j u, c[j]? = some u → w.cell? (ad.add (i.toNat * 1 + j)) = some u := hc0
  obtain ⟨A0, c0, rfl, l0, g0⟩ := hK
  exact ⟨ad, A0, c0, e, by have hq := hc 0 _ rfl; rwa [Nat.mul_one, Nat.add_zero] at hq, l0, g0⟩

theorem cell_set_map (w : World) (a : Addr) (v : Value) : (w.setCell a v).cell? a = (w.cell? a).map fun _ => v := by
  cases h : w.cell? a with
  | some u => rw [World.cell?_setCell_same w a v h]; rfl
  | none =>
    by_cases hb : ∃ u, (w.setCell a v).cell? a = some u
    · obtain ⟨u, hu⟩ := hb
      exfalso
      revert h hu
      simp only [World.setCell, World.cell?, Array.getElem?_modify, if_true]
      cases w.heap[a.block]? with
      | none => simp
      | some x =>
        cases x <;> simp
        intro h1 h2
        cases hs : a.spot <;> simp_all
    · cases h2 : (w.setCell a v).cell? a with
      | none => rfl
      | some u => exact absurd ⟨u, h2⟩ hb

end Go.Proofs.Ytfoocmmjefdojaa.G
