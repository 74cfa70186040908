/- Layer 3: the head of the laws. -/
import Derived.Test.YtdeojdbehbpggaaProg
import Derived.Test.YtdeojdbehbpggaaDefs
import Derived.Test.YtdeojdbehbpggaaRange
import Derived.Test.YtdeojdbehbpggaaSt5
import Derived.Test.YtdeojdbehbpggaaSt7
import Derived.WalkKit
import Derived.LoopTactic
import Derived.Outline
import Derived.Lib.Hide
import Derived.Handy
import Derived.Deep.DeepCutAuto
import Derived.Deep.RegionHeld3
import Derived.Deep.RegionWith
namespace Go.Proofs.Ytdeojdbehbpggaa
open Go.RowKit
set_option linter.unusedVariables false
set_option linter.unusedSimpArgs false

theorem wpList_load_w {P : Program} {Q : Exit → Act → World → Prop} {ops : Array Oper} {rest : List Oper} {op : Oper} {a : Act} {w : World} (ty : TypeId) (x : Operand) (ho : op.op = .load ty x)
    (b o : Nat) (hx : a.eval x = .pointer (some ⟨b, o, none⟩)) (cs : List Value) (d : TypeDesc) (hc : w.rangeAt b o cs)
    (hw : Region.wanted op (yielded ops a.tmps) = true)
    (hu : P.underlying ty = some d) (hd : d.isRow = true) (hi : (P.info? ty).map (·.size) = some cs.length)
    (h : wpList P ops Q rest (a.put op.dst (.agg cs.toArray)) w) : wpList P ops Q (op :: rest) a w :=
  wpList_step fun _ hK => by rw [if_pos hw]; exact wp_load_mid ty x ho b o hx cs d hc hu hd hi (hK _ _ h)

def S1 : Sty := { zeroSty with rs := -3, b0 := ⟨0, 5, 0⟩, b1 := ⟨3, 7, 0⟩ }
def S2 : Sty := { zeroSty with al := 9 }
def C1 : Array Value := (styC S1).cells
def Z1 : Array Value := zeroSty.cells

theorem shown_h1 (w : World) : Calls Try.prog 11 #[.agg S1.cells] w fun e w' => e = .returned (.tuple #[.agg C1, .int .i64 0]) ∧ Below w.heap.size w w' := computed_yes S1 w rfl
theorem shown_h2 (w : World) : Calls Try.prog 11 #[.agg S2.cells] w fun e w' => e = .returned (.tuple #[.agg Z1, .int .i64 30]) ∧ Below w.heap.size w w' := computed_no S2 w rfl
theorem s1_sok : (styC S1).sok := by
  intro x hx
  simp [Sty.sides, styC, S1, zeroSty, lineC] at hx
  rcases hx with rfl | rfl | rfl | rfl <;> simp [I64] <;> omega
theorem shown_h3 (w : World) : Calls Try.prog 15 #[.agg C1, .bool true] w fun e w' => e = .returned (.agg #[.int .i64 0, .int .i64 7, .int .i64 0, .int .i64 0]) ∧ Below w.heap.size w w' :=
  (frame_any (styC S1) true w s1_sok).mono (fun e w' h => ⟨h.1.trans (by simp [frameL, four, Sty.sides, styC, S1, zeroSty, lineC, aroundI, satAdd, (show (max 7 0 : Int) = 7 from rfl)]), h.2⟩)
theorem shown_h4 (W : World) : Sem.run Try.prog (Instr.index 24 (.agg #[.int .i64 0, .int .i64 7, .int .i64 0, .int .i64 0]) (.int .i64 1)) W = .ok (.int .i64 7) W := by kernel_rfl
theorem c1_one : C1.all (·.oneCell') = true := sty_one _
theorem z1_one : Z1.all (·.oneCell') = true := sty_one _

set_option maxRecDepth 100000 in
set_option maxHeartbeats 4000000 in
theorem shown_any (w : World) :
    Calls Try.prog 10 #[] w fun e w' => e = .returned (.bool true) ∧ Below w.heap.size w w' := by
  go_enter Try.func10, Try.ntmps10
  go_upto_region 2 with (first
    | (go_at_call 11; refine (shown_h1 _).mono ?_; rintro e W1 ⟨rfl, hb1⟩; have hB1 : Below w.heap.size w W1 := hb1; have hT := (Blk.new W1 31 Z1).there C1.size (Nat.le_refl _); have hl1 := hb1.size)
    | ((refine wpList_store_mid rfl 31 _ _ rfl (W1.heap.size) 0 (C1) rfl rfl hT (by kernel_rfl) (c1_one) ?_); have hZ1 := (Blk.new W1 31 Z1).setCells C1.toList rfl; have hl2 : W1.heap.size < ((W1.alloc (.cells Z1 31)).setCells W1.heap.size 0 C1.toList).heap.size := hZ1.lt; have hB2 := below_setCells' (b := W1.heap.size) hl1 C1.toList 0 (hB1.alloc hl1 (.cells Z1 31)); change wpList _ _ _ _ _ ((W1.alloc (.cells Z1 31)).setCells W1.heap.size 0 C1.toList); generalize (W1.alloc (.cells Z1 31)).setCells W1.heap.size 0 C1.toList = W2 at hZ1 hl2 hB2 ⊢; generalize W1.heap.size = n1 at hZ1 hl2 ⊢; clear hT))
  replace hZ1 : Blk W2 n1 31 C1 := by rwa [Array.toArray_toList] at hZ1
  have hW2 := hB2.size
  clear hb1 hB1 hl1 hW2
  go_upto_region 3 with (first
    | (go_at_call 11; refine (shown_h2 _).mono ?_; rintro e W3 ⟨rfl, hb3⟩; have hB3 := hB2.trans (hb3.mono hB2.size); have hT := (Blk.new W3 31 Z1).there Z1.size (Nat.le_refl _); have hl3 := hb3.size; replace hZ1 := hZ1.below hb3 hl2)
    | ((refine wpList_store_mid rfl 31 _ _ rfl (W3.heap.size) 0 (Z1) rfl rfl hT (by kernel_rfl) (z1_one) ?_); have hB4 := below_setCells' (b := W3.heap.size) (hB3.size) Z1.toList 0 (hB3.alloc hB3.size (.cells Z1 31)); replace hZ1 := (hZ1.alloc (.cells Z1 31)).setCells_other (b' := W3.heap.size) (by have := hZ1.lt; omega) Z1.toList 0; change wpList _ _ _ _ _ ((W3.alloc (.cells Z1 31)).setCells W3.heap.size 0 Z1.toList); generalize (W3.alloc (.cells Z1 31)).setCells W3.heap.size 0 Z1.toList = W4 at hZ1 hB4 ⊢; generalize W3.heap.size = n3 at hl3 ⊢; clear hT))
  have hR := hZ1.range
  have c1 : W4.cell? ⟨n1, 20, none⟩ = some (.int .i64 1) := hZ1.cell 20
  have c2 : W4.cell? ⟨n1, 21, none⟩ = some (.int .i64 1) := hZ1.cell 21
  have c3 : W4.cell? ⟨n1, 9, none⟩ = some (.int .i64 0) := hZ1.cell 9
  have hl4 := hZ1.lt
  clear hZ1 hb3 hB3 hB2
  have hix := shown_h4
  go_wp2_with (first | (refine wpList_load_w 31 _ rfl _ _ rfl _ _ hR (by kernel_rfl) Try.underlying31 rfl (by kernel_rfl) ?_) | (go_at_call 15; refine (shown_h3 _).mono ?_; rintro e W5 ⟨rfl, hb5⟩))
  all_goals first | go_returns | go_show
  exact ⟨rfl, hB4.trans (hb5.mono hB4.size)⟩
end Go.Proofs.Ytdeojdbehbpggaa
