/- Layer 3: the walk of StyleKeeps. -/
import Derived.Test.YtdeojdbehbpggaaProg
import Derived.Test.YtdeojdbehbpggaaDefs
import Derived.Test.YtdeojdbehbpggaaRange
import Derived.Test.YtdeojdbehbpggaaHeld
import Derived.Test.YtdeojdbehbpggaaSt3
import Derived.Test.YtdeojdbehbpggaaSt5
import Derived.Test.YtdeojdbehbpggaaSt9
import Derived.Test.YtdeojdbehbpggaaStEs
import Derived.WalkKit
import Derived.LoopTactic
import Derived.Outline
import Derived.Lib.Hide
import Derived.Handy
import Derived.Deep.DeepCutAuto
import Derived.Deep.RegionHeld3
import Derived.Deep.RegionWith
import Derived.Stop.RegionWithIn
import Derived.Deep.QuietTactic
import Derived.BigQuiet
import Derived.Test.YtdeojdbehbpggaaStA
import Derived.Test.YtdeojdbehbpggaaWWords
namespace Go.Proofs.Ytdeojdbehbpggaa
open Go.RowKit Go.Proofs.YtdeojdbehbpggaaW.PrintWords
set_option linter.unusedVariables false
set_option linter.unusedSimpArgs false


set_option maxRecDepth 100000 in
set_option maxHeartbeats 4000000 in
theorem keeps_no (s C : Sty) (w : World) (h1 : Gives1 s C 30) :
    Calls Try.prog 7 #[.agg s.cells] w fun e w' => e = .returned (.bool true) ∧ Below w.heap.size w w' := by
  have H1 := Lib.hid h1
  clear h1
  go_enter Try.func7, Try.ntmps7
  go_upto_region 2 with (go_at_call 10; refine (shown_any _).mono ?_; rintro e W ⟨rfl, hb⟩; have hl := hb.size; have hA := (Blk.new w 31 s.cells).below hb (by simp); have hB : Below w.heap.size w W := (Below.refl _ w |>.alloc (Nat.le_refl _) _).trans (hb.mono (by simp)); rw [World.size_alloc] at hl)
  clear hb
  have hR := hA.range
  have hl0 := hA.lt
  have HA := Lib.hid hA
  clear hA
  go_upto_region 3 with (first
    | (refine wpList_load_mid rfl 31 _ rfl _ _ rfl _ _ hR Try.underlying31 rfl (by kernel_rfl) ?_)
    | (go_at_call 11; refine (H1.out _).mono ?_; rintro e W1 ⟨rfl, hb1⟩; have hT := (Blk.new W1 31 zeroSty.cells).there C.cells.size (Nat.le_refl _); have hB1 := hB.trans (hb1.mono hB.size); have hA1 := HA.out.below hb1 hl0)
    | ((refine wpList_store_mid rfl 31 _ _ rfl (W1.heap.size) 0 (C.cells) rfl rfl hT (by kernel_rfl) (sty_one _) ?_); clear hT; have hC := (Blk.new W1 31 zeroSty.cells).setCells C.cells.toList rfl; have hA2 := (hA1.alloc (.cells zeroSty.cells 31)).setCells_other (b' := W1.heap.size) (by have := hA1.lt; omega) C.cells.toList 0; have hB2 := below_setCells' (b := W1.heap.size) hB1.size C.cells.toList 0 (hB1.alloc hB1.size (.cells zeroSty.cells 31)); change wpList _ _ _ _ _ ((W1.alloc (.cells zeroSty.cells 31)).setCells W1.heap.size 0 C.cells.toList); generalize (W1.alloc (.cells zeroSty.cells 31)).setCells W1.heap.size 0 C.cells.toList = W2 at hC hA2 hB2 ⊢; generalize W1.heap.size = n1 at hC ⊢))
  replace hC : Blk W2 n1 31 C.cells := by rwa [Array.toArray_toList] at hC
  have hR2 := hA2.range
  have hl2 := hA2.lt
  have hl3 := hC.lt
  have HA2 := Lib.hid hA2
  have HC := Lib.hid hC
  clear hA2 hC hR HA hA1 hb1 hB1 hB
  have HB2 := Lib.hid hB2
  clear hB2
  go_wp2
  go_returns
  exact ⟨rfl, HB2.out⟩

theorem sizeC_k (z : Sz) : (sizeC z).k = z.k := by
  unfold sizeC; split
  · rename_i h; exact h.symm
  · rfl

set_option maxRecDepth 100000 in
set_option maxHeartbeats 4000000 in
theorem keeps_yes (s C : Sty) (w : World) (hCE : C = styC s) (h1 : Gives1 s C 0) :
    Calls Try.prog 7 #[.agg s.cells] w fun e w' => e = .returned (.bool true) ∧ Below w.heap.size w w' := by
  have H1 := Lib.hid h1
  have HCE := Lib.hid hCE
  clear h1 hCE
  go_enter Try.func7, Try.ntmps7
  go_upto_region 2 with (go_at_call 10; refine (shown_any _).mono ?_; rintro e W ⟨rfl, hb⟩; have hl := hb.size; have hA := (Blk.new w 31 s.cells).below hb (by simp); have hB : Below w.heap.size w W := (Below.refl _ w |>.alloc (Nat.le_refl _) _).trans (hb.mono (by simp)); rw [World.size_alloc] at hl)
  clear hb
  have hR := hA.range
  have hl0 := hA.lt
  have HA := Lib.hid hA
  clear hA
  go_upto_region 3 with (first
    | (refine wpList_load_mid rfl 31 _ rfl _ _ rfl _ _ hR Try.underlying31 rfl (by kernel_rfl) ?_)
    | (go_at_call 11; refine (H1.out _).mono ?_; rintro e W1 ⟨rfl, hb1⟩; have hT := (Blk.new W1 31 zeroSty.cells).there C.cells.size (Nat.le_refl _); have hB1 := hB.trans (hb1.mono hB.size); have hA1 := HA.out.below hb1 hl0)
    | ((refine wpList_store_mid rfl 31 _ _ rfl (W1.heap.size) 0 (C.cells) rfl rfl hT (by kernel_rfl) (sty_one _) ?_); clear hT; have hC := (Blk.new W1 31 zeroSty.cells).setCells C.cells.toList rfl; have hA2 := (hA1.alloc (.cells zeroSty.cells 31)).setCells_other (b' := W1.heap.size) (by have := hA1.lt; omega) C.cells.toList 0; have hB2 := below_setCells' (b := W1.heap.size) hB1.size C.cells.toList 0 (hB1.alloc hB1.size (.cells zeroSty.cells 31)); change wpList _ _ _ _ _ ((W1.alloc (.cells zeroSty.cells 31)).setCells W1.heap.size 0 C.cells.toList); generalize (W1.alloc (.cells zeroSty.cells 31)).setCells W1.heap.size 0 C.cells.toList = W2 at hC hA2 hB2 ⊢; generalize W1.heap.size = n1 at hC ⊢))
  replace hC : Blk W2 n1 31 C.cells := by rwa [Array.toArray_toList] at hC
  have hR2 := hA2.range
  have hl2 := hA2.lt
  have hl3 := hC.lt
  have HA2 := Lib.hid hA2
  have HC := Lib.hid hC
  clear hA2 hC hR HA hA1 hb1 hB1 hB
  have hA0 : Aside0 (Blk W2 w.heap.size 31 s.cells) := ⟨HA2.out⟩
  have hC0 : Aside0 (Blk W2 n1 31 C.cells) := ⟨HC.out⟩
  have hB0 : Aside0 (Below w.heap.size w W2) := ⟨hB2⟩
  clear HA2 HC hR2 hB2
  go_wp2
  go_loopw [6] (fun i wr => ∃ k : Nat, k ≤ 4 ∧ i = .int .i64 k ∧ Aside0 (Blk wr w.heap.size 31 s.cells) ∧ Aside0 (Blk wr n1 31 C.cells) ∧ Aside0 (Below w.heap.size w wr)) (fun i _ => 4 - (intOf i).toNat)
  case atStart => exact ⟨0, by omega, rfl, hA0, hC0, hB0⟩
  case round =>
    obtain ⟨k, hk, rfl, HA, HC, HB⟩ := hrel
    clear hA0 hC0 hB0
    have hlA := HA.out.lt
    have hlC := HC.out.lt
    match k, hk with
    | 0, _ =>
      have d0 : wr.cell? ⟨n1, 8, none⟩ = some (.int .i64 s.b0.s) := (HC.out.cell 8).trans (by rw [HCE.out]; rfl)
      have d1 : wr.cell? ⟨n1, 10, none⟩ = some (.int .u32 s.b0.c) := (HC.out.cell 10).trans (by rw [HCE.out]; rfl)
      have d2 : wr.cell? ⟨w.heap.size, 8, none⟩ = some (.int .i64 s.b0.s) := HA.out.cell 8
      have d3 : wr.cell? ⟨w.heap.size, 10, none⟩ = some (.int .u32 s.b0.c) := HA.out.cell 10
      have hd : (s.b0.c != s.b0.c) = false := by simp
      go_wp2
      go_quiet (fail)
      go_wp2
      go_roundw
      case rel => exact ⟨1, by omega, by go_num, ⟨HA.out⟩, ⟨HC.out⟩, ⟨pw_below_drewN HB.out _⟩⟩
      case measure => simp [intOf]
    | 1, _ =>
      have d0 : wr.cell? ⟨n1, 11, none⟩ = some (.int .i64 s.b1.s) := (HC.out.cell 11).trans (by rw [HCE.out]; rfl)
      have d1 : wr.cell? ⟨n1, 13, none⟩ = some (.int .u32 s.b1.c) := (HC.out.cell 13).trans (by rw [HCE.out]; rfl)
      have d2 : wr.cell? ⟨w.heap.size, 11, none⟩ = some (.int .i64 s.b1.s) := HA.out.cell 11
      have d3 : wr.cell? ⟨w.heap.size, 13, none⟩ = some (.int .u32 s.b1.c) := HA.out.cell 13
      have hd : (s.b1.c != s.b1.c) = false := by simp
      go_wp2
      go_quiet (fail)
      go_wp2
      go_roundw
      case rel => exact ⟨2, by omega, by go_num, ⟨HA.out⟩, ⟨HC.out⟩, ⟨pw_below_drewN HB.out _⟩⟩
      case measure => simp [intOf]
    | 2, _ =>
      have d0 : wr.cell? ⟨n1, 14, none⟩ = some (.int .i64 s.b2.s) := (HC.out.cell 14).trans (by rw [HCE.out]; rfl)
      have d1 : wr.cell? ⟨n1, 16, none⟩ = some (.int .u32 s.b2.c) := (HC.out.cell 16).trans (by rw [HCE.out]; rfl)
      have d2 : wr.cell? ⟨w.heap.size, 14, none⟩ = some (.int .i64 s.b2.s) := HA.out.cell 14
      have d3 : wr.cell? ⟨w.heap.size, 16, none⟩ = some (.int .u32 s.b2.c) := HA.out.cell 16
      have hd : (s.b2.c != s.b2.c) = false := by simp
      go_wp2
      go_quiet (fail)
      go_wp2
      go_roundw
      case rel => exact ⟨3, by omega, by go_num, ⟨HA.out⟩, ⟨HC.out⟩, ⟨pw_below_drewN HB.out _⟩⟩
      case measure => simp [intOf]
    | 3, _ =>
      have d0 : wr.cell? ⟨n1, 17, none⟩ = some (.int .i64 s.b3.s) := (HC.out.cell 17).trans (by rw [HCE.out]; rfl)
      have d1 : wr.cell? ⟨n1, 19, none⟩ = some (.int .u32 s.b3.c) := (HC.out.cell 19).trans (by rw [HCE.out]; rfl)
      have d2 : wr.cell? ⟨w.heap.size, 17, none⟩ = some (.int .i64 s.b3.s) := HA.out.cell 17
      have d3 : wr.cell? ⟨w.heap.size, 19, none⟩ = some (.int .u32 s.b3.c) := HA.out.cell 19
      have hd : (s.b3.c != s.b3.c) = false := by simp
      go_wp2
      go_quiet (fail)
      go_wp2
      go_roundw
      case rel => exact ⟨4, by omega, by go_num, ⟨HA.out⟩, ⟨HC.out⟩, ⟨pw_below_drewN HB.out _⟩⟩
      case measure => simp [intOf]
    | 4, _ =>
      have d0 : wr.cell? ⟨n1, 0, none⟩ = some (.int .i64 s.wd.k) := (HC.out.cell 0).trans (by rw [HCE.out]; exact congrArg (fun z => some (Value.int .i64 z)) (sizeC_k s.wd))
      have e0 : wr.cell? ⟨w.heap.size, 0, none⟩ = some (.int .i64 s.wd.k) := HA.out.cell 0
      have d1 : wr.cell? ⟨n1, 2, none⟩ = some (.int .i64 s.ht.k) := (HC.out.cell 2).trans (by rw [HCE.out]; exact congrArg (fun z => some (Value.int .i64 z)) (sizeC_k s.ht))
      have e1 : wr.cell? ⟨w.heap.size, 2, none⟩ = some (.int .i64 s.ht.k) := HA.out.cell 2
      have d2 : wr.cell? ⟨n1, 22, none⟩ = some (.int .i64 s.al) := (HC.out.cell 22).trans (by rw [HCE.out]; rfl)
      have e2 : wr.cell? ⟨w.heap.size, 22, none⟩ = some (.int .i64 s.al) := HA.out.cell 22
      have d3 : wr.cell? ⟨n1, 23, none⟩ = some (.bool s.fx) := (HC.out.cell 23).trans (by rw [HCE.out]; rfl)
      have e3 : wr.cell? ⟨w.heap.size, 23, none⟩ = some (.bool s.fx) := HA.out.cell 23
      have d4 : wr.cell? ⟨n1, 24, none⟩ = some (.bool s.co) := (HC.out.cell 24).trans (by rw [HCE.out]; rfl)
      have e4 : wr.cell? ⟨w.heap.size, 24, none⟩ = some (.bool s.co) := HA.out.cell 24
      have d5 : wr.cell? ⟨n1, 27, none⟩ = some (.bool s.hi) := (HC.out.cell 27).trans (by rw [HCE.out]; rfl)
      have e5 : wr.cell? ⟨w.heap.size, 27, none⟩ = some (.bool s.hi) := HA.out.cell 27
      have d6 : wr.cell? ⟨n1, 28, none⟩ = some (.bool s.be) := (HC.out.cell 28).trans (by rw [HCE.out]; rfl)
      have e6 : wr.cell? ⟨w.heap.size, 28, none⟩ = some (.bool s.be) := HA.out.cell 28
      go_wp2
      go_returns
      exact ⟨by simp, HB.out⟩

theorem keeps_any (s : Sty) (w : World) :
    Calls Try.prog 7 #[.agg s.cells] w fun e w' => e = .returned (.bool true) ∧ Below w.heap.size w w' := by
  cases hv : validB s
  · exact keeps_no s zeroSty w (fun w => computed_no s w hv)
  · exact keeps_yes s (styC s) w rfl (fun w => computed_yes s w hv)
end Go.Proofs.Ytdeojdbehbpggaa
