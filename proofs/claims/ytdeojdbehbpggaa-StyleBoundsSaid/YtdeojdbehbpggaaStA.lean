/- Layer 3: the walk of StyleAgain. -/
import Derived.Test.YtdeojdbehbpggaaProg
import Derived.Test.YtdeojdbehbpggaaDefs
import Derived.Test.YtdeojdbehbpggaaRange
import Derived.Test.YtdeojdbehbpggaaHeld
import Derived.Test.YtdeojdbehbpggaaSt3
import Derived.Test.YtdeojdbehbpggaaSt5
import Derived.Test.YtdeojdbehbpggaaSt9
import Derived.Test.YtdeojdbehbpggaaStEs
import Derived.WalkKit
import Derived.LoopTactic
import Derived.Outline
import Derived.Lib.Hide
import Derived.Handy
import Derived.Deep.DeepCutAuto
import Derived.Deep.RegionHeld3
import Derived.Deep.RegionWith
import Derived.Stop.RegionWithIn
namespace Go.Proofs.Ytdeojdbehbpggaa
open Go.RowKit
set_option linter.unusedVariables false
set_option linter.unusedSimpArgs false

def Gives1 (s C : Sty) (e : Int) : Prop := ∀ w, Calls Try.prog 11 #[.agg s.cells] w fun x w' => x = .returned (.tuple #[.agg C.cells, .int .i64 e]) ∧ Below w.heap.size w w'

set_option maxRecDepth 100000 in
set_option maxHeartbeats 4000000 in
theorem again_no (s C : Sty) (w : World) (hC0 : C = zeroSty) (hv : validB s = false) (h1 : Gives1 s C 30) :
    Calls Try.prog 5 #[.agg s.cells] w fun e w' => e = .returned (.bool true) ∧ Below w.heap.size w w' := by
  have H1 := Lib.hid h1
  have HV := Lib.hid (fun W => by have := valid_any s W; rw [hv] at this; exact this : ∀ W : World, Calls Try.prog 13 #[.agg s.cells] W fun e w' => e = .returned (.bool false) ∧ Below W.heap.size W w')
  have HC0 := Lib.hid hC0
  clear h1 hv hC0
  go_enter Try.func5, Try.ntmps5
  go_upto_region 2 with (go_at_call 10; refine (shown_any _).mono ?_; rintro e W ⟨rfl, hb⟩; have hl := hb.size; have hA := (Blk.new w 31 s.cells).below hb (by simp); have hB : Below w.heap.size w W := (Below.refl _ w |>.alloc (Nat.le_refl _) _).trans (hb.mono (by simp)); rw [World.size_alloc] at hl)
  clear hb
  have hR := hA.range
  have hl0 := hA.lt
  have HA := Lib.hid hA
  clear hA
  go_upto_region 3 with (first
    | (refine wpList_load_mid rfl 31 _ rfl _ _ rfl _ _ hR Try.underlying31 rfl (by kernel_rfl) ?_)
    | (go_at_call 11; refine (H1.out _).mono ?_; rintro e W1 ⟨rfl, hb1⟩; have hT := (Blk.new W1 31 zeroSty.cells).there C.cells.size (Nat.le_refl _); have hB1 := hB.trans (hb1.mono hB.size); have hA1 := HA.out.below hb1 hl0)
    | ((refine wpList_store_mid rfl 31 _ _ rfl (W1.heap.size) 0 (C.cells) rfl rfl hT (by kernel_rfl) (sty_one _) ?_); clear hT; have hC := (Blk.new W1 31 zeroSty.cells).setCells C.cells.toList rfl; have hA2 := (hA1.alloc (.cells zeroSty.cells 31)).setCells_other (b' := W1.heap.size) (by have := hA1.lt; omega) C.cells.toList 0; have hB2 := below_setCells' (b := W1.heap.size) hB1.size C.cells.toList 0 (hB1.alloc hB1.size (.cells zeroSty.cells 31)); change wpList _ _ _ _ _ ((W1.alloc (.cells zeroSty.cells 31)).setCells W1.heap.size 0 C.cells.toList); generalize (W1.alloc (.cells zeroSty.cells 31)).setCells W1.heap.size 0 C.cells.toList = W2 at hC hA2 hB2 ⊢; generalize W1.heap.size = n1 at hC ⊢))
  replace hC : Blk W2 n1 31 C.cells := by rwa [Array.toArray_toList] at hC
  have hR2 := hA2.range
  have hl2 := hA2.lt
  have hl3 := hC.lt
  have HA2 := Lib.hid hA2
  have HC := Lib.hid hC
  clear hA2 hC hR HA hA1 hb1 hB1 hB

  have hRC := HC.out.range
  have HB2 := Lib.hid hB2
  clear hB2
  have hq : ∀ W, (binOp .eql 31 (.agg C.cells) (.agg zeroSty.cells)).run Try.prog W = .ok (.bool true) W := by rw [HC0.out]; exact sty_refl zeroSty
  simp only [Sty.cells, zeroSty] at hq
  change ∀ W, (binOp .eql 31 (.agg C.cells) _).run Try.prog W = .ok (.bool true) W at hq
  go_upto_region 4 with fail
  go_wp2_with (first
    | (refine wpList_load_w 31 _ rfl _ _ rfl _ _ hRC (by kernel_rfl) Try.underlying31 rfl (by kernel_rfl) ?_)
    | (refine wpList_load_w 31 _ rfl _ _ rfl _ _ hR2 (by kernel_rfl) Try.underlying31 rfl (by kernel_rfl) ?_)
    | (go_at_call 13; refine (HV.out _).mono ?_; rintro e w3 ⟨rfl, hb3⟩))
  go_returns
  exact ⟨rfl, HB2.out.trans (hb3.mono HB2.out.size)⟩

set_option maxRecDepth 100000 in
set_option maxHeartbeats 4000000 in
theorem again_yes (s C : Sty) (w : World) (hv : validB C = true) (h1 : Gives1 s C 0) (h2 : Gives1 C C 0) :
    Calls Try.prog 5 #[.agg s.cells] w fun e w' => e = .returned (.bool true) ∧ Below w.heap.size w w' := by
  have H1 := Lib.hid h1
  have H2 := Lib.hid h2
  have HV := Lib.hid (fun W => by have := valid_any C W; rw [hv] at this; exact this : ∀ W : World, Calls Try.prog 13 #[.agg C.cells] W fun e w' => e = .returned (.bool true) ∧ Below W.heap.size W w')
  clear h1 h2 hv
  go_enter Try.func5, Try.ntmps5
  go_upto_region 2 with (go_at_call 10; refine (shown_any _).mono ?_; rintro e W ⟨rfl, hb⟩; have hl := hb.size; have hA := (Blk.new w 31 s.cells).below hb (by simp); have hB : Below w.heap.size w W := (Below.refl _ w |>.alloc (Nat.le_refl _) _).trans (hb.mono (by simp)); rw [World.size_alloc] at hl)
  clear hb
  have hR := hA.range
  have hl0 := hA.lt
  have HA := Lib.hid hA
  clear hA
  go_upto_region 3 with (first
    | (refine wpList_load_mid rfl 31 _ rfl _ _ rfl _ _ hR Try.underlying31 rfl (by kernel_rfl) ?_)
    | (go_at_call 11; refine (H1.out _).mono ?_; rintro e W1 ⟨rfl, hb1⟩; have hT := (Blk.new W1 31 zeroSty.cells).there C.cells.size (Nat.le_refl _); have hB1 := hB.trans (hb1.mono hB.size); have hA1 := HA.out.below hb1 hl0)
    | ((refine wpList_store_mid rfl 31 _ _ rfl (W1.heap.size) 0 (C.cells) rfl rfl hT (by kernel_rfl) (sty_one _) ?_); clear hT; have hC := (Blk.new W1 31 zeroSty.cells).setCells C.cells.toList rfl; have hA2 := (hA1.alloc (.cells zeroSty.cells 31)).setCells_other (b' := W1.heap.size) (by have := hA1.lt; omega) C.cells.toList 0; have hB2 := below_setCells' (b := W1.heap.size) hB1.size C.cells.toList 0 (hB1.alloc hB1.size (.cells zeroSty.cells 31)); change wpList _ _ _ _ _ ((W1.alloc (.cells zeroSty.cells 31)).setCells W1.heap.size 0 C.cells.toList); generalize (W1.alloc (.cells zeroSty.cells 31)).setCells W1.heap.size 0 C.cells.toList = W2 at hC hA2 hB2 ⊢; generalize W1.heap.size = n1 at hC ⊢))
  replace hC : Blk W2 n1 31 C.cells := by rwa [Array.toArray_toList] at hC
  have hR2 := hA2.range
  have hl2 := hA2.lt
  have hl3 := hC.lt
  have HA2 := Lib.hid hA2
  have HC := Lib.hid hC
  clear hA2 hC hR HA hA1 hb1 hB1 hB
  have hRC := HC.out.range
  have hq := sty_refl C
  go_upto_region 6 with (first
    | (refine wpList_load_mid rfl 31 _ rfl _ _ rfl _ _ hRC Try.underlying31 rfl (by kernel_rfl) ?_)
    | (go_at_call 11; refine (H2.out _).mono ?_; rintro e W3 ⟨rfl, hb3⟩; have hT := (Blk.new W3 31 zeroSty.cells).there C.cells.size (Nat.le_refl _); have hB3 := hB2.trans (hb3.mono hB2.size); have hA3 := HA2.out.below hb3 hl2; have hC3 := HC.out.below hb3 hl3)
    | ((refine wpList_store_mid rfl 31 _ _ rfl (W3.heap.size) 0 (C.cells) rfl rfl hT (by kernel_rfl) (sty_one _) ?_); clear hT; have hD := (Blk.new W3 31 zeroSty.cells).setCells C.cells.toList rfl; have hA4 := (hA3.alloc (.cells zeroSty.cells 31)).setCells_other (b' := W3.heap.size) (by have := hA3.lt; omega) C.cells.toList 0; have hC4 := (hC3.alloc (.cells zeroSty.cells 31)).setCells_other (b' := W3.heap.size) (by have := hC3.lt; omega) C.cells.toList 0; have hB4 := below_setCells' (b := W3.heap.size) hB3.size C.cells.toList 0 (hB3.alloc hB3.size (.cells zeroSty.cells 31)); change wpList _ _ _ _ _ ((W3.alloc (.cells zeroSty.cells 31)).setCells W3.heap.size 0 C.cells.toList); generalize (W3.alloc (.cells zeroSty.cells 31)).setCells W3.heap.size 0 C.cells.toList = W4 at hD hA4 hC4 hB4 ⊢; generalize W3.heap.size = n3 at hD ⊢))
  replace hD : Blk W4 n3 31 C.cells := by rwa [Array.toArray_toList] at hD
  have hl5 := hC4.lt
  have hl6 := hD.lt
  have hRC4 := hC4.range
  have hRD4 := hD.range
  have HC4 := Lib.hid hC4
  have HD4 := Lib.hid hD
  have HB4 := Lib.hid hB4
  clear hA4 hC4 hD hA3 hC3 HA2 HC hR2 hb3 hB3 hB2 hB4
  go_wp2_with (first
    | (refine wpList_load_w 31 _ rfl _ _ rfl _ _ hRC4 (by kernel_rfl) Try.underlying31 rfl (by kernel_rfl) ?_)
    | (refine wpList_load_w 31 _ rfl _ _ rfl _ _ hRC5 (by kernel_rfl) Try.underlying31 rfl (by kernel_rfl) ?_)
    | (refine wpList_load_w 31 _ rfl _ _ rfl _ _ hRD5 (by kernel_rfl) Try.underlying31 rfl (by kernel_rfl) ?_)
    | (go_at_call 13; refine (HV.out _).mono ?_; rintro e w5 ⟨rfl, hb5⟩; have hRC5 := (HC4.out.below hb5 hl5).range; have hRD5 := (HD4.out.below hb5 hl6).range))
  go_returns
  exact ⟨rfl, HB4.out.trans (hb5.mono HB4.out.size)⟩

theorem max_again (n : Int) : max (max n 0) 0 = max n 0 := by omega
theorem sizeC_again (z : Sz) (h : sizeB z = true) : sizeB (sizeC z) = true ∧ sizeC (sizeC z) = sizeC z := by
  obtain ⟨k, n⟩ := z
  unfold sizeB lenB at h
  by_cases h0 : k = 0
  · subst h0; exact ⟨rfl, rfl⟩
  by_cases h1 : k = 1
  · subst h1
    simp at h
    refine ⟨?_, ?_⟩
    · simp [sizeC, sizeB, lenB]; omega
    · simp [sizeC]
  by_cases h2 : k = 2
  · subst h2
    simp at h
    refine ⟨?_, ?_⟩
    · simp [sizeC, sizeB]; omega
    · simp [sizeC]
  · simp [h0, h1, h2] at h
theorem lineC_again (p : Int) (b : Ln) (h : lineB p b = true) : lineB (max p 0) (lineC b) = true ∧ lineC (lineC b) = lineC b := by
  obtain ⟨s, w, c⟩ := b
  unfold lineB lenB at h
  simp at h
  unfold lineC lineB lenB
  dsimp only
  by_cases h0 : s = 0 ∨ s = 1
  · simp [h0]; omega
  · simp [h0]; omega
theorem again_pure (s : Sty) (h : validB s = true) : validB (styC s) = true ∧ styC (styC s) = styC s := by
  unfold validB at h
  simp only [Bool.and_eq_true, decide_eq_true_eq] at h
  obtain ⟨⟨⟨⟨⟨⟨⟨⟨⟨⟨⟨⟨⟨h1, h2⟩, h3⟩, h4⟩, h5⟩, h6⟩, h7⟩, h8⟩, h9⟩, h10⟩, h11⟩, h12⟩, h13⟩, h14⟩ := h
  have a1 := sizeC_again _ h1
  have a2 := sizeC_again _ h2
  have b0 := lineC_again _ _ h11
  have b1 := lineC_again _ _ h12
  have b2 := lineC_again _ _ h13
  have b3 := lineC_again _ _ h14
  unfold lenB at h3 h4
  simp only [Bool.and_eq_true, decide_eq_true_eq] at h3 h4
  constructor
  · unfold validB styC lenB
    simp only [a1.1, a2.1, b0.1, b1.1, b2.1, b3.1, Bool.and_eq_true, decide_eq_true_eq, and_true, true_and]
    split <;> omega
  · unfold styC
    simp only [a1.2, a2.2, b0.2, b1.2, b2.2, b3.2, max_again]
    congr 1
    · omega
    · split <;> (try split) <;> omega

theorem again_any (s : Sty) (w : World) :
    Calls Try.prog 5 #[.agg s.cells] w fun e w' => e = .returned (.bool true) ∧ Below w.heap.size w w' := by
  cases hv : validB s
  · exact again_no s zeroSty w rfl hv (fun w => computed_no s w hv)
  · obtain ⟨h1, h2⟩ := again_pure s hv
    exact again_yes s (styC s) w h1 (fun w => computed_yes s w hv) (fun w => by have := computed_yes (styC s) w h1; rwa [h2] at this)
end Go.Proofs.Ytdeojdbehbpggaa
