/- Layer 3: the walk of StyleComputes. -/
import Derived.Test.YtdeojdbehbpggaaProg
import Derived.Test.YtdeojdbehbpggaaDefs
import Derived.Test.YtdeojdbehbpggaaRange
import Derived.Test.YtdeojdbehbpggaaHeld
import Derived.Test.YtdeojdbehbpggaaSt3
import Derived.Test.YtdeojdbehbpggaaSt4
import Derived.Test.YtdeojdbehbpggaaSt5
import Derived.Test.YtdeojdbehbpggaaSt6
import Derived.Test.YtdeojdbehbpggaaSt9
import Derived.Test.YtdeojdbehbpggaaStEs
import Derived.WalkKit
import Derived.LoopTactic
import Derived.Outline
import Derived.Lib.Hide
import Derived.Handy
import Derived.Deep.DeepCutAuto
import Derived.Deep.RegionHeld3
import Derived.Deep.RegionWith
import Derived.Stop.RegionWithIn
namespace Go.Proofs.Ytdeojdbehbpggaa
open Go.RowKit
set_option linter.unusedVariables false
set_option linter.unusedSimpArgs false

def Gives (f : FuncId) (s C : Sty) (e : Int) : Prop := ∀ w, Calls Try.prog f #[.agg s.cells] w fun x w' => x = .returned (.tuple #[.agg C.cells, .int .i64 e]) ∧ Below w.heap.size w w'

set_option maxRecDepth 100000 in
set_option maxHeartbeats 4000000 in
theorem computes_walk (s C : Sty) (n : Int) (w : World) (h1 : Gives 11 s C n) (h2 : Gives 12 s C n) :
    Calls Try.prog 3 #[.agg s.cells] w fun e w' => e = .returned (.bool true) ∧ Below w.heap.size w w' := by
  have H1 := Lib.hid h1
  have H2 := Lib.hid h2
  clear h1 h2
  go_enter Try.func3, Try.ntmps3
  go_upto_region 2 with (go_at_call 10; refine (shown_any _).mono ?_; rintro e W ⟨rfl, hb⟩; have hl := hb.size; have hA := (Blk.new w 31 s.cells).below hb (by simp); have hB : Below w.heap.size w W := (Below.refl _ w |>.alloc (Nat.le_refl _) _).trans (hb.mono (by simp)); rw [World.size_alloc] at hl)
  clear hb
  have hR := hA.range
  have hl0 := hA.lt
  have HA := Lib.hid hA
  clear hA
  go_upto_region 3 with (first
    | (refine wpList_load_mid rfl 31 _ rfl _ _ rfl _ _ hR Try.underlying31 rfl (by kernel_rfl) ?_)
    | (go_at_call 11; refine (H1.out _).mono ?_; rintro e W1 ⟨rfl, hb1⟩; have hT := (Blk.new W1 31 zeroSty.cells).there C.cells.size (Nat.le_refl _); have hB1 := hB.trans (hb1.mono hB.size); have hA1 := HA.out.below hb1 hl0)
    | ((refine wpList_store_mid rfl 31 _ _ rfl (W1.heap.size) 0 (C.cells) rfl rfl hT (by kernel_rfl) (sty_one _) ?_); clear hT; have hC := (Blk.new W1 31 zeroSty.cells).setCells C.cells.toList rfl; have hA2 := (hA1.alloc (.cells zeroSty.cells 31)).setCells_other (b' := W1.heap.size) (by have := hA1.lt; omega) C.cells.toList 0; have hB2 := below_setCells' (b := W1.heap.size) hB1.size C.cells.toList 0 (hB1.alloc hB1.size (.cells zeroSty.cells 31)); change wpList _ _ _ _ _ ((W1.alloc (.cells zeroSty.cells 31)).setCells W1.heap.size 0 C.cells.toList); generalize (W1.alloc (.cells zeroSty.cells 31)).setCells W1.heap.size 0 C.cells.toList = W2 at hC hA2 hB2 ⊢; generalize W1.heap.size = n1 at hC ⊢))
  replace hC : Blk W2 n1 31 C.cells := by rwa [Array.toArray_toList] at hC
  have hR2 := hA2.range
  have hl2 := hA2.lt
  have hl3 := hC.lt
  have HA2 := Lib.hid hA2
  have HC := Lib.hid hC
  clear hA2 hC hR HA hA1 hb1 hB1 hB
  go_upto_region 4 with (first
    | (refine wpList_load_mid rfl 31 _ rfl _ _ rfl _ _ hR2 Try.underlying31 rfl (by kernel_rfl) ?_)
    | (go_at_call 12; refine (H2.out _).mono ?_; rintro e W3 ⟨rfl, hb3⟩; have hT := (Blk.new W3 31 zeroSty.cells).there C.cells.size (Nat.le_refl _); have hB3 := hB2.trans (hb3.mono hB2.size); have hA3 := HA2.out.below hb3 hl2; have hC3 := HC.out.below hb3 hl3)
    | ((refine wpList_store_mid rfl 31 _ _ rfl (W3.heap.size) 0 (C.cells) rfl rfl hT (by kernel_rfl) (sty_one _) ?_); clear hT; have hD := (Blk.new W3 31 zeroSty.cells).setCells C.cells.toList rfl; have hA4 := (hA3.alloc (.cells zeroSty.cells 31)).setCells_other (b' := W3.heap.size) (by have := hA3.lt; omega) C.cells.toList 0; have hC4 := (hC3.alloc (.cells zeroSty.cells 31)).setCells_other (b' := W3.heap.size) (by have := hC3.lt; omega) C.cells.toList 0; have hB4 := below_setCells' (b := W3.heap.size) hB3.size C.cells.toList 0 (hB3.alloc hB3.size (.cells zeroSty.cells 31)); change wpList _ _ _ _ _ ((W3.alloc (.cells zeroSty.cells 31)).setCells W3.heap.size 0 C.cells.toList); generalize (W3.alloc (.cells zeroSty.cells 31)).setCells W3.heap.size 0 C.cells.toList = W4 at hD hA4 hC4 hB4 ⊢; generalize W3.heap.size = n3 at hD ⊢))
  replace hD : Blk W4 n3 31 C.cells := by rwa [Array.toArray_toList] at hD
  have hl4 := hA4.lt
  have hl5 := hC4.lt
  have hl6 := hD.lt
  have HS : (fun W : World => W.rangeAt w.heap.size 0 s.cells.toList ∧ W.rangeAt n1 0 C.cells.toList ∧ W.rangeAt n3 0 C.cells.toList) W4.drew := ⟨hA4.range, hC4.range, hD.range⟩
  clear hA4 hC4 hD hA3 hC3 HA2 HC hR2 hb3 hB3 hB2
  have hq := sty_refl C
  refine (wpIn_wide (n := 0)).1 ?_
  refine beginH (fun W : World => W.rangeAt w.heap.size 0 s.cells.toList ∧ W.rangeAt n1 0 C.cells.toList ∧ W.rangeAt n3 0 C.cells.toList) (by kernel_rfl) ?_
  (refine takeH (i := 0) (v := ?_) rfl (by kernel_rfl) (by kernel_rfl) (by kernel_rfl) (by kernel_rfl) (fun _ _ _ h => h) ⟨Or.inl ⟨by rfl, ?_⟩, fun _ => rfl⟩ HS ?_; rotate_left; focus (rintro wS s1; go_simp; try (with_reducible rfl)); (try simp only [Act.put, List.setIfInBounds_toArray, List.set_cons_zero, List.set_cons_succ]))
  (refine takeH (i := 1) (v := ?_) rfl (by kernel_rfl) (by kernel_rfl) (by kernel_rfl) (by kernel_rfl) (fun _ _ _ h => h) ⟨Or.inl ⟨by rfl, ?_⟩, fun _ => rfl⟩ HS ?_; rotate_left; focus (rintro wS s1; go_simp; try (with_reducible rfl)); (try simp only [Act.put, List.setIfInBounds_toArray, List.set_cons_zero, List.set_cons_succ]))
  (refine takeH (i := 2) (v := .agg (s.cells)) rfl (by kernel_rfl) (by kernel_rfl) (by kernel_rfl) (by kernel_rfl) (fun _ _ _ h => h) ⟨yieldsIf_load_mid (by kernel_rfl) 31 _ rfl _ _ rfl (s.cells).toList _ (fun w h => h.1) Try.underlying31 rfl (by kernel_rfl), fun _ => rfl⟩ HS ?_; (try simp only [Act.put, List.setIfInBounds_toArray, List.set_cons_zero, List.set_cons_succ]))
  (refine takeH (i := 4) (v := .agg (s.cells)) rfl (by kernel_rfl) (by kernel_rfl) (by kernel_rfl) (by kernel_rfl) (fun _ _ _ h => h) ⟨yieldsIf_load_mid (by kernel_rfl) 31 _ rfl _ _ rfl (s.cells).toList _ (fun w h => h.1) Try.underlying31 rfl (by kernel_rfl), fun _ => rfl⟩ HS ?_; (try simp only [Act.put, List.setIfInBounds_toArray, List.set_cons_zero, List.set_cons_succ]))
  (refine oneH (i := 3) rfl (by kernel_rfl) (fun K hK => ?_); go_simp)
  (with_reducible refine (callsIn_wide.2 (valid_any s _)).mono ?_)
  rintro e w1 ⟨rfl, hb1⟩
  have hz1 := hb1.size
  simp only [World.size_drew] at hz1
  have HS1 : w1.rangeAt w.heap.size 0 s.cells.toList ∧ w1.rangeAt n1 0 C.cells.toList ∧ w1.rangeAt n3 0 C.cells.toList := ⟨rangeAt_below HS.1 hb1 (by simpa using hl4), rangeAt_below HS.2.1 hb1 (by simpa using hl5), rangeAt_below HS.2.2 hb1 (by simpa using hl6)⟩
  have hB5 : Below w.heap.size w w1 := hB4.drew.trans (hb1.mono (by simpa using hB4.size))
  dsimp only
  (refine hK _ _ ⟨HS1, ?_⟩; clear hK K; (try simp only [Act.put, List.setIfInBounds_toArray, List.set_cons_zero, List.set_cons_succ]))
  (refine oneH (i := 5) rfl (by kernel_rfl) (fun K hK => ?_); go_simp)
  (with_reducible refine (callsIn_wide.2 (rvalid_any s _)).mono ?_)
  rintro e w2 ⟨rfl, hb2⟩
  have HS2 : w2.rangeAt w.heap.size 0 s.cells.toList ∧ w2.rangeAt n1 0 C.cells.toList ∧ w2.rangeAt n3 0 C.cells.toList := ⟨rangeAt_below HS1.1 hb2 (by omega), rangeAt_below HS1.2.1 hb2 (by omega), rangeAt_below HS1.2.2 hb2 (by omega)⟩
  have hB6 : Below w.heap.size w w2 := hB5.trans (hb2.mono hB5.size)
  dsimp only
  (refine hK _ _ ⟨HS2, ?_⟩; clear hK K; (try simp only [Act.put, List.setIfInBounds_toArray, List.set_cons_zero, List.set_cons_succ]))
  (refine oneH (i := 6) rfl (by kernel_rfl) (fun K hK => ?_); go_simp)
  (refine hK _ _ ⟨HS2, ?_⟩; clear hK K; (try simp only [Act.put, List.setIfInBounds_toArray, List.set_cons_zero, List.set_cons_succ]))
  (refine oneH (i := 7) rfl (by kernel_rfl) (fun K hK => ?_); go_simp)
  (refine hK _ _ ⟨HS2, ?_⟩; clear hK K; (try simp only [Act.put, List.setIfInBounds_toArray, List.set_cons_zero, List.set_cons_succ]))
  (refine oneH (i := 8) rfl (by kernel_rfl) (fun K hK => ?_); go_simp)
  (refine hK _ _ ⟨HS2, ?_⟩; clear hK K; (try simp only [Act.put, List.setIfInBounds_toArray, List.set_cons_zero, List.set_cons_succ]))
  (refine takeH (i := 9) (v := .agg (C.cells)) rfl (by kernel_rfl) (by kernel_rfl) (by kernel_rfl) (by kernel_rfl) (fun _ _ _ h => h) ⟨yieldsIf_load_mid (by kernel_rfl) 31 _ rfl _ _ rfl (C.cells).toList _ (fun w h => h.2.1) Try.underlying31 rfl (by kernel_rfl), fun _ => rfl⟩ HS2 ?_; (try simp only [Act.put, List.setIfInBounds_toArray, List.set_cons_zero, List.set_cons_succ]))
  (refine takeH (i := 10) (v := .agg (C.cells)) rfl (by kernel_rfl) (by kernel_rfl) (by kernel_rfl) (by kernel_rfl) (fun _ _ _ h => h) ⟨yieldsIf_load_mid (by kernel_rfl) 31 _ rfl _ _ rfl (C.cells).toList _ (fun w h => h.2.2) Try.underlying31 rfl (by kernel_rfl), fun _ => rfl⟩ HS2 ?_; (try simp only [Act.put, List.setIfInBounds_toArray, List.set_cons_zero, List.set_cons_succ]))
  (refine oneH (i := 11) rfl (by kernel_rfl) (fun K hK => ?_); go_simp)
  (refine hK _ _ ⟨HS2, ?_⟩; clear hK K; (try simp only [Act.put, List.setIfInBounds_toArray, List.set_cons_zero, List.set_cons_succ]))
  (refine oneH (i := 12) rfl (by kernel_rfl) (fun K hK => ?_); go_simp)
  (refine hK _ _ ⟨HS2, ?_⟩; clear hK K; (try simp only [Act.put, List.setIfInBounds_toArray, List.set_cons_zero, List.set_cons_succ]))
  (refine oneH (i := 13) rfl (by kernel_rfl) (fun K hK => ?_); go_simp)
  (refine hK _ _ ⟨HS2, ?_⟩; clear hK K; (try simp only [Act.put, List.setIfInBounds_toArray, List.set_cons_zero, List.set_cons_succ]))
  (refine takeH (i := 14) (v := ?_) rfl (by kernel_rfl) (by kernel_rfl) (by kernel_rfl) (by kernel_rfl) (fun _ _ _ h => h) ⟨Or.inl ⟨by rfl, ?_⟩, fun _ => rfl⟩ HS2 ?_; rotate_left; focus (rintro wS s1; go_simp; try (with_reducible rfl)); (try simp only [Act.put, List.setIfInBounds_toArray, List.set_cons_zero, List.set_cons_succ]))
  (refine takeH (i := 15) (v := ?_) rfl (by kernel_rfl) (by kernel_rfl) (by kernel_rfl) (by kernel_rfl) (fun _ _ _ h => h) ⟨Or.inl ⟨by rfl, ?_⟩, fun _ => rfl⟩ HS2 ?_; rotate_left; focus (rintro wS s1; go_simp; try (with_reducible rfl)); (try simp only [Act.put, List.setIfInBounds_toArray, List.set_cons_zero, List.set_cons_succ]))
  (refine oneH (i := 16) rfl (by kernel_rfl) (fun K hK => ?_); go_simp)
  (refine hK _ _ ⟨HS2, ?_⟩; clear hK K; (try simp only [Act.put, List.setIfInBounds_toArray, List.set_cons_zero, List.set_cons_succ]))
  (refine oneH (i := 17) rfl (by kernel_rfl) (fun K hK => ?_); go_simp)
  (refine hK _ _ ⟨HS2, ?_⟩; clear hK K; (try simp only [Act.put, List.setIfInBounds_toArray, List.set_cons_zero, List.set_cons_succ]))
  (refine oneH (i := 18) rfl (by kernel_rfl) (fun K hK => ?_); go_simp)
  (refine hK _ _ ⟨HS2, ?_⟩; clear hK K; (try simp only [Act.put, List.setIfInBounds_toArray, List.set_cons_zero, List.set_cons_succ]))
  (refine doneH (by kernel_rfl) ?_ _)
  go_wp2
  go_returns
  exact ⟨rfl, hB6⟩

theorem computes_any (s : Sty) (w : World) :
    Calls Try.prog 3 #[.agg s.cells] w fun e w' => e = .returned (.bool true) ∧ Below w.heap.size w w' := by
  cases hv : validB s
  · exact computes_walk s zeroSty 30 w (fun w => computed_no s w hv) (fun w => rcomputed_no s w hv)
  · exact computes_walk s (styC s) 0 w (fun w => computed_yes s w hv) (fun w => rcomputed_yes s w hv)
end Go.Proofs.Ytdeojdbehbpggaa
