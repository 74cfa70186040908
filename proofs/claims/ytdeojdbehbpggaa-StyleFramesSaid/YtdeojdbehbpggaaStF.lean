/- Layer 3: the walk of StyleFrames. -/
import Derived.Test.YtdeojdbehbpggaaProg
import Derived.Test.YtdeojdbehbpggaaDefs
import Derived.Test.YtdeojdbehbpggaaRange
import Derived.Test.YtdeojdbehbpggaaHeld
import Derived.Test.YtdeojdbehbpggaaSt7
import Derived.Test.YtdeojdbehbpggaaSt8
import Derived.Test.YtdeojdbehbpggaaSt9
import Derived.Test.YtdeojdbehbpggaaStE
import Derived.Test.YtdeojdbehbpggaaStO
import Derived.WalkKit
import Derived.LoopTactic
import Derived.Outline
import Derived.Lib.Hide
import Derived.Handy
import Derived.Deep.DeepCutAuto
import Derived.Deep.RegionHeld3
import Derived.Deep.RegionWith
import Derived.Stop.RegionWithIn
namespace Go.Proofs.Ytdeojdbehbpggaa
open Go.RowKit
set_option linter.unusedVariables false
set_option linter.unusedSimpArgs false

theorem sok_of (s : Sty) (h : ∀ n ∈ s.nums, I64 n) : s.sok := by
  intro x hx
  simp only [Sty.nums, List.forall_mem_cons] at h
  simp only [Sty.sides, List.mem_cons, List.not_mem_nil, or_false] at hx
  rcases hx with rfl | rfl | rfl | rfl <;> exact ⟨by simp_all, by simp_all⟩

set_option maxRecDepth 100000 in
set_option maxHeartbeats 4000000 in
theorem frames_walk (s : Sty) (bd : Bool) (w : World) (hok : s.sok) :
    Calls Try.prog 4 #[.agg s.cells, .bool bd] w fun e w' => e = .returned (.bool true) ∧ Below w.heap.size w w' := by
  have HOK := Lib.hid hok
  clear hok
  refine callsIn_wide.1 (callsIn_of_wp (n := 0) Try.func4 rfl trivial ?_ rfl); simp only [Try.ntmps4, List.size_toArray, List.length_cons, List.length_nil, Nat.reduceAdd, Nat.reduceSub, Array.replicate_succ, Array.replicate_zero, List.push_toArray, List.append_toArray, List.nil_append, List.cons_append]
  gi_wp2_with (gi_at_call 10; refine (callsIn_wide.2 (shown_any _)).mono ?_; rintro e W ⟨rfl, hb⟩; have hl := hb.size; have hR := ((Blk.new w 31 s.cells).below hb (by simp)).range; have hB : Below w.heap.size w W := (Below.refl _ w |>.alloc (Nat.le_refl _) _).trans (hb.mono (by simp)); rw [World.size_alloc] at hl)
  clear hb
  have HS : (fun W : World => W.rangeAt w.heap.size 0 s.cells.toList) W.drew := hR
  refine beginH (fun W : World => W.rangeAt w.heap.size 0 s.cells.toList) (by kernel_rfl) ?_
  (refine takeH (i := 0) (v := ?_) rfl (by kernel_rfl) (by kernel_rfl) (by kernel_rfl) (by kernel_rfl) (fun _ _ _ h => h) ⟨Or.inl ⟨by rfl, ?_⟩, fun _ => rfl⟩ HS ?_; rotate_left; focus (rintro wS s1; go_simp; try (with_reducible rfl)); (try simp only [Act.put, List.setIfInBounds_toArray, List.set_cons_zero, List.set_cons_succ]))
  (refine takeH (i := 1) (v := ?_) rfl (by kernel_rfl) (by kernel_rfl) (by kernel_rfl) (by kernel_rfl) (fun _ _ _ h => h) ⟨Or.inl ⟨by rfl, ?_⟩, fun _ => rfl⟩ HS ?_; rotate_left; focus (rintro wS s1; go_simp; try (with_reducible rfl)); (try simp only [Act.put, List.setIfInBounds_toArray, List.set_cons_zero, List.set_cons_succ]))
  (refine takeH (i := 2) (v := .agg (s.cells)) rfl (by kernel_rfl) (by kernel_rfl) (by kernel_rfl) (by kernel_rfl) (fun _ _ _ h => h) ⟨yieldsIf_load_mid (by kernel_rfl) 31 _ rfl _ _ rfl (s.cells).toList _ (fun w h => h) Try.underlying31 rfl (by kernel_rfl), fun _ => rfl⟩ HS ?_; (try simp only [Act.put, List.setIfInBounds_toArray, List.set_cons_zero, List.set_cons_succ]))
  (refine takeH (i := 3) (v := ?_) rfl (by kernel_rfl) (by kernel_rfl) (by kernel_rfl) (by kernel_rfl) (fun _ _ _ h => h) ⟨Or.inl ⟨by rfl, ?_⟩, fun _ => rfl⟩ HS ?_; rotate_left; focus (rintro wS s1; go_simp; try (with_reducible rfl)); (try simp only [Act.put, List.setIfInBounds_toArray, List.set_cons_zero, List.set_cons_succ]))
  (refine takeH (i := 5) (v := .agg (s.cells)) rfl (by kernel_rfl) (by kernel_rfl) (by kernel_rfl) (by kernel_rfl) (fun _ _ _ h => h) ⟨yieldsIf_load_mid (by kernel_rfl) 31 _ rfl _ _ rfl (s.cells).toList _ (fun w h => h) Try.underlying31 rfl (by kernel_rfl), fun _ => rfl⟩ HS ?_; (try simp only [Act.put, List.setIfInBounds_toArray, List.set_cons_zero, List.set_cons_succ]))
  (refine takeH (i := 6) (v := ?_) rfl (by kernel_rfl) (by kernel_rfl) (by kernel_rfl) (by kernel_rfl) (fun _ _ _ h => h) ⟨Or.inl ⟨by rfl, ?_⟩, fun _ => rfl⟩ HS ?_; rotate_left; focus (rintro wS s1; go_simp; try (with_reducible rfl)); (try simp only [Act.put, List.setIfInBounds_toArray, List.set_cons_zero, List.set_cons_succ]))
  (refine oneH (i := 4) rfl (by kernel_rfl) (fun K hK => ?_); go_simp)
  (with_reducible refine (callsIn_wide.2 (frame_any s bd _ HOK.out)).mono ?_)
  rintro e w1 ⟨rfl, hb1⟩
  have hR1 : w1.rangeAt w.heap.size 0 s.cells.toList := rangeAt_below HS hb1 (by simp; omega)
  have hB1 : Below w.heap.size w w1 := (hB.drew).trans (hb1.mono (by simp; omega))
  have hx : ∃ a b c d : Int, four (frameL s bd) = #[.int .i64 a, .int .i64 b, .int .i64 c, .int .i64 d] := ⟨_, _, _, _, rfl⟩
  obtain ⟨a, b, c, d, hx⟩ := hx
  have HX := Lib.hid hx
  rw [hx]
  clear hx
  have hq := four_refl a b c d
  dsimp only
  (refine hK _ _ ⟨hR1, ?_⟩; clear hK K; (try simp only [Act.put, List.setIfInBounds_toArray, List.set_cons_zero, List.set_cons_succ]))
  (refine oneH (i := 7) rfl (by kernel_rfl) (fun K hK => ?_); go_simp)
  (with_reducible refine (callsIn_wide.2 (rframe_any s bd _ HOK.out)).mono ?_)
  rintro e w2 ⟨rfl, hb2⟩
  have hR2 : w2.rangeAt w.heap.size 0 s.cells.toList := rangeAt_below hR1 hb2 (by have := hB1.size; have := hl; have := hb1.size; simp at this; omega)
  have hB2 : Below w.heap.size w w2 := hB1.trans (hb2.mono hB1.size)
  rw [HX.out]
  dsimp only
  (refine hK _ _ ⟨hR2, ?_⟩; clear hK K; (try simp only [Act.put, List.setIfInBounds_toArray, List.set_cons_zero, List.set_cons_succ]))
  (refine oneH (i := 8) rfl (by kernel_rfl) (fun K hK => ?_); go_simp)
  (refine hK _ _ ⟨hR2, ?_⟩; clear hK K; (try simp only [Act.put, List.setIfInBounds_toArray, List.set_cons_zero, List.set_cons_succ]))
  (refine oneH (i := 9) rfl (by kernel_rfl) (fun K hK => ?_); go_simp)
  (refine hK _ _ ⟨hR2, ?_⟩; clear hK K; (try simp only [Act.put, List.setIfInBounds_toArray, List.set_cons_zero, List.set_cons_succ]))
  (refine oneH (i := 10) rfl (by kernel_rfl) (fun K hK => ?_); go_simp)
  (refine hK _ _ ⟨hR2, ?_⟩; clear hK K; (try simp only [Act.put, List.setIfInBounds_toArray, List.set_cons_zero, List.set_cons_succ]))
  (refine doneH (by kernel_rfl) ?_ _)
  gi_wp2
  go_returns
  exact ⟨rfl, hB2⟩
end Go.Proofs.Ytdeojdbehbpggaa
