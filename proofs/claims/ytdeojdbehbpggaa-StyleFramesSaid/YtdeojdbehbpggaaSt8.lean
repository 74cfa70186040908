/- Layer 3: the reference's Frame. -/
import Derived.Test.YtdeojdbehbpggaaProg
import Derived.Test.YtdeojdbehbpggaaDefs
import Derived.Test.YtdeojdbehbpggaaRange
import Derived.Test.YtdeojdbehbpggaaSt1
import Derived.Test.YtdeojdbehbpggaaFix
import Derived.Test.YtdeojdbehbpggaaSt4
import Derived.Test.YtdeojdbehbpggaaSt7
import Derived.WalkKit
import Derived.LoopTactic
import Derived.Outline
import Derived.Lib.Hide
import Derived.Handy
import Derived.Deep.DeepCutAuto
import Derived.Deep.RegionHeld3
import Derived.Deep.RegionWith
namespace Go.Proofs.Ytdeojdbehbpggaa
open Go.RowKit
set_option linter.unusedVariables false
set_option linter.unusedSimpArgs false

/-- the widths when the first k sides have their borders -/
def framedK (s : Sty) (k : Nat) : List Int := (s.sides.take k).map (aroundI true) ++ (s.sides.drop k).map Prod.fst

set_option maxRecDepth 100000 in
set_option maxHeartbeats 4000000 in
theorem rframe_any (s : Sty) (bd : Bool) (w : World) (hok : s.sok) :
    Calls Try.prog 16 #[.agg s.cells, .bool bd] w fun e w' => e = .returned (.agg (four (frameL s bd))) ∧ Below w.heap.size w w' := by
  have HOK := Lib.hid hok
  clear hok
  go_enter Try.func16, Try.ntmps16
  go_upto_region 1 with (fail)
  have b0 := (((Blk.new w 31 s.cells).alloc (.cells (four []) 24)))
  have b1 := (Blk.new (w.alloc (.cells s.cells 31)) 24 (four []))
  simp only [World.size_alloc] at b1
  have hB0 : Below w.heap.size w ((w.alloc (.cells s.cells 31)).alloc (.cells (four []) 24)) := by go_grown
  show Code.wp _ _ _ _ ((w.alloc (.cells s.cells 31)).alloc (.cells (four []) 24))
  have hA : StyAt w.heap.size 0 s ((w.alloc (.cells s.cells 31)).alloc (.cells (four []) 24)) := (styAt_new s w _).alloc _
  generalize ((w.alloc (.cells s.cells 31)).alloc (.cells (four []) 24)) = W0 at b0 b1 hB0 hA ⊢
  have c0 : W0.cell? ⟨w.heap.size, 4, none⟩ = some (.int .i64 s.p0) := b0.cell 4
  have c1 : W0.cell? ⟨w.heap.size, 5, none⟩ = some (.int .i64 s.p1) := b0.cell 5
  have c2 : W0.cell? ⟨w.heap.size, 6, none⟩ = some (.int .i64 s.p2) := b0.cell 6
  have c3 : W0.cell? ⟨w.heap.size, 7, none⟩ = some (.int .i64 s.p3) := b0.cell 7
  have hl := b1.lt
  have HA := Lib.hid hA
  have B1 := Lib.hid b1
  clear b0 b1 hA
  go_upto_region 3 with (fail)
  have b2 := Blk.new W0 24 (four [s.p0, s.p1, s.p2, s.p3])
  have b1 := B1.out.alloc (.cells (four [s.p0, s.p1, s.p2, s.p3]) 24)
  have hA := HA.out.alloc (.cells (four [s.p0, s.p1, s.p2, s.p3]) 24)
  have hB1 : Below w.heap.size w (W0.alloc (.cells (four [s.p0, s.p1, s.p2, s.p3]) 24)) := by go_grown
  show Code.wp _ _ _ _ (W0.alloc (.cells (four [s.p0, s.p1, s.p2, s.p3]) 24))
  generalize W0.alloc (.cells (four [s.p0, s.p1, s.p2, s.p3]) 24) = W1 at b1 b2 hA hB1 ⊢
  generalize hn0 : W0.heap.size = n0 at b2 hl ⊢
  generalize hV : (Value.agg #[.int .i64 s.p0, .int .i64 s.p1, .int .i64 s.p2, .int .i64 s.p3]) = V1
  clear hV c0 c1 c2 c3 HA B1 hB0 hn0
  go_loopw [6] (fun i wr => ∃ k : Nat, k ≤ 4 ∧ i = .int .i64 k ∧ (bd = false → k = 0) ∧ Blk wr n0 24 (four (framedK s k)) ∧ Blk wr (w.heap.size + 1) 24 (four []) ∧ StyAt w.heap.size 0 s wr ∧ Below w.heap.size w wr) (fun i _ => 4 - (intOf i).toNat)
  case atStart => exact ⟨0, by omega, rfl, fun _ => rfl, b2, b1, hA, hB1⟩
  case round =>
    obtain ⟨k, hk, rfl, hkb, hO, hR, hA, hB⟩ := hrel
    have hl2 : n0 < wr.heap.size := hO.lt
    cases bd
    · obtain rfl := hkb rfl
      have hF : framedK s 0 = frameL s false := by simp [framedK, frameL, Sty.sides, aroundI]
      rw [hF] at hO
      obtain ⟨xs, hxs⟩ : ∃ xs, frameL s false = xs := ⟨_, rfl⟩
      rw [hxs] at hO
      have HX := Lib.hid hxs
      clear hxs hF
      have c0 : wr.cell? ⟨n0, 0, none⟩ = some (.int .i64 (xs.getD 0 0)) := hO.cell 0
      have c1 : wr.cell? ⟨n0, 1, none⟩ = some (.int .i64 (xs.getD 1 0)) := hO.cell 1
      have c2 : wr.cell? ⟨n0, 2, none⟩ = some (.int .i64 (xs.getD 2 0)) := hO.cell 2
      have c3 : wr.cell? ⟨n0, 3, none⟩ = some (.int .i64 (xs.getD 3 0)) := hO.cell 3
      generalize hy0 : xs.getD 0 0 = y0 at c0
      generalize hy1 : xs.getD 1 0 = y1 at c1
      generalize hy2 : xs.getD 2 0 = y2 at c2
      generalize hy3 : xs.getD 3 0 = y3 at c3
      have e0 : wr.cell? ⟨w.heap.size + 1, 0, none⟩ = some (.int .i64 0) := hR.cell 0
      have e1 : wr.cell? ⟨w.heap.size + 1, 1, none⟩ = some (.int .i64 0) := hR.cell 1
      have e2 : wr.cell? ⟨w.heap.size + 1, 2, none⟩ = some (.int .i64 0) := hR.cell 2
      have e3 : wr.cell? ⟨w.heap.size + 1, 3, none⟩ = some (.int .i64 0) := hR.cell 3
      have f0 := hR.frozen 0
      have f1 := hR.frozen 1
      have f2 := hR.frozen 2
      have f3 := hR.frozen 3
      have hF : four xs = #[.int .i64 y0, .int .i64 y1, .int .i64 y2, .int .i64 y3] := by unfold four; rw [hy0, hy1, hy2, hy3]
      have HF := Lib.hid hF
      have HR := Lib.hid hR
      clear hF hR hO hA hy0 hy1 hy2 hy3 b1 b2
      go_wp2
      refine bodyPost_ret (v := .agg (four xs)) ?_ rfl ⟨by rw [HX.out], by go_grown⟩
      rw [HF.out]
      exact results_cell_mid Try.results16 _ _ (w.heap.size + 1) 0 [.int .i64 y0, .int .i64 y1, .int .i64 y2, .int .i64 y3] _ rfl (((((HR.out.set 0 _).set 1 _).set 2 _).set' (cs' := #[.int .i64 y0, .int .i64 y1, .int .i64 y2, .int .i64 y3]) 3 _ (by simp [four])).range) Try.underlying24 rfl (by kernel_rfl)
    match k, hk with
    | 0, _ =>
      have d1 : wr.cell? ⟨w.heap.size, 9, none⟩ = some (.int .i64 s.b0.w) := by simpa using hA 9 _ rfl
      have d0 : wr.cell? ⟨n0, 0, none⟩ = some (.int .i64 s.p0) := hO.cell 0
      have f0 := hO.frozen 0
      have hp : I64 s.p0 ∧ I64 s.b0.w := HOK.out (s.p0, s.b0) (by simp [Sty.sides])
      obtain ⟨hp, hlw⟩ := hp
      have HR := Lib.hid hR
      have HO := Lib.hid hO
      have HA := Lib.hid hA
      clear hR hO hA
      go_upto_region 5 with (fail)
      go_region_with (first | (go_at_call 28; refine (rsum_any _ _ _ hp hlw).mono ?_; rintro e w' ⟨rfl, rfl⟩))
      all_goals go_wp2
      all_goals go_roundw
      all_goals first
        | exact ⟨1, by omega, rfl, (fun h => by cases h), ((HO.out.set' 0 _ (by simp [four, framedK, Sty.sides, aroundI]))).drew, ((HR.out.other (by simp; omega) _)).drew, ((HA.out.setCell (by simp; omega) _)).drew, by go_grown⟩
        | exact ⟨⟨1, by omega, rfl, (fun h => by cases h), ((HO.out.set' 0 _ (by simp [four, framedK, Sty.sides, aroundI]))).drew, ((HR.out.other (by simp; omega) _)).drew, ((HA.out.setCell (by simp; omega) _)).drew, by go_grown⟩, by simp [intOf]⟩
        | (simp [intOf]; done)
    | 1, _ =>
      have d1 : wr.cell? ⟨w.heap.size, 12, none⟩ = some (.int .i64 s.b1.w) := by simpa using hA 12 _ rfl
      have d0 : wr.cell? ⟨n0, 1, none⟩ = some (.int .i64 s.p1) := hO.cell 1
      have f0 := hO.frozen 1
      have hp : I64 s.p1 ∧ I64 s.b1.w := HOK.out (s.p1, s.b1) (by simp [Sty.sides])
      obtain ⟨hp, hlw⟩ := hp
      have HR := Lib.hid hR
      have HO := Lib.hid hO
      have HA := Lib.hid hA
      clear hR hO hA
      go_upto_region 5 with (fail)
      go_region_with (first | (go_at_call 28; refine (rsum_any _ _ _ hp hlw).mono ?_; rintro e w' ⟨rfl, rfl⟩))
      all_goals go_wp2
      all_goals go_roundw
      all_goals first
        | exact ⟨2, by omega, rfl, (fun h => by cases h), ((HO.out.set' 1 _ (by simp [four, framedK, Sty.sides, aroundI]))).drew, ((HR.out.other (by simp; omega) _)).drew, ((HA.out.setCell (by simp; omega) _)).drew, by go_grown⟩
        | exact ⟨⟨2, by omega, rfl, (fun h => by cases h), ((HO.out.set' 1 _ (by simp [four, framedK, Sty.sides, aroundI]))).drew, ((HR.out.other (by simp; omega) _)).drew, ((HA.out.setCell (by simp; omega) _)).drew, by go_grown⟩, by simp [intOf]⟩
        | (simp [intOf]; done)
    | 2, _ =>
      have d1 : wr.cell? ⟨w.heap.size, 15, none⟩ = some (.int .i64 s.b2.w) := by simpa using hA 15 _ rfl
      have d0 : wr.cell? ⟨n0, 2, none⟩ = some (.int .i64 s.p2) := hO.cell 2
      have f0 := hO.frozen 2
      have hp : I64 s.p2 ∧ I64 s.b2.w := HOK.out (s.p2, s.b2) (by simp [Sty.sides])
      obtain ⟨hp, hlw⟩ := hp
      have HR := Lib.hid hR
      have HO := Lib.hid hO
      have HA := Lib.hid hA
      clear hR hO hA
      go_upto_region 5 with (fail)
      go_region_with (first | (go_at_call 28; refine (rsum_any _ _ _ hp hlw).mono ?_; rintro e w' ⟨rfl, rfl⟩))
      all_goals go_wp2
      all_goals go_roundw
      all_goals first
        | exact ⟨3, by omega, rfl, (fun h => by cases h), ((HO.out.set' 2 _ (by simp [four, framedK, Sty.sides, aroundI]))).drew, ((HR.out.other (by simp; omega) _)).drew, ((HA.out.setCell (by simp; omega) _)).drew, by go_grown⟩
        | exact ⟨⟨3, by omega, rfl, (fun h => by cases h), ((HO.out.set' 2 _ (by simp [four, framedK, Sty.sides, aroundI]))).drew, ((HR.out.other (by simp; omega) _)).drew, ((HA.out.setCell (by simp; omega) _)).drew, by go_grown⟩, by simp [intOf]⟩
        | (simp [intOf]; done)
    | 3, _ =>
      have d1 : wr.cell? ⟨w.heap.size, 18, none⟩ = some (.int .i64 s.b3.w) := by simpa using hA 18 _ rfl
      have d0 : wr.cell? ⟨n0, 3, none⟩ = some (.int .i64 s.p3) := hO.cell 3
      have f0 := hO.frozen 3
      have hp : I64 s.p3 ∧ I64 s.b3.w := HOK.out (s.p3, s.b3) (by simp [Sty.sides])
      obtain ⟨hp, hlw⟩ := hp
      have HR := Lib.hid hR
      have HO := Lib.hid hO
      have HA := Lib.hid hA
      clear hR hO hA
      go_upto_region 5 with (fail)
      go_region_with (first | (go_at_call 28; refine (rsum_any _ _ _ hp hlw).mono ?_; rintro e w' ⟨rfl, rfl⟩))
      all_goals go_wp2
      all_goals go_roundw
      all_goals first
        | exact ⟨4, by omega, rfl, (fun h => by cases h), ((HO.out.set' 3 _ (by simp [four, framedK, Sty.sides, aroundI]))).drew, ((HR.out.other (by simp; omega) _)).drew, ((HA.out.setCell (by simp; omega) _)).drew, by go_grown⟩
        | exact ⟨⟨4, by omega, rfl, (fun h => by cases h), ((HO.out.set' 3 _ (by simp [four, framedK, Sty.sides, aroundI]))).drew, ((HR.out.other (by simp; omega) _)).drew, ((HA.out.setCell (by simp; omega) _)).drew, by go_grown⟩, by simp [intOf]⟩
        | (simp [intOf]; done)
    | 4, _ =>
      have hF : framedK s 4 = frameL s true := by simp [framedK, frameL, Sty.sides, aroundI]
      rw [hF] at hO
      obtain ⟨xs, hxs⟩ : ∃ xs, frameL s true = xs := ⟨_, rfl⟩
      rw [hxs] at hO
      have HX := Lib.hid hxs
      clear hxs hF
      have c0 : wr.cell? ⟨n0, 0, none⟩ = some (.int .i64 (xs.getD 0 0)) := hO.cell 0
      have c1 : wr.cell? ⟨n0, 1, none⟩ = some (.int .i64 (xs.getD 1 0)) := hO.cell 1
      have c2 : wr.cell? ⟨n0, 2, none⟩ = some (.int .i64 (xs.getD 2 0)) := hO.cell 2
      have c3 : wr.cell? ⟨n0, 3, none⟩ = some (.int .i64 (xs.getD 3 0)) := hO.cell 3
      generalize hy0 : xs.getD 0 0 = y0 at c0
      generalize hy1 : xs.getD 1 0 = y1 at c1
      generalize hy2 : xs.getD 2 0 = y2 at c2
      generalize hy3 : xs.getD 3 0 = y3 at c3
      have e0 : wr.cell? ⟨w.heap.size + 1, 0, none⟩ = some (.int .i64 0) := hR.cell 0
      have e1 : wr.cell? ⟨w.heap.size + 1, 1, none⟩ = some (.int .i64 0) := hR.cell 1
      have e2 : wr.cell? ⟨w.heap.size + 1, 2, none⟩ = some (.int .i64 0) := hR.cell 2
      have e3 : wr.cell? ⟨w.heap.size + 1, 3, none⟩ = some (.int .i64 0) := hR.cell 3
      have f0 := hR.frozen 0
      have f1 := hR.frozen 1
      have f2 := hR.frozen 2
      have f3 := hR.frozen 3
      have hF : four xs = #[.int .i64 y0, .int .i64 y1, .int .i64 y2, .int .i64 y3] := by unfold four; rw [hy0, hy1, hy2, hy3]
      have HF := Lib.hid hF
      have HR := Lib.hid hR
      clear hF hR hO hA hy0 hy1 hy2 hy3 b1 b2
      go_wp2
      refine bodyPost_ret (v := .agg (four xs)) ?_ rfl ⟨by rw [HX.out], by go_grown⟩
      rw [HF.out]
      exact results_cell_mid Try.results16 _ _ (w.heap.size + 1) 0 [.int .i64 y0, .int .i64 y1, .int .i64 y2, .int .i64 y3] _ rfl (((((HR.out.set 0 _).set 1 _).set 2 _).set' (cs' := #[.int .i64 y0, .int .i64 y1, .int .i64 y2, .int .i64 y3]) 3 _ (by simp [four])).range) Try.underlying24 rfl (by kernel_rfl)
    | n + 5, h => omega
end Go.Proofs.Ytdeojdbehbpggaa
