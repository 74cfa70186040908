/- Layer 3: the reference's computed styles. -/
import Derived.Test.YtjhpkikgajgdmaaProg
import Derived.Test.YtjhpkikgajgdmaaDefs
import Derived.Test.YtjhpkikgajgdmaaSt1B
import Derived.Test.YtjhpkikgajgdmaaRange
import Derived.Test.YtjhpkikgajgdmaaSt1
import Derived.ScopeJumps
import Derived.WalkMore
import Derived.Test.YtjhpkikgajgdmaaSt3
import Derived.Test.YtjhpkikgajgdmaaSt4
import Derived.Test.YtjhpkikgajgdmaaSt5
import Derived.WalkKit
import Derived.LoopTactic
import Derived.Outline
import Derived.Lib.Hide
import Derived.Handy
import Derived.Deep.DeepCutAuto
import Derived.Deep.RegionHeld3
import Derived.Deep.RegionWith
namespace Go.Proofs.Ytjhpkikgajgdmaa
open Go.RowKit
set_option linter.unusedVariables false
set_option linter.unusedSimpArgs false

set_option maxRecDepth 100000 in
set_option maxHeartbeats 4000000 in
theorem rcomputed_yes (s : Sty) (w : World) (hv : validB s = true) :
    Calls Try.prog 46 #[.agg s.cells] w fun e w' => e = .returned (.tuple #[.agg (styC s).cells, .int .i64 0]) ∧ Below w.heap.size w w' := by
  have HV := Lib.hid hv
  clear hv
  go_enter Try.func46, Try.ntmps46
  go_upto_region 1 with (fail)
  have hA := (Blk.new w 40 s.cells).alloc (.cells zeroSty.cells 40)
  have hZ := Blk.new (w.alloc (.cells s.cells 40)) 40 zeroSty.cells
  rw [World.size_alloc] at hZ
  have hB0 : Below w.heap.size w ((w.alloc (.cells s.cells 40)).alloc (.cells zeroSty.cells 40)) := by go_grown
  show Code.wp _ _ _ _ ((w.alloc (.cells s.cells 40)).alloc (.cells zeroSty.cells 40))
  generalize ((w.alloc (.cells s.cells 40)).alloc (.cells zeroSty.cells 40)) = W0 at hA hZ hB0 ⊢
  generalize Value.agg s.cells = V0
  have hl := hA.lt
  have hR := hA.range
  go_upto_region 4 with (first | (refine wpList_load_mid rfl 40 _ rfl _ _ rfl _ _ hR Try.underlying40 rfl (by kernel_rfl) ?_) | (go_at_call 44; refine (rvalid_any _ _).mono ?_; rintro e Wn ⟨rfl, hb⟩; rw [HV.out]; replace hA := hA.below hb (by omega); replace hZ := hZ.below hb (by have := hZ.lt; omega); replace hB0 := hB0.trans (hb.mono (by omega))))
  clear hR
  have c0 : Wn.cell? ⟨w.heap.size, 0, none⟩ = some (.int .i64 s.wd.k) := hA.cell 0
  have c1 : Wn.cell? ⟨w.heap.size, 1, none⟩ = some (.int .i64 s.wd.n) := hA.cell 1
  have c2 : Wn.cell? ⟨w.heap.size, 2, none⟩ = some (.int .i64 s.ht.k) := hA.cell 2
  have c3 : Wn.cell? ⟨w.heap.size, 3, none⟩ = some (.int .i64 s.ht.n) := hA.cell 3
  have f0 := hA.frozen 0
  have f1 := hA.frozen 1
  have f2 := hA.frozen 2
  have f3 := hA.frozen 3
  have hlt := hA.lt
  have hltz := hZ.lt
  have HA := Lib.hid hA
  have HZ := Lib.hid hZ
  clear hA hZ hl hb
  go_upto_region 5 with (go_at_call 56; refine (rmade_any _ _).mono ?_; rintro e w' ⟨rfl, hb⟩; have hc := (bcell hb).1; have hf := (bcell hb).2; have hz := hb.size; (try simp only [World.size_alloc, World.size_setCell, World.size_drew] at hz); (try simp only [World.size_drew, World.cell?_drew, World.frozen?_drew] at hc hf); have hl : w.heap.size < w'.heap.size := (by omega); have HA := Lib.hid (HA.out.below hb (by omega)); have HZ := Lib.hid (HZ.out.below hb (by omega)); have hB0 := hB0.trans (hb.mono (by omega)))
  have hA4 := (HA.out.set 0 (.int .i64 (sizeC s.wd).k)).set' (cs' := ({ s with wd := sizeC s.wd } : Sty).cells) 1 (.int .i64 (sizeC s.wd).n) (by simp [Sty.cells])
  have hZ4 := (HZ.out.other (p := ⟨w.heap.size, 0, none⟩) (by simp) (.int .i64 (sizeC s.wd).k)).other (p := ⟨w.heap.size, 1, none⟩) (by simp) (.int .i64 (sizeC s.wd).n)
  have hB4 : Below w.heap.size w ((w'.setCell ⟨w.heap.size, 0, none⟩ (.int .i64 (sizeC s.wd).k)).setCell ⟨w.heap.size, 1, none⟩ (.int .i64 (sizeC s.wd).n)) := by go_grown
  generalize ((w'.setCell ⟨w.heap.size, 0, none⟩ (.int .i64 (sizeC s.wd).k)).setCell ⟨w.heap.size, 1, none⟩ (.int .i64 (sizeC s.wd).n)) = W4 at hA4 hZ4 hB4 ⊢
  clear c0 c1 c2 c3 f0 f1 f2 f3 hlt hltz HA HZ hc hf hz hl hb hB0
  have c2 : W4.cell? ⟨w.heap.size, 2, none⟩ = some (.int .i64 s.ht.k) := hA4.cell 2
  have c3 : W4.cell? ⟨w.heap.size, 3, none⟩ = some (.int .i64 s.ht.n) := hA4.cell 3
  have f2 := hA4.frozen 2
  have f3 := hA4.frozen 3
  have hlt := hA4.lt
  have hltz := hZ4.lt
  have HA := Lib.hid hA4
  have HZ := Lib.hid hZ4
  clear hA4 hZ4
  go_upto_region 6 with (go_at_call 56; refine (rmade_any _ _).mono ?_; rintro e w' ⟨rfl, hb⟩; have hc := (bcell hb).1; have hf := (bcell hb).2; have hz := hb.size; (try simp only [World.size_alloc, World.size_setCell, World.size_drew] at hz); (try simp only [World.size_drew, World.cell?_drew, World.frozen?_drew] at hc hf); have hl : w.heap.size < w'.heap.size := (by omega); have HA := Lib.hid (HA.out.below hb (by omega)); have HZ := Lib.hid (HZ.out.below hb (by omega)); have hB4 := hB4.trans (hb.mono (by omega)))
  have hA5 := (HA.out.set 2 (.int .i64 (sizeC s.ht).k)).set' (cs' := (mixS 0 s (styC s)).cells) 3 (.int .i64 (sizeC s.ht).n) (by simp [Sty.cells, mixS, styC])
  have hZ5 := (HZ.out.other (p := ⟨w.heap.size, 2, none⟩) (by simp) (.int .i64 (sizeC s.ht).k)).other (p := ⟨w.heap.size, 3, none⟩) (by simp) (.int .i64 (sizeC s.ht).n)
  have hB5 : Below w.heap.size w ((w'.setCell ⟨w.heap.size, 2, none⟩ (.int .i64 (sizeC s.ht).k)).setCell ⟨w.heap.size, 3, none⟩ (.int .i64 (sizeC s.ht).n)) := by go_grown
  generalize ((w'.setCell ⟨w.heap.size, 2, none⟩ (.int .i64 (sizeC s.ht).k)).setCell ⟨w.heap.size, 3, none⟩ (.int .i64 (sizeC s.ht).n)) = W5 at hA5 hZ5 hB5 ⊢
  clear c2 c3 f2 f3 hlt hltz HA HZ hc hf hz hl hb hB4
  have HA := Lib.hid hA5
  have HZ := Lib.hid hZ5
  clear hA5 hZ5
  go_wp2
  go_loopw [5] (fun i wr => ∃ k : Nat, k ≤ 4 ∧ i = .int .i64 k ∧ Blk wr w.heap.size 40 (mixS k s (styC s)).cells ∧ Blk wr (w.heap.size + 1) 40 zeroSty.cells ∧ Below w.heap.size w wr) (fun i _ => 4 - (intOf i).toNat)
  case atStart => exact ⟨0, by omega, rfl, HA.out, HZ.out, hB5⟩
  case round =>
    obtain ⟨k, hk, rfl, hA, hZ, hB⟩ := hrel
    clear HA HZ
    match k, hk with
    | 0, _ =>
      have d0 : wr.cell? ⟨w.heap.size, 8, none⟩ = some (.int .i64 s.b0.s) := hA.cell 8
      have d1 : wr.cell? ⟨w.heap.size, 9, none⟩ = some (.int .i64 s.b0.w) := hA.cell 9
      have d3 : wr.cell? ⟨w.heap.size, 4, none⟩ = some (.int .i64 s.p0) := hA.cell 4
      have f1 := hA.frozen 9
      have f3 := hA.frozen 4
      have HA := Lib.hid hA
      have HZ := Lib.hid hZ
      clear hA hZ
      by_cases q0 : s.b0.s = 0
      · have q : (s.b0.s == 0) = true := by simp [q0]
        have Q0 := Lib.hid q0
        clear q0
        go_wp2
        all_goals go_roundw
        all_goals first
          | exact ⟨⟨1, by omega, by go_num, ((HA.out.set _ _).set _ _).set' _ _ (by simp [mixS, styC, lineC, Sty.cells, max0, Q0.out]), ((HZ.out.other (by simp) _).other (by simp) _).other (by simp) _, by go_grown⟩, by simp [intOf]⟩
          | exact ⟨1, by omega, by go_num, ((HA.out.set _ _).set _ _).set' _ _ (by simp [mixS, styC, lineC, Sty.cells, max0, Q0.out]), ((HZ.out.other (by simp) _).other (by simp) _).other (by simp) _, by go_grown⟩
          | (simp [intOf]; done)
      · by_cases q1 : s.b0.s = 1
        · have q : (s.b0.s == 0) = false := by simp [q1]
          have q' : (s.b0.s == 1) = true := by simp [q1]
          have Q1 := Lib.hid q1
          clear q0 q1
          go_wp2
          all_goals go_roundw
          all_goals first
            | exact ⟨1, by omega, by go_num, ((HA.out.set _ _).set _ _).set' _ _ (by simp [mixS, styC, lineC, Sty.cells, max0, Q1.out]), ((HZ.out.other (by simp) _).other (by simp) _).other (by simp) _, by go_grown⟩
            | (simp [intOf]; done)
        · have q : (s.b0.s == 0) = false := by simp [q0]
          have q' : (s.b0.s == 1) = false := by simp [q1]
          have Q0 := Lib.hid q0
          have Q1 := Lib.hid q1
          clear q0 q1
          go_wp2
          all_goals go_roundw
          all_goals first
            | exact ⟨1, by omega, by go_num, (HA.out.set _ _).set' _ _ (by simp [mixS, styC, lineC, Sty.cells, max0, Q0.out, Q1.out]), (HZ.out.other (by simp) _).other (by simp) _, by go_grown⟩
            | (simp [intOf]; done)
    | 1, _ =>
      have d0 : wr.cell? ⟨w.heap.size, 11, none⟩ = some (.int .i64 s.b1.s) := hA.cell 11
      have d1 : wr.cell? ⟨w.heap.size, 12, none⟩ = some (.int .i64 s.b1.w) := hA.cell 12
      have d3 : wr.cell? ⟨w.heap.size, 5, none⟩ = some (.int .i64 s.p1) := hA.cell 5
      have f1 := hA.frozen 12
      have f3 := hA.frozen 5
      have HA := Lib.hid hA
      have HZ := Lib.hid hZ
      clear hA hZ
      by_cases q0 : s.b1.s = 0
      · have q : (s.b1.s == 0) = true := by simp [q0]
        have Q0 := Lib.hid q0
        clear q0
        go_wp2
        all_goals go_roundw
        all_goals first
          | exact ⟨⟨2, by omega, by go_num, ((HA.out.set _ _).set _ _).set' _ _ (by simp [mixS, styC, lineC, Sty.cells, max0, Q0.out]), ((HZ.out.other (by simp) _).other (by simp) _).other (by simp) _, by go_grown⟩, by simp [intOf]⟩
          | exact ⟨2, by omega, by go_num, ((HA.out.set _ _).set _ _).set' _ _ (by simp [mixS, styC, lineC, Sty.cells, max0, Q0.out]), ((HZ.out.other (by simp) _).other (by simp) _).other (by simp) _, by go_grown⟩
          | (simp [intOf]; done)
      · by_cases q1 : s.b1.s = 1
        · have q : (s.b1.s == 0) = false := by simp [q1]
          have q' : (s.b1.s == 1) = true := by simp [q1]
          have Q1 := Lib.hid q1
          clear q0 q1
          go_wp2
          all_goals go_roundw
          all_goals first
            | exact ⟨2, by omega, by go_num, ((HA.out.set _ _).set _ _).set' _ _ (by simp [mixS, styC, lineC, Sty.cells, max0, Q1.out]), ((HZ.out.other (by simp) _).other (by simp) _).other (by simp) _, by go_grown⟩
            | (simp [intOf]; done)
        · have q : (s.b1.s == 0) = false := by simp [q0]
          have q' : (s.b1.s == 1) = false := by simp [q1]
          have Q0 := Lib.hid q0
          have Q1 := Lib.hid q1
          clear q0 q1
          go_wp2
          all_goals go_roundw
          all_goals first
            | exact ⟨2, by omega, by go_num, (HA.out.set _ _).set' _ _ (by simp [mixS, styC, lineC, Sty.cells, max0, Q0.out, Q1.out]), (HZ.out.other (by simp) _).other (by simp) _, by go_grown⟩
            | (simp [intOf]; done)
    | 2, _ =>
      have d0 : wr.cell? ⟨w.heap.size, 14, none⟩ = some (.int .i64 s.b2.s) := hA.cell 14
      have d1 : wr.cell? ⟨w.heap.size, 15, none⟩ = some (.int .i64 s.b2.w) := hA.cell 15
      have d3 : wr.cell? ⟨w.heap.size, 6, none⟩ = some (.int .i64 s.p2) := hA.cell 6
      have f1 := hA.frozen 15
      have f3 := hA.frozen 6
      have HA := Lib.hid hA
      have HZ := Lib.hid hZ
      clear hA hZ
      by_cases q0 : s.b2.s = 0
      · have q : (s.b2.s == 0) = true := by simp [q0]
        have Q0 := Lib.hid q0
        clear q0
        go_wp2
        all_goals go_roundw
        all_goals first
          | exact ⟨⟨3, by omega, by go_num, ((HA.out.set _ _).set _ _).set' _ _ (by simp [mixS, styC, lineC, Sty.cells, max0, Q0.out]), ((HZ.out.other (by simp) _).other (by simp) _).other (by simp) _, by go_grown⟩, by simp [intOf]⟩
          | exact ⟨3, by omega, by go_num, ((HA.out.set _ _).set _ _).set' _ _ (by simp [mixS, styC, lineC, Sty.cells, max0, Q0.out]), ((HZ.out.other (by simp) _).other (by simp) _).other (by simp) _, by go_grown⟩
          | (simp [intOf]; done)
      · by_cases q1 : s.b2.s = 1
        · have q : (s.b2.s == 0) = false := by simp [q1]
          have q' : (s.b2.s == 1) = true := by simp [q1]
          have Q1 := Lib.hid q1
          clear q0 q1
          go_wp2
          all_goals go_roundw
          all_goals first
            | exact ⟨3, by omega, by go_num, ((HA.out.set _ _).set _ _).set' _ _ (by simp [mixS, styC, lineC, Sty.cells, max0, Q1.out]), ((HZ.out.other (by simp) _).other (by simp) _).other (by simp) _, by go_grown⟩
            | (simp [intOf]; done)
        · have q : (s.b2.s == 0) = false := by simp [q0]
          have q' : (s.b2.s == 1) = false := by simp [q1]
          have Q0 := Lib.hid q0
          have Q1 := Lib.hid q1
          clear q0 q1
          go_wp2
          all_goals go_roundw
          all_goals first
            | exact ⟨3, by omega, by go_num, (HA.out.set _ _).set' _ _ (by simp [mixS, styC, lineC, Sty.cells, max0, Q0.out, Q1.out]), (HZ.out.other (by simp) _).other (by simp) _, by go_grown⟩
            | (simp [intOf]; done)
    | 3, _ =>
      have d0 : wr.cell? ⟨w.heap.size, 17, none⟩ = some (.int .i64 s.b3.s) := hA.cell 17
      have d1 : wr.cell? ⟨w.heap.size, 18, none⟩ = some (.int .i64 s.b3.w) := hA.cell 18
      have d3 : wr.cell? ⟨w.heap.size, 7, none⟩ = some (.int .i64 s.p3) := hA.cell 7
      have f1 := hA.frozen 18
      have f3 := hA.frozen 7
      have HA := Lib.hid hA
      have HZ := Lib.hid hZ
      clear hA hZ
      by_cases q0 : s.b3.s = 0
      · have q : (s.b3.s == 0) = true := by simp [q0]
        have Q0 := Lib.hid q0
        clear q0
        go_wp2
        all_goals go_roundw
        all_goals first
          | exact ⟨⟨4, by omega, by go_num, ((HA.out.set _ _).set _ _).set' _ _ (by simp [mixS, styC, lineC, Sty.cells, max0, Q0.out]), ((HZ.out.other (by simp) _).other (by simp) _).other (by simp) _, by go_grown⟩, by simp [intOf]⟩
          | exact ⟨4, by omega, by go_num, ((HA.out.set _ _).set _ _).set' _ _ (by simp [mixS, styC, lineC, Sty.cells, max0, Q0.out]), ((HZ.out.other (by simp) _).other (by simp) _).other (by simp) _, by go_grown⟩
          | (simp [intOf]; done)
      · by_cases q1 : s.b3.s = 1
        · have q : (s.b3.s == 0) = false := by simp [q1]
          have q' : (s.b3.s == 1) = true := by simp [q1]
          have Q1 := Lib.hid q1
          clear q0 q1
          go_wp2
          all_goals go_roundw
          all_goals first
            | exact ⟨4, by omega, by go_num, ((HA.out.set _ _).set _ _).set' _ _ (by simp [mixS, styC, lineC, Sty.cells, max0, Q1.out]), ((HZ.out.other (by simp) _).other (by simp) _).other (by simp) _, by go_grown⟩
            | (simp [intOf]; done)
        · have q : (s.b3.s == 0) = false := by simp [q0]
          have q' : (s.b3.s == 1) = false := by simp [q1]
          have Q0 := Lib.hid q0
          have Q1 := Lib.hid q1
          clear q0 q1
          go_wp2
          all_goals go_roundw
          all_goals first
            | exact ⟨4, by omega, by go_num, (HA.out.set _ _).set' _ _ (by simp [mixS, styC, lineC, Sty.cells, max0, Q0.out, Q1.out]), (HZ.out.other (by simp) _).other (by simp) _, by go_grown⟩
            | (simp [intOf]; done)
    | 4, _ =>
      have e0 : wr.cell? ⟨w.heap.size, 25, none⟩ = some (.int .i64 s.g0) := hA.cell 25
      have e1 : wr.cell? ⟨w.heap.size, 26, none⟩ = some (.int .i64 s.g1) := hA.cell 26
      have e2 : wr.cell? ⟨w.heap.size, 20, none⟩ = some (.int .i64 s.cs) := hA.cell 20
      have e3 : wr.cell? ⟨w.heap.size, 21, none⟩ = some (.int .i64 s.rs) := hA.cell 21
      have f0 := hA.frozen 25
      have f1 := hA.frozen 26
      have f2 := hA.frozen 20
      have f3 := hA.frozen 21
      have HA := Lib.hid hA
      have HZ := Lib.hid hZ
      clear hA hZ
      go_upto_region 18 with (fail)
      · have h1 : s.rs < 0 := by assumption
        have hA3 := (((HA.out.set 25 (.int .i64 (if s.g0 < 0 then 0 else s.g0))).set 26 (.int .i64 (if s.g1 < 0 then 0 else s.g1))).set 20 (.int .i64 (if s.cs < 1 then 1 else s.cs))).set' (cs' := (styC s).cells) 21 (.int .i64 1) (by simp [mixS, styC, Sty.cells, max0, max1, h1])
        have hZ3 := ((((HZ.out.other (p := ⟨w.heap.size, 25, none⟩) (by simp) (.int .i64 (if s.g0 < 0 then 0 else s.g0))).other (p := ⟨w.heap.size, 26, none⟩) (by simp) (.int .i64 (if s.g1 < 0 then 0 else s.g1))).other (p := ⟨w.heap.size, 20, none⟩) (by simp) (.int .i64 (if s.cs < 1 then 1 else s.cs))).other (p := ⟨w.heap.size, 21, none⟩) (by simp) (.int .i64 1))
        have hB3 : Below w.heap.size w ((((wr.setCell ⟨w.heap.size, 25, none⟩ (.int .i64 (if s.g0 < 0 then 0 else s.g0))).setCell ⟨w.heap.size, 26, none⟩ (.int .i64 (if s.g1 < 0 then 0 else s.g1))).setCell ⟨w.heap.size, 20, none⟩ (.int .i64 (if s.cs < 1 then 1 else s.cs))).setCell ⟨w.heap.size, 21, none⟩ (.int .i64 1)) := by go_grown
        generalize ((((wr.setCell ⟨w.heap.size, 25, none⟩ (.int .i64 (if s.g0 < 0 then 0 else s.g0))).setCell ⟨w.heap.size, 26, none⟩ (.int .i64 (if s.g1 < 0 then 0 else s.g1))).setCell ⟨w.heap.size, 20, none⟩ (.int .i64 (if s.cs < 1 then 1 else s.cs))).setCell ⟨w.heap.size, 21, none⟩ (.int .i64 1)) = W3 at hA3 hZ3 hB3 ⊢
        have hR := hA3.range
        have hT := hZ3.there (styC s).cells.size (Nat.le_refl _)
        clear hA3 e0 e1 e2 e3 f0 f1 f2 f3
        generalize (if s.g0 < 0 then (0 : Int) else s.g0) = q0
        generalize (if s.g1 < 0 then (0 : Int) else s.g1) = q1
        generalize (if s.cs < 1 then (1 : Int) else s.cs) = q2
        have HZ3 := Lib.hid hZ3
        clear hZ3
        go_wp2_with (first | (refine wpList_load_mid rfl 40 _ rfl _ _ rfl _ _ hR Try.underlying40 rfl (by kernel_rfl) ?_) | ((refine wpList_store_mid rfl 40 _ _ rfl (w.heap.size + 1) 0 ((styC s).cells) rfl rfl hT (by kernel_rfl) (sty_one _) ?_); have hZ4 := HZ3.out.setCells (styC s).cells.toList rfl; have hB4 := below_setCells' (b := w.heap.size + 1) (by omega) (styC s).cells.toList 0 hB3; generalize W3.setCells (w.heap.size + 1) 0 (styC s).cells.toList = W6 at hZ4 hB4 ⊢; have HZ4 := Lib.hid hZ4; clear hZ4 hT hR))
        all_goals (try simp only [Exit.inBlock, Exit.then])
        all_goals refine bodyPost_ret (v := .tuple #[.agg (styC s).cells, .int .i64 0]) ?_ rfl ⟨rfl, hB4⟩
        all_goals exact results_cell_tmp_mid Try.results46 _ _ (w.heap.size + 1) 0 (styC s).cells.toList _ rfl HZ4.out.range Try.underlying40 rfl (by kernel_rfl)
      · have h0 : 0 ≤ s.rs := by assumption
        have h1 : ¬ s.rs < 0 := by omega
        have hA3 := ((HA.out.set 25 (.int .i64 (if s.g0 < 0 then 0 else s.g0))).set 26 (.int .i64 (if s.g1 < 0 then 0 else s.g1))).set' (cs' := (styC s).cells) 20 (.int .i64 (if s.cs < 1 then 1 else s.cs)) (by simp [mixS, styC, Sty.cells, max0, max1, h1])
        have hZ3 := (((HZ.out.other (p := ⟨w.heap.size, 25, none⟩) (by simp) (.int .i64 (if s.g0 < 0 then 0 else s.g0))).other (p := ⟨w.heap.size, 26, none⟩) (by simp) (.int .i64 (if s.g1 < 0 then 0 else s.g1))).other (p := ⟨w.heap.size, 20, none⟩) (by simp) (.int .i64 (if s.cs < 1 then 1 else s.cs)))
        have hB3 : Below w.heap.size w (((wr.setCell ⟨w.heap.size, 25, none⟩ (.int .i64 (if s.g0 < 0 then 0 else s.g0))).setCell ⟨w.heap.size, 26, none⟩ (.int .i64 (if s.g1 < 0 then 0 else s.g1))).setCell ⟨w.heap.size, 20, none⟩ (.int .i64 (if s.cs < 1 then 1 else s.cs))) := by go_grown
        generalize (((wr.setCell ⟨w.heap.size, 25, none⟩ (.int .i64 (if s.g0 < 0 then 0 else s.g0))).setCell ⟨w.heap.size, 26, none⟩ (.int .i64 (if s.g1 < 0 then 0 else s.g1))).setCell ⟨w.heap.size, 20, none⟩ (.int .i64 (if s.cs < 1 then 1 else s.cs))) = W3 at hA3 hZ3 hB3 ⊢
        have hR := hA3.range
        have hT := hZ3.there (styC s).cells.size (Nat.le_refl _)
        clear hA3 e0 e1 e2 e3 f0 f1 f2 f3
        generalize (if s.g0 < 0 then (0 : Int) else s.g0) = q0
        generalize (if s.g1 < 0 then (0 : Int) else s.g1) = q1
        generalize (if s.cs < 1 then (1 : Int) else s.cs) = q2
        have HZ3 := Lib.hid hZ3
        clear hZ3
        go_wp2_with (first | (refine wpList_load_mid rfl 40 _ rfl _ _ rfl _ _ hR Try.underlying40 rfl (by kernel_rfl) ?_) | ((refine wpList_store_mid rfl 40 _ _ rfl (w.heap.size + 1) 0 ((styC s).cells) rfl rfl hT (by kernel_rfl) (sty_one _) ?_); have hZ4 := HZ3.out.setCells (styC s).cells.toList rfl; have hB4 := below_setCells' (b := w.heap.size + 1) (by omega) (styC s).cells.toList 0 hB3; generalize W3.setCells (w.heap.size + 1) 0 (styC s).cells.toList = W6 at hZ4 hB4 ⊢; have HZ4 := Lib.hid hZ4; clear hZ4 hT hR))
        all_goals (try simp only [Exit.inBlock, Exit.then])
        all_goals refine bodyPost_ret (v := .tuple #[.agg (styC s).cells, .int .i64 0]) ?_ rfl ⟨rfl, hB4⟩
        all_goals exact results_cell_tmp_mid Try.results46 _ _ (w.heap.size + 1) 0 (styC s).cells.toList _ rfl HZ4.out.range Try.underlying40 rfl (by kernel_rfl)
    | n + 5, h => omega

set_option maxRecDepth 100000 in
theorem rcomputed_no (s : Sty) (w : World) (hv : validB s = false) :
    Calls Try.prog 46 #[.agg s.cells] w fun e w' => e = .returned (.tuple #[.agg zeroSty.cells, .int .i64 30]) ∧ Below w.heap.size w w' := by
  have HV := Lib.hid hv
  clear hv
  go_enter Try.func46, Try.ntmps46
  go_upto_region 1 with (fail)
  have hA := (Blk.new w 40 s.cells).alloc (.cells zeroSty.cells 40)
  have hZ := Blk.new (w.alloc (.cells s.cells 40)) 40 zeroSty.cells
  rw [World.size_alloc] at hZ
  have hB0 : Below w.heap.size w ((w.alloc (.cells s.cells 40)).alloc (.cells zeroSty.cells 40)) := by go_grown
  show Code.wp _ _ _ _ ((w.alloc (.cells s.cells 40)).alloc (.cells zeroSty.cells 40))
  generalize ((w.alloc (.cells s.cells 40)).alloc (.cells zeroSty.cells 40)) = W0 at hA hZ hB0 ⊢
  generalize Value.agg s.cells = V0
  have hl := hA.lt
  have hR := hA.range
  go_upto_region 3 with (first | (refine wpList_load_mid rfl 40 _ rfl _ _ rfl _ _ hR Try.underlying40 rfl (by kernel_rfl) ?_) | (go_at_call 44; refine (rvalid_any _ _).mono ?_; rintro e Wn ⟨rfl, hb⟩; rw [HV.out]; replace hA := hA.below hb (by omega); replace hZ := hZ.below hb (by have := hZ.lt; omega); replace hB0 := hB0.trans (hb.mono (by omega))))
  have hT := hZ.there zeroSty.cells.size (Nat.le_refl _)
  have HZ := Lib.hid hZ
  clear hZ hb hR
  go_wp2_with ((refine wpList_store_mid rfl 40 _ _ rfl (w.heap.size + 1) 0 (zeroSty.cells) rfl rfl hT (by kernel_rfl) (sty_one _) ?_); have hZ4 := HZ.out.setCells zeroSty.cells.toList rfl; have hB4 := below_setCells' (b := w.heap.size + 1) (by omega) zeroSty.cells.toList 0 hB0; generalize Wn.setCells (w.heap.size + 1) 0 zeroSty.cells.toList = W4 at hZ4 hB4 ⊢; have HZ4 := Lib.hid hZ4; clear hZ4 hT)
  refine bodyPost_ret (v := .tuple #[.agg zeroSty.cells, .int .i64 30]) ?_ rfl ⟨rfl, hB4⟩
  exact results_cell_tmp_mid Try.results46 _ _ (w.heap.size + 1) 0 zeroSty.cells.toList _ rfl HZ4.out.range Try.underlying40 rfl (by kernel_rfl)

end Go.Proofs.Ytjhpkikgajgdmaa
