/- Layer 3: computed styles. -/
import Derived.Test.YtjhpkikgajgdmaaProg
import Derived.Test.YtjhpkikgajgdmaaDefs
import Derived.Test.YtjhpkikgajgdmaaSt1B
import Derived.Test.YtjhpkikgajgdmaaRange
import Derived.Test.YtjhpkikgajgdmaaSt1
import Derived.ScopeJumps
import Derived.WalkMore
import Derived.Test.YtjhpkikgajgdmaaSt3
import Derived.WalkKit
import Derived.LoopTactic
import Derived.Outline
import Derived.Lib.Hide
import Derived.Handy
import Derived.Deep.DeepCutAuto
import Derived.Deep.RegionHeld3
import Derived.Deep.RegionWith
namespace Go.Proofs.Ytjhpkikgajgdmaa
open Go.RowKit
set_option linter.unusedVariables false
set_option linter.unusedSimpArgs false

theorem idx2 (x0 x1 : Int) (w : World) :
    (Instr.index 38 (.agg #[.int .i64 x0, .int .i64 x1]) (.int .i64 0)).run Try.prog w = .ok (.int .i64 x0) w ∧
    (Instr.index 38 (.agg #[.int .i64 x0, .int .i64 x1]) (.int .i64 1)).run Try.prog w = .ok (.int .i64 x1) w :=
  ⟨by kernel_rfl, by kernel_rfl⟩

set_option maxRecDepth 100000 in
set_option maxHeartbeats 4000000 in
theorem computed_yes (s : Sty) (w : World) (hv : validB s = true) :
    Calls Try.prog 39 #[.agg s.cells] w fun e w' => e = .returned (.tuple #[.agg (styC s).cells, .int .i64 0]) ∧ Below w.heap.size w w' := by
  have HV := Lib.hid hv
  clear hv
  go_enter Try.func39, Try.ntmps39
  go_upto_region 1 with (fail)
  have hA := (Blk.new w 40 s.cells).alloc (.cells zeroSty.cells 40)
  have hZ := Blk.new (w.alloc (.cells s.cells 40)) 40 zeroSty.cells
  rw [World.size_alloc] at hZ
  have hB0 : Below w.heap.size w ((w.alloc (.cells s.cells 40)).alloc (.cells zeroSty.cells 40)) := by go_grown
  show Code.wp _ _ _ _ ((w.alloc (.cells s.cells 40)).alloc (.cells zeroSty.cells 40))
  generalize ((w.alloc (.cells s.cells 40)).alloc (.cells zeroSty.cells 40)) = W0 at hA hZ hB0 ⊢
  generalize Value.agg s.cells = V0
  have hl := hA.lt
  have hR := hA.range
  go_upto_region 3 with (first | (refine wpList_load_mid rfl 40 _ rfl _ _ rfl _ _ hR Try.underlying40 rfl (by kernel_rfl) ?_) | (go_at_call 47; refine (valid_any _ _).mono ?_; rintro e Wn ⟨rfl, hb⟩; rw [HV.out]; replace hA := hA.below hb (by omega); replace hZ := hZ.below hb (by have := hZ.lt; omega); replace hB0 := hB0.trans (hb.mono (by omega))))
  clear hR
  go_cut [] from 12 to 19 (fun w1 => Blk w1 w.heap.size 40 (mixS 0 s (styC s)).cells ∧ Blk w1 (w.heap.size + 1) 40 zeroSty.cells ∧ Below w.heap.size w w1)
  case first =>
    have c0 : Wn.cell? ⟨w.heap.size, 0, none⟩ = some (.int .i64 s.wd.k) := hA.cell 0
    have c1 : Wn.cell? ⟨w.heap.size, 1, none⟩ = some (.int .i64 s.wd.n) := hA.cell 1
    have c2 : Wn.cell? ⟨w.heap.size, 2, none⟩ = some (.int .i64 s.ht.k) := hA.cell 2
    have c3 : Wn.cell? ⟨w.heap.size, 3, none⟩ = some (.int .i64 s.ht.n) := hA.cell 3
    have f0 := hA.frozen 0
    have f1 := hA.frozen 1
    have f2 := hA.frozen 2
    have f3 := hA.frozen 3
    have hlt := hA.lt
    have hltz := hZ.lt
    have HA := Lib.hid hA
    have HZ := Lib.hid hZ
    clear hA hZ hl hb
    go_region_with (go_at_call 48; refine (size_any _ _).mono ?_; rintro e w' ⟨rfl, hb⟩; have hc := (bcell hb).1; have hf := (bcell hb).2; have hz := hb.size; (try simp only [World.size_alloc, World.size_setCell, World.size_drew] at hz); (try simp only [World.size_drew, World.cell?_drew, World.frozen?_drew] at hc hf); have hl : w.heap.size < w'.heap.size := (by omega); have hA2 : Blk w' w.heap.size 40 s.cells := (by first | exact HA.out.below hb (by (try simp); omega) | exact HA.out.drew.below hb (by (try simp); omega)); have HA := Lib.hid hA2; clear hA2; have hZ2 : Blk w' (w.heap.size + 1) 40 zeroSty.cells := (by first | exact HZ.out.below hb (by (try simp); omega) | exact HZ.out.drew.below hb (by (try simp); omega)); have HZ := Lib.hid hZ2; clear hZ2; have hB0 : Below w.heap.size w w' := (by first | exact hB0.trans (hb.mono (by (try simp); omega)) | exact hB0.drew.trans (hb.mono (by (try simp); omega))))
    all_goals go_wp2
    all_goals go_meet
    all_goals refine ⟨((((HA.out.set _ _).set _ _).set _ _).set' _ _ (by simp [mixS, styC, Sty.cells])), (((HZ.out.other (by simp) _).other (by simp) _).other (by simp) _).other (by simp) _, by go_grown⟩
  case rest =>
    obtain ⟨hA1, hZ1, hB1⟩ := hcut
    clear hA hZ hB0 hb hl
    go_upto_region 4 with (fail)
    go_wp2
    go_loopw [20] (fun i wr => ∃ k : Nat, k ≤ 4 ∧ i = .int .i64 k ∧ Blk wr w.heap.size 40 (mixS k s (styC s)).cells ∧ Blk wr (w.heap.size + 1) 40 zeroSty.cells ∧ Below w.heap.size w wr) (fun i _ => 4 - (intOf i).toNat)
    case atStart => exact ⟨0, by omega, rfl, hA1, hZ1, hB1⟩
    case round =>
      obtain ⟨k, hk, rfl, hA, hZ, hB⟩ := hrel
      clear hA1 hZ1 hB1
      match k, hk with
      | 0, _ =>
        have d0 : wr.cell? ⟨w.heap.size, 8, none⟩ = some (.int .i64 s.b0.s) := hA.cell 8
        have d1 : wr.cell? ⟨w.heap.size, 9, none⟩ = some (.int .i64 s.b0.w) := hA.cell 9
        have d3 : wr.cell? ⟨w.heap.size, 4, none⟩ = some (.int .i64 s.p0) := hA.cell 4
        have f1 := hA.frozen 9
        have f3 := hA.frozen 4
        have HA := Lib.hid hA
        have HZ := Lib.hid hZ
        clear hA hZ
        go_wp2
        · have q : s.b0.s = 0 := by simpa using (by assumption : (s.b0.s == 0) = true)
          go_roundw
          case rel => exact ⟨1, by omega, by go_num, ((HA.out.set _ _).set _ _).set' _ _ (by simp [mixS, styC, lineC, Sty.cells, max0, q]), ((HZ.out.other (by simp) _).other (by simp) _).other (by simp) _, by go_grown⟩
          case measure => simp [intOf]
        · have q : s.b0.s = 1 := by simpa using (by assumption : (s.b0.s == 1) = true)
          go_roundw
          case rel => exact ⟨1, by omega, by go_num, ((HA.out.set _ _).set _ _).set' _ _ (by simp [mixS, styC, lineC, Sty.cells, max0, q]), ((HZ.out.other (by simp) _).other (by simp) _).other (by simp) _, by go_grown⟩
          case measure => simp [intOf]
        · have q0 : ¬ s.b0.s = 0 := by simpa using (by assumption : (s.b0.s == 0) = false)
          have q1 : ¬ s.b0.s = 1 := by simpa using (by assumption : (s.b0.s == 1) = false)
          go_roundw
          case rel => exact ⟨1, by omega, by go_num, (HA.out.set _ _).set' _ _ (by simp [mixS, styC, lineC, Sty.cells, max0, q0, q1]), (HZ.out.other (by simp) _).other (by simp) _, by go_grown⟩
          case measure => simp [intOf]
      | 1, _ =>
        have d0 : wr.cell? ⟨w.heap.size, 11, none⟩ = some (.int .i64 s.b1.s) := hA.cell 11
        have d1 : wr.cell? ⟨w.heap.size, 12, none⟩ = some (.int .i64 s.b1.w) := hA.cell 12
        have d3 : wr.cell? ⟨w.heap.size, 5, none⟩ = some (.int .i64 s.p1) := hA.cell 5
        have f1 := hA.frozen 12
        have f3 := hA.frozen 5
        have HA := Lib.hid hA
        have HZ := Lib.hid hZ
        clear hA hZ
        go_wp2
        · have q : s.b1.s = 0 := by simpa using (by assumption : (s.b1.s == 0) = true)
          go_roundw
          case rel => exact ⟨2, by omega, by go_num, ((HA.out.set _ _).set _ _).set' _ _ (by simp [mixS, styC, lineC, Sty.cells, max0, q]), ((HZ.out.other (by simp) _).other (by simp) _).other (by simp) _, by go_grown⟩
          case measure => simp [intOf]
        · have q : s.b1.s = 1 := by simpa using (by assumption : (s.b1.s == 1) = true)
          go_roundw
          case rel => exact ⟨2, by omega, by go_num, ((HA.out.set _ _).set _ _).set' _ _ (by simp [mixS, styC, lineC, Sty.cells, max0, q]), ((HZ.out.other (by simp) _).other (by simp) _).other (by simp) _, by go_grown⟩
          case measure => simp [intOf]
        · have q0 : ¬ s.b1.s = 0 := by simpa using (by assumption : (s.b1.s == 0) = false)
          have q1 : ¬ s.b1.s = 1 := by simpa using (by assumption : (s.b1.s == 1) = false)
          go_roundw
          case rel => exact ⟨2, by omega, by go_num, (HA.out.set _ _).set' _ _ (by simp [mixS, styC, lineC, Sty.cells, max0, q0, q1]), (HZ.out.other (by simp) _).other (by simp) _, by go_grown⟩
          case measure => simp [intOf]
      | 2, _ =>
        have d0 : wr.cell? ⟨w.heap.size, 14, none⟩ = some (.int .i64 s.b2.s) := hA.cell 14
        have d1 : wr.cell? ⟨w.heap.size, 15, none⟩ = some (.int .i64 s.b2.w) := hA.cell 15
        have d3 : wr.cell? ⟨w.heap.size, 6, none⟩ = some (.int .i64 s.p2) := hA.cell 6
        have f1 := hA.frozen 15
        have f3 := hA.frozen 6
        have HA := Lib.hid hA
        have HZ := Lib.hid hZ
        clear hA hZ
        go_wp2
        · have q : s.b2.s = 0 := by simpa using (by assumption : (s.b2.s == 0) = true)
          go_roundw
          case rel => exact ⟨3, by omega, by go_num, ((HA.out.set _ _).set _ _).set' _ _ (by simp [mixS, styC, lineC, Sty.cells, max0, q]), ((HZ.out.other (by simp) _).other (by simp) _).other (by simp) _, by go_grown⟩
          case measure => simp [intOf]
        · have q : s.b2.s = 1 := by simpa using (by assumption : (s.b2.s == 1) = true)
          go_roundw
          case rel => exact ⟨3, by omega, by go_num, ((HA.out.set _ _).set _ _).set' _ _ (by simp [mixS, styC, lineC, Sty.cells, max0, q]), ((HZ.out.other (by simp) _).other (by simp) _).other (by simp) _, by go_grown⟩
          case measure => simp [intOf]
        · have q0 : ¬ s.b2.s = 0 := by simpa using (by assumption : (s.b2.s == 0) = false)
          have q1 : ¬ s.b2.s = 1 := by simpa using (by assumption : (s.b2.s == 1) = false)
          go_roundw
          case rel => exact ⟨3, by omega, by go_num, (HA.out.set _ _).set' _ _ (by simp [mixS, styC, lineC, Sty.cells, max0, q0, q1]), (HZ.out.other (by simp) _).other (by simp) _, by go_grown⟩
          case measure => simp [intOf]
      | 3, _ =>
        have d0 : wr.cell? ⟨w.heap.size, 17, none⟩ = some (.int .i64 s.b3.s) := hA.cell 17
        have d1 : wr.cell? ⟨w.heap.size, 18, none⟩ = some (.int .i64 s.b3.w) := hA.cell 18
        have d3 : wr.cell? ⟨w.heap.size, 7, none⟩ = some (.int .i64 s.p3) := hA.cell 7
        have f1 := hA.frozen 18
        have f3 := hA.frozen 7
        have HA := Lib.hid hA
        have HZ := Lib.hid hZ
        clear hA hZ
        go_wp2
        · have q : s.b3.s = 0 := by simpa using (by assumption : (s.b3.s == 0) = true)
          go_roundw
          case rel => exact ⟨4, by omega, by go_num, ((HA.out.set _ _).set _ _).set' _ _ (by simp [mixS, styC, lineC, Sty.cells, max0, q]), ((HZ.out.other (by simp) _).other (by simp) _).other (by simp) _, by go_grown⟩
          case measure => simp [intOf]
        · have q : s.b3.s = 1 := by simpa using (by assumption : (s.b3.s == 1) = true)
          go_roundw
          case rel => exact ⟨4, by omega, by go_num, ((HA.out.set _ _).set _ _).set' _ _ (by simp [mixS, styC, lineC, Sty.cells, max0, q]), ((HZ.out.other (by simp) _).other (by simp) _).other (by simp) _, by go_grown⟩
          case measure => simp [intOf]
        · have q0 : ¬ s.b3.s = 0 := by simpa using (by assumption : (s.b3.s == 0) = false)
          have q1 : ¬ s.b3.s = 1 := by simpa using (by assumption : (s.b3.s == 1) = false)
          go_roundw
          case rel => exact ⟨4, by omega, by go_num, (HA.out.set _ _).set' _ _ (by simp [mixS, styC, lineC, Sty.cells, max0, q0, q1]), (HZ.out.other (by simp) _).other (by simp) _, by go_grown⟩
          case measure => simp [intOf]
      | 4, _ =>
        have e0 : wr.cell? ⟨w.heap.size, 25, none⟩ = some (.int .i64 s.g0) := hA.cell 25
        have e1 : wr.cell? ⟨w.heap.size, 26, none⟩ = some (.int .i64 s.g1) := hA.cell 26
        have e2 : wr.cell? ⟨w.heap.size, 20, none⟩ = some (.int .i64 s.cs) := hA.cell 20
        have e3 : wr.cell? ⟨w.heap.size, 21, none⟩ = some (.int .i64 s.rs) := hA.cell 21
        clear e2 e3
        have HA := Lib.hid hA
        have HZ := Lib.hid hZ
        have i0 := fun w => (idx2 s.g0 s.g1 w).1
        have i1 := fun w => (idx2 s.g0 s.g1 w).2
        go_wp2
        clear e0 e1 hA hZ
        go_loopw [55] (fun i wr => ∃ k : Nat, k ≤ 2 ∧ i = .int .i64 k ∧ Blk wr w.heap.size 40 (mixG k s (styC s)).cells ∧ Blk wr (w.heap.size + 1) 40 zeroSty.cells ∧ Below w.heap.size w wr) (fun i _ => 2 - (intOf i).toNat)
        case atStart => exact ⟨0, by omega, rfl, HA.out, HZ.out, hB⟩
        case round =>
          obtain ⟨k, hk, rfl, hA, hZ, hB⟩ := hrel
          clear HA HZ
          match k, hk with
          | 0, _ =>
            have f1 := hA.frozen 25
            have e1 : wr.cell? ⟨w.heap.size, 25, none⟩ = some (.int .i64 s.g0) := hA.cell 25
            have HA := Lib.hid hA
            have HZ := Lib.hid hZ
            clear hA hZ
            go_wp2
            go_roundw
            case rel => exact ⟨1, by omega, by go_num, HA.out.set' _ _ (by simp [mixG, mixS, styC, Sty.cells, max0]), HZ.out.other (by simp) _, by go_grown⟩
            case measure => simp [intOf]
          | 1, _ =>
            have f1 := hA.frozen 26
            have e1 : wr.cell? ⟨w.heap.size, 26, none⟩ = some (.int .i64 s.g1) := hA.cell 26
            have HA := Lib.hid hA
            have HZ := Lib.hid hZ
            clear hA hZ
            go_wp2
            go_roundw
            case rel => exact ⟨2, by omega, by go_num, HA.out.set' _ _ (by simp [mixG, mixS, styC, Sty.cells, max0]), HZ.out.other (by simp) _, by go_grown⟩
            case measure => simp [intOf]
          | 2, _ =>
            have e2 : wr.cell? ⟨w.heap.size, 20, none⟩ = some (.int .i64 s.cs) := hA.cell 20
            have e3 : wr.cell? ⟨w.heap.size, 21, none⟩ = some (.int .i64 s.rs) := hA.cell 21
            have f2 := hA.frozen 20
            have f3 := hA.frozen 21
            have HA := Lib.hid hA
            have HZ := Lib.hid hZ
            clear hA hZ
            go_upto_region 23 with (fail)
            · have h1 : s.rs < 0 := by assumption
              have hA3 := (HA.out.set 20 (.int .i64 (if s.cs < 1 then 1 else s.cs))).set' (cs' := (styC s).cells) 21 (.int .i64 1) (by simp [mixG, mixS, styC, Sty.cells, max1, h1])
              have hZ3 := (HZ.out.other (p := ⟨w.heap.size, 20, none⟩) (by simp) (.int .i64 (if s.cs < 1 then 1 else s.cs))).other (p := ⟨w.heap.size, 21, none⟩) (by simp) (.int .i64 1)
              have hB3 : Below w.heap.size w ((wr.setCell ⟨w.heap.size, 20, none⟩ (.int .i64 (if s.cs < 1 then 1 else s.cs))).setCell ⟨w.heap.size, 21, none⟩ (.int .i64 1)) := by go_grown
              generalize ((wr.setCell ⟨w.heap.size, 20, none⟩ (.int .i64 (if s.cs < 1 then 1 else s.cs))).setCell ⟨w.heap.size, 21, none⟩ (.int .i64 1)) = W3 at hA3 hZ3 hB3 ⊢
              have hR := hA3.range
              have hT := hZ3.there (styC s).cells.size (Nat.le_refl _)
              clear hA3
              have HZ3 := Lib.hid hZ3
              clear hZ3
              go_wp2_with (first | (refine wpList_load_mid rfl 40 _ rfl _ _ rfl _ _ hR Try.underlying40 rfl (by kernel_rfl) ?_) | ((refine wpList_store_mid rfl 40 _ _ rfl (w.heap.size + 1) 0 ((styC s).cells) rfl rfl hT (by kernel_rfl) (sty_one _) ?_); have hZ4 := HZ3.out.setCells (styC s).cells.toList rfl; have hB4 := below_setCells' (b := w.heap.size + 1) (by omega) (styC s).cells.toList 0 hB3; generalize W3.setCells (w.heap.size + 1) 0 (styC s).cells.toList = W4 at hZ4 hB4 ⊢; have HZ4 := Lib.hid hZ4; clear hZ4 hT hR))
              all_goals (try simp only [Exit.inBlock, Exit.then])
              all_goals refine bodyPost_ret (v := .tuple #[.agg (styC s).cells, .int .i64 0]) ?_ rfl ⟨rfl, hB4⟩
              all_goals exact results_cell_tmp_mid Try.results39 _ _ (w.heap.size + 1) 0 (styC s).cells.toList _ rfl HZ4.out.range Try.underlying40 rfl (by kernel_rfl)
            · have h0 : 0 ≤ s.rs := by assumption
              have h1 : ¬ s.rs < 0 := by omega
              have hA3 := HA.out.set' (cs' := (styC s).cells) 20 (.int .i64 (if s.cs < 1 then 1 else s.cs)) (by simp [mixG, mixS, styC, Sty.cells, max1, h1])
              have hZ3 := HZ.out.other (p := ⟨w.heap.size, 20, none⟩) (by simp) (.int .i64 (if s.cs < 1 then 1 else s.cs))
              have hB3 : Below w.heap.size w (wr.setCell ⟨w.heap.size, 20, none⟩ (.int .i64 (if s.cs < 1 then 1 else s.cs))) := by go_grown
              generalize (wr.setCell ⟨w.heap.size, 20, none⟩ (.int .i64 (if s.cs < 1 then 1 else s.cs))) = W3 at hA3 hZ3 hB3 ⊢
              have hR := hA3.range
              have hT := hZ3.there (styC s).cells.size (Nat.le_refl _)
              clear hA3
              have HZ3 := Lib.hid hZ3
              clear hZ3
              go_wp2_with (first | (refine wpList_load_mid rfl 40 _ rfl _ _ rfl _ _ hR Try.underlying40 rfl (by kernel_rfl) ?_) | ((refine wpList_store_mid rfl 40 _ _ rfl (w.heap.size + 1) 0 ((styC s).cells) rfl rfl hT (by kernel_rfl) (sty_one _) ?_); have hZ4 := HZ3.out.setCells (styC s).cells.toList rfl; have hB4 := below_setCells' (b := w.heap.size + 1) (by omega) (styC s).cells.toList 0 hB3; generalize W3.setCells (w.heap.size + 1) 0 (styC s).cells.toList = W4 at hZ4 hB4 ⊢; have HZ4 := Lib.hid hZ4; clear hZ4 hT hR))
              all_goals (try simp only [Exit.inBlock, Exit.then])
              all_goals refine bodyPost_ret (v := .tuple #[.agg (styC s).cells, .int .i64 0]) ?_ rfl ⟨rfl, hB4⟩
              all_goals exact results_cell_tmp_mid Try.results39 _ _ (w.heap.size + 1) 0 (styC s).cells.toList _ rfl HZ4.out.range Try.underlying40 rfl (by kernel_rfl)
          | n + 3, h => omega
      | n + 5, h => omega

set_option maxRecDepth 100000 in
theorem computed_no (s : Sty) (w : World) (hv : validB s = false) :
    Calls Try.prog 39 #[.agg s.cells] w fun e w' => e = .returned (.tuple #[.agg zeroSty.cells, .int .i64 30]) ∧ Below w.heap.size w w' := by
  have HV := Lib.hid hv
  clear hv
  go_enter Try.func39, Try.ntmps39
  go_upto_region 1 with (fail)
  have hA := (Blk.new w 40 s.cells).alloc (.cells zeroSty.cells 40)
  have hZ := Blk.new (w.alloc (.cells s.cells 40)) 40 zeroSty.cells
  rw [World.size_alloc] at hZ
  have hB0 : Below w.heap.size w ((w.alloc (.cells s.cells 40)).alloc (.cells zeroSty.cells 40)) := by go_grown
  show Code.wp _ _ _ _ ((w.alloc (.cells s.cells 40)).alloc (.cells zeroSty.cells 40))
  generalize ((w.alloc (.cells s.cells 40)).alloc (.cells zeroSty.cells 40)) = W0 at hA hZ hB0 ⊢
  generalize Value.agg s.cells = V0
  have hl := hA.lt
  have hR := hA.range
  go_upto_region 2 with (first | (refine wpList_load_mid rfl 40 _ rfl _ _ rfl _ _ hR Try.underlying40 rfl (by kernel_rfl) ?_) | (go_at_call 47; refine (valid_any _ _).mono ?_; rintro e Wn ⟨rfl, hb⟩; rw [HV.out]; replace hA := hA.below hb (by omega); replace hZ := hZ.below hb (by have := hZ.lt; omega); replace hB0 := hB0.trans (hb.mono (by omega))))
  have hT := hZ.there zeroSty.cells.size (Nat.le_refl _)
  have HZ := Lib.hid hZ
  clear hZ hb hR
  go_wp2_with ((refine wpList_store_mid rfl 40 _ _ rfl (w.heap.size + 1) 0 (zeroSty.cells) rfl rfl hT (by kernel_rfl) (sty_one _) ?_); have hZ4 := HZ.out.setCells zeroSty.cells.toList rfl; have hB4 := below_setCells' (b := w.heap.size + 1) (by omega) zeroSty.cells.toList 0 hB0; generalize Wn.setCells (w.heap.size + 1) 0 zeroSty.cells.toList = W4 at hZ4 hB4 ⊢; have HZ4 := Lib.hid hZ4; clear hZ4 hT)
  refine bodyPost_ret (v := .tuple #[.agg zeroSty.cells, .int .i64 30]) ?_ rfl ⟨rfl, hB4⟩
  exact results_cell_tmp_mid Try.results39 _ _ (w.heap.size + 1) 0 zeroSty.cells.toList _ rfl HZ4.out.range Try.underlying40 rfl (by kernel_rfl)

end Go.Proofs.Ytjhpkikgajgdmaa
