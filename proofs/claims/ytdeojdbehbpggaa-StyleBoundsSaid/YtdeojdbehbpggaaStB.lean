/- Layer 3: the walk of StyleBounds. -/
import Derived.Test.YtdeojdbehbpggaaProg
import Derived.Test.YtdeojdbehbpggaaDefs
import Derived.Test.YtdeojdbehbpggaaRange
import Derived.Test.YtdeojdbehbpggaaHeld
import Derived.Test.YtdeojdbehbpggaaSt3
import Derived.Test.YtdeojdbehbpggaaSt5
import Derived.Test.YtdeojdbehbpggaaSt9
import Derived.Test.YtdeojdbehbpggaaStEs
import Derived.WalkKit
import Derived.LoopTactic
import Derived.Outline
import Derived.Lib.Hide
import Derived.Handy
import Derived.Deep.DeepCutAuto
import Derived.Deep.RegionHeld3
import Derived.Deep.RegionWith
import Derived.Stop.RegionWithIn
import Derived.Deep.QuietTactic
import Derived.BigQuiet
import Derived.IntWalk
import Derived.Test.YtdeojdbehbpggaaStA
import Derived.Test.YtdeojdbehbpggaaSt7
import Derived.Test.YtdeojdbehbpggaaWWords
namespace Go.Proofs.Ytdeojdbehbpggaa
open Go.RowKit Go.Proofs.YtdeojdbehbpggaaW.PrintWords
set_option linter.unusedVariables false
set_option linter.unusedSimpArgs false


set_option maxRecDepth 100000 in
set_option maxHeartbeats 4000000 in
theorem bounds_no (s C : Sty) (w : World) (h1 : Gives1 s C 30) :
    Calls Try.prog 6 #[.agg s.cells] w fun e w' => e = .returned (.bool true) ∧ Below w.heap.size w w' := by
  have H1 := Lib.hid h1
  clear h1
  go_enter Try.func6, Try.ntmps6
  go_upto_region 2 with (go_at_call 10; refine (shown_any _).mono ?_; rintro e W ⟨rfl, hb⟩; have hl := hb.size; have hA := (Blk.new w 31 s.cells).below hb (by simp); have hB : Below w.heap.size w W := (Below.refl _ w |>.alloc (Nat.le_refl _) _).trans (hb.mono (by simp)); rw [World.size_alloc] at hl)
  clear hb
  have hR := hA.range
  have hl0 := hA.lt
  have HA := Lib.hid hA
  clear hA
  go_upto_region 3 with (first
    | (refine wpList_load_mid rfl 31 _ rfl _ _ rfl _ _ hR Try.underlying31 rfl (by kernel_rfl) ?_)
    | (go_at_call 11; refine (H1.out _).mono ?_; rintro e W1 ⟨rfl, hb1⟩; have hT := (Blk.new W1 31 zeroSty.cells).there C.cells.size (Nat.le_refl _); have hB1 := hB.trans (hb1.mono hB.size); have hA1 := HA.out.below hb1 hl0)
    | ((refine wpList_store_mid rfl 31 _ _ rfl (W1.heap.size) 0 (C.cells) rfl rfl hT (by kernel_rfl) (sty_one _) ?_); clear hT; have hC := (Blk.new W1 31 zeroSty.cells).setCells C.cells.toList rfl; have hA2 := (hA1.alloc (.cells zeroSty.cells 31)).setCells_other (b' := W1.heap.size) (by have := hA1.lt; omega) C.cells.toList 0; have hB2 := below_setCells' (b := W1.heap.size) hB1.size C.cells.toList 0 (hB1.alloc hB1.size (.cells zeroSty.cells 31)); change wpList _ _ _ _ _ ((W1.alloc (.cells zeroSty.cells 31)).setCells W1.heap.size 0 C.cells.toList); generalize (W1.alloc (.cells zeroSty.cells 31)).setCells W1.heap.size 0 C.cells.toList = W2 at hC hA2 hB2 ⊢; generalize W1.heap.size = n1 at hC ⊢))
  replace hC : Blk W2 n1 31 C.cells := by rwa [Array.toArray_toList] at hC
  have hR2 := hA2.range
  have hl2 := hA2.lt
  have hl3 := hC.lt
  have HA2 := Lib.hid hA2
  have HC := Lib.hid hC
  clear hA2 hC hR HA hA1 hb1 hB1 hB
  have HB2 := Lib.hid hB2
  clear hB2
  go_wp2
  go_returns
  exact ⟨rfl, HB2.out⟩


theorem four_one (l : List Int) : (four l).all (·.oneCell') = true := by simp [four, Value.oneCell']
def zero4 : Array Value := #[.int .i64 0, .int .i64 0, .int .i64 0, .int .i64 0]
def Low (p v : Int) : Prop := (0 ≤ p ∧ p ≤ 1073741824) ∧ 0 ≤ v ∧ v ≤ 1073741824

set_option maxRecDepth 100000 in
set_option maxHeartbeats 4000000 in
theorem bounds_yes (s C : Sty) (L1 L2 : List Int) (w : World) (h1 : Gives1 s C 0)
    (h3 : ∀ W, Calls Try.prog 15 #[.agg C.cells, .bool true] W fun e w' => e = .returned (.agg (four L1)) ∧ Below W.heap.size W w')
    (h4 : ∀ W, Calls Try.prog 15 #[.agg C.cells, .bool false] W fun e w' => e = .returned (.agg (four L2)) ∧ Below W.heap.size W w')
    (t1 : four L1 = #[.int .i64 (C.p0 + C.b0.w), .int .i64 (C.p1 + C.b1.w), .int .i64 (C.p2 + C.b2.w), .int .i64 (C.p3 + C.b3.w)])
    (t2 : four L2 = #[.int .i64 C.p0, .int .i64 C.p1, .int .i64 C.p2, .int .i64 C.p3])
    (hp0 : Low C.p0 C.b0.w) (hp1 : Low C.p1 C.b1.w) (hp2 : Low C.p2 C.b2.w) (hp3 : Low C.p3 C.b3.w)
    (e0 : 0 ≤ C.wd.n) (e1 : 0 ≤ C.ht.n) (e2 : 0 ≤ C.g0) (e3 : 0 ≤ C.g1) (e4 : 1 ≤ C.cs) (e5 : C.cs ≤ 1000) (e6 : 0 ≤ C.rs) (e7 : C.rs ≤ 1000) :
    Calls Try.prog 6 #[.agg s.cells] w fun e w' => e = .returned (.bool true) ∧ Below w.heap.size w w' := by
  have H1 := Lib.hid h1
  have H3 := Lib.hid h3
  have H4 := Lib.hid h4
  have HT1 := Lib.hid t1
  have HT2 := Lib.hid t2
  have HP0 := Lib.hid hp0
  have HP1 := Lib.hid hp1
  have HP2 := Lib.hid hp2
  have HP3 := Lib.hid hp3
  have HE := Lib.hid (And.intro e0 (And.intro e1 (And.intro e2 (And.intro e3 (And.intro e4 (And.intro e5 (And.intro e6 e7)))))))
  clear h1 h3 h4 t1 t2 hp0 hp1 hp2 hp3 e0 e1 e2 e3 e4 e5 e6 e7
  go_enter Try.func6, Try.ntmps6
  go_upto_region 2 with (go_at_call 10; refine (shown_any _).mono ?_; rintro e W ⟨rfl, hb⟩; have hl := hb.size; have hA := (Blk.new w 31 s.cells).below hb (by simp); have hB : Below w.heap.size w W := (Below.refl _ w |>.alloc (Nat.le_refl _) _).trans (hb.mono (by simp)); rw [World.size_alloc] at hl)
  clear hb
  have hR := hA.range
  have hl0 := hA.lt
  have HA := Lib.hid hA
  clear hA
  go_upto_region 3 with (first
    | (refine wpList_load_mid rfl 31 _ rfl _ _ rfl _ _ hR Try.underlying31 rfl (by kernel_rfl) ?_)
    | (go_at_call 11; refine (H1.out _).mono ?_; rintro e W1 ⟨rfl, hb1⟩; have hT := (Blk.new W1 31 zeroSty.cells).there C.cells.size (Nat.le_refl _); have hB1 := hB.trans (hb1.mono hB.size); have hA1 := HA.out.below hb1 hl0)
    | ((refine wpList_store_mid rfl 31 _ _ rfl (W1.heap.size) 0 (C.cells) rfl rfl hT (by kernel_rfl) (sty_one _) ?_); clear hT; have hC := (Blk.new W1 31 zeroSty.cells).setCells C.cells.toList rfl; have hA2 := (hA1.alloc (.cells zeroSty.cells 31)).setCells_other (b' := W1.heap.size) (by have := hA1.lt; omega) C.cells.toList 0; have hB2 := below_setCells' (b := W1.heap.size) hB1.size C.cells.toList 0 (hB1.alloc hB1.size (.cells zeroSty.cells 31)); change wpList _ _ _ _ _ ((W1.alloc (.cells zeroSty.cells 31)).setCells W1.heap.size 0 C.cells.toList); generalize (W1.alloc (.cells zeroSty.cells 31)).setCells W1.heap.size 0 C.cells.toList = W2 at hC hA2 hB2 ⊢; generalize W1.heap.size = n1 at hC ⊢))
  replace hC : Blk W2 n1 31 C.cells := by rwa [Array.toArray_toList] at hC
  have hR2 := hA2.range
  have hl2 := hA2.lt
  have hl3 := hC.lt
  have HA2 := Lib.hid hA2
  have HC := Lib.hid hC
  clear hA2 hC hR HA hA1 hb1 hB1 hB
  have hRC := HC.out.range
  clear HA2 hR2
  go_upto_region 6 with (first
    | (refine wpList_load_mid rfl 31 _ rfl _ _ rfl _ _ hRC Try.underlying31 rfl (by kernel_rfl) ?_)
    | (go_at_call 15; refine (H3.out _).mono ?_; rintro e W3 ⟨rfl, hb3⟩; have hT := (Blk.new W3 24 zero4).there (four L1).size (Nat.le_refl _); have hB3 := hB2.trans (hb3.mono hB2.size); have hC3 := HC.out.below hb3 hl3)
    | ((refine wpList_store_mid rfl 24 _ _ rfl (W3.heap.size) 0 (four L1) rfl rfl hT (by kernel_rfl) (four_one _) ?_); clear hT; have hD := (Blk.new W3 24 zero4).setCells (four L1).toList rfl; have hC4 := (hC3.alloc (.cells zero4 24)).setCells_other (b' := W3.heap.size) (by have := hC3.lt; omega) (four L1).toList 0; have hB4 := below_setCells' (b := W3.heap.size) hB3.size (four L1).toList 0 (hB3.alloc hB3.size (.cells zero4 24)); change wpList _ _ _ _ _ ((W3.alloc (.cells zero4 24)).setCells W3.heap.size 0 (four L1).toList); generalize (W3.alloc (.cells zero4 24)).setCells W3.heap.size 0 (four L1).toList = W4 at hD hC4 hB4 ⊢; generalize W3.heap.size = n3 at hD ⊢))
  replace hD : Blk W4 n3 24 (four L1) := by rwa [Array.toArray_toList] at hD
  have hlD := hD.lt
  have hlC4 := hC4.lt
  have hRC4 := hC4.range
  have HC4 := Lib.hid hC4
  have HD := Lib.hid hD
  clear hD hC4 hC3 HC hRC hb3 hB3 hB2
  go_upto_region 7 with (first
    | (refine wpList_load_mid rfl 31 _ rfl _ _ rfl _ _ hRC4 Try.underlying31 rfl (by kernel_rfl) ?_)
    | (go_at_call 15; refine (H4.out _).mono ?_; rintro e W5 ⟨rfl, hb5⟩; have hT := (Blk.new W5 24 zero4).there (four L2).size (Nat.le_refl _); have hB5 := hB4.trans (hb5.mono hB4.size); have hC5 := HC4.out.below hb5 hlC4; have hD5 := HD.out.below hb5 hlD)
    | ((refine wpList_store_mid rfl 24 _ _ rfl (W5.heap.size) 0 (four L2) rfl rfl hT (by kernel_rfl) (four_one _) ?_); clear hT; have hE := (Blk.new W5 24 zero4).setCells (four L2).toList rfl; have hC6 := (hC5.alloc (.cells zero4 24)).setCells_other (b' := W5.heap.size) (by have := hC5.lt; omega) (four L2).toList 0; have hD6 := (hD5.alloc (.cells zero4 24)).setCells_other (b' := W5.heap.size) (by have := hD5.lt; omega) (four L2).toList 0; have hB6 := below_setCells' (b := W5.heap.size) hB5.size (four L2).toList 0 (hB5.alloc hB5.size (.cells zero4 24)); change wpList _ _ _ _ _ ((W5.alloc (.cells zero4 24)).setCells W5.heap.size 0 (four L2).toList); generalize (W5.alloc (.cells zero4 24)).setCells W5.heap.size 0 (four L2).toList = W6 at hE hC6 hD6 hB6 ⊢; generalize W5.heap.size = n5 at hE ⊢))
  replace hE : Blk W6 n5 24 (four L2) := by rwa [Array.toArray_toList] at hE
  have hC0 : Aside0 (Blk W6 n1 31 C.cells) := ⟨hC6⟩
  have hT0 : Aside0 (Blk W6 n3 24 (four L1)) := ⟨hD6⟩
  have hU0 : Aside0 (Blk W6 n5 24 (four L2)) := ⟨hE⟩
  have hB0 : Aside0 (Below w.heap.size w W6) := ⟨hB6⟩
  clear hE hC6 hD6 hB6 HC4 HD hRC4 hb5 hB5 hB4 hC5 hD5
  go_wp2
  go_loopw [8] (fun i wr => ∃ k : Nat, k ≤ 4 ∧ i = .int .i64 k ∧ Aside0 (Blk wr n1 31 C.cells) ∧ Aside0 (Blk wr n3 24 (four L1)) ∧ Aside0 (Blk wr n5 24 (four L2)) ∧ Aside0 (Below w.heap.size w wr)) (fun i _ => 4 - (intOf i).toNat)
  case atStart => exact ⟨0, by omega, rfl, hC0, hT0, hU0, hB0⟩
  case round =>
    obtain ⟨k, hk, rfl, HC, HT, HU, HB⟩ := hrel
    clear hC0 hT0 hU0 hB0
    have hlC := HC.out.lt
    have hlT := HT.out.lt
    have hlU := HU.out.lt
    match k, hk with
    | 0, _ =>
      have d0 : wr.cell? ⟨n1, 4, none⟩ = some (.int .i64 C.p0) := HC.out.cell 4
      have d1 : wr.cell? ⟨n1, 9, none⟩ = some (.int .i64 C.b0.w) := HC.out.cell 9
      have d2 : wr.cell? ⟨n3, 0, none⟩ = some (.int .i64 (C.p0 + C.b0.w)) := (HT.out.cell 0).trans (by rw [HT1.out]; rfl)
      have d3 : wr.cell? ⟨n5, 0, none⟩ = some (.int .i64 C.p0) := (HU.out.cell 0).trans (by rw [HT2.out]; rfl)
      obtain ⟨⟨b0, b1⟩, b2, b3⟩ := HP0.out
      have g1 : decide (C.p0 < 0) = false := decide_eq_false (by omega)
      have g2 : decide (C.b0.w < 0) = false := decide_eq_false (by omega)
      have g3 : IntKind.i64.wrap (C.p0 + C.b0.w) = C.p0 + C.b0.w := IntWalk.i64_in _ (by omega)
      have g4 : (C.p0 + C.b0.w != C.p0 + C.b0.w) = false := by simp
      have g5 : (C.p0 != C.p0) = false := by simp
      clear b0 b1 b2 b3
      go_wp2
      go_quiet (fail)
      go_wp2
      go_roundw
      case rel => exact ⟨1, by omega, by go_num, ⟨HC.out⟩, ⟨HT.out⟩, ⟨HU.out⟩, ⟨pw_below_drewN HB.out _⟩⟩
      case measure => simp [intOf]
    | 1, _ =>
      have d0 : wr.cell? ⟨n1, 5, none⟩ = some (.int .i64 C.p1) := HC.out.cell 5
      have d1 : wr.cell? ⟨n1, 12, none⟩ = some (.int .i64 C.b1.w) := HC.out.cell 12
      have d2 : wr.cell? ⟨n3, 1, none⟩ = some (.int .i64 (C.p1 + C.b1.w)) := (HT.out.cell 1).trans (by rw [HT1.out]; rfl)
      have d3 : wr.cell? ⟨n5, 1, none⟩ = some (.int .i64 C.p1) := (HU.out.cell 1).trans (by rw [HT2.out]; rfl)
      obtain ⟨⟨b0, b1⟩, b2, b3⟩ := HP1.out
      have g1 : decide (C.p1 < 0) = false := decide_eq_false (by omega)
      have g2 : decide (C.b1.w < 0) = false := decide_eq_false (by omega)
      have g3 : IntKind.i64.wrap (C.p1 + C.b1.w) = C.p1 + C.b1.w := IntWalk.i64_in _ (by omega)
      have g4 : (C.p1 + C.b1.w != C.p1 + C.b1.w) = false := by simp
      have g5 : (C.p1 != C.p1) = false := by simp
      clear b0 b1 b2 b3
      go_wp2
      go_quiet (fail)
      go_wp2
      go_roundw
      case rel => exact ⟨2, by omega, by go_num, ⟨HC.out⟩, ⟨HT.out⟩, ⟨HU.out⟩, ⟨pw_below_drewN HB.out _⟩⟩
      case measure => simp [intOf]
    | 2, _ =>
      have d0 : wr.cell? ⟨n1, 6, none⟩ = some (.int .i64 C.p2) := HC.out.cell 6
      have d1 : wr.cell? ⟨n1, 15, none⟩ = some (.int .i64 C.b2.w) := HC.out.cell 15
      have d2 : wr.cell? ⟨n3, 2, none⟩ = some (.int .i64 (C.p2 + C.b2.w)) := (HT.out.cell 2).trans (by rw [HT1.out]; rfl)
      have d3 : wr.cell? ⟨n5, 2, none⟩ = some (.int .i64 C.p2) := (HU.out.cell 2).trans (by rw [HT2.out]; rfl)
      obtain ⟨⟨b0, b1⟩, b2, b3⟩ := HP2.out
      have g1 : decide (C.p2 < 0) = false := decide_eq_false (by omega)
      have g2 : decide (C.b2.w < 0) = false := decide_eq_false (by omega)
      have g3 : IntKind.i64.wrap (C.p2 + C.b2.w) = C.p2 + C.b2.w := IntWalk.i64_in _ (by omega)
      have g4 : (C.p2 + C.b2.w != C.p2 + C.b2.w) = false := by simp
      have g5 : (C.p2 != C.p2) = false := by simp
      clear b0 b1 b2 b3
      go_wp2
      go_quiet (fail)
      go_wp2
      go_roundw
      case rel => exact ⟨3, by omega, by go_num, ⟨HC.out⟩, ⟨HT.out⟩, ⟨HU.out⟩, ⟨pw_below_drewN HB.out _⟩⟩
      case measure => simp [intOf]
    | 3, _ =>
      have d0 : wr.cell? ⟨n1, 7, none⟩ = some (.int .i64 C.p3) := HC.out.cell 7
      have d1 : wr.cell? ⟨n1, 18, none⟩ = some (.int .i64 C.b3.w) := HC.out.cell 18
      have d2 : wr.cell? ⟨n3, 3, none⟩ = some (.int .i64 (C.p3 + C.b3.w)) := (HT.out.cell 3).trans (by rw [HT1.out]; rfl)
      have d3 : wr.cell? ⟨n5, 3, none⟩ = some (.int .i64 C.p3) := (HU.out.cell 3).trans (by rw [HT2.out]; rfl)
      obtain ⟨⟨b0, b1⟩, b2, b3⟩ := HP3.out
      have g1 : decide (C.p3 < 0) = false := decide_eq_false (by omega)
      have g2 : decide (C.b3.w < 0) = false := decide_eq_false (by omega)
      have g3 : IntKind.i64.wrap (C.p3 + C.b3.w) = C.p3 + C.b3.w := IntWalk.i64_in _ (by omega)
      have g4 : (C.p3 + C.b3.w != C.p3 + C.b3.w) = false := by simp
      have g5 : (C.p3 != C.p3) = false := by simp
      clear b0 b1 b2 b3
      go_wp2
      go_quiet (fail)
      go_wp2
      go_roundw
      case rel => exact ⟨4, by omega, by go_num, ⟨HC.out⟩, ⟨HT.out⟩, ⟨HU.out⟩, ⟨pw_below_drewN HB.out _⟩⟩
      case measure => simp [intOf]
    | 4, _ =>
      have d0 : wr.cell? ⟨n1, 1, none⟩ = some (.int .i64 C.wd.n) := HC.out.cell 1
      have d1 : wr.cell? ⟨n1, 3, none⟩ = some (.int .i64 C.ht.n) := HC.out.cell 3
      have d2 : wr.cell? ⟨n1, 25, none⟩ = some (.int .i64 C.g0) := HC.out.cell 25
      have d3 : wr.cell? ⟨n1, 26, none⟩ = some (.int .i64 C.g1) := HC.out.cell 26
      have d4 : wr.cell? ⟨n1, 20, none⟩ = some (.int .i64 C.cs) := HC.out.cell 20
      have d5 : wr.cell? ⟨n1, 21, none⟩ = some (.int .i64 C.rs) := HC.out.cell 21
      obtain ⟨e0, e1, e2, e3, e4, e5, e6, e7⟩ := HE.out
      go_wp2
      go_returns
      exact ⟨by simp, HB.out⟩

theorem bounds_any (s : Sty) (w : World) :
    Calls Try.prog 6 #[.agg s.cells] w fun e w' => e = .returned (.bool true) ∧ Below w.heap.size w w' := by
  cases hv : validB s
  · exact bounds_no s zeroSty w (fun w => computed_no s w hv)
  · have hv2 := (again_pure s hv).1
    obtain ⟨C, hC⟩ : ∃ C, C = styC s := ⟨_, rfl⟩
    have p0 : 0 ≤ C.p0 := by rw [hC]; simp only [styC]; omega
    have p1 : 0 ≤ C.p1 := by rw [hC]; simp only [styC]; omega
    have p2 : 0 ≤ C.p2 := by rw [hC]; simp only [styC]; omega
    have p3 : 0 ≤ C.p3 := by rw [hC]; simp only [styC]; omega
    have lw : ∀ b : Ln, 0 ≤ (lineC b).w := fun b => by simp only [lineC]; split <;> omega
    have b0 : 0 ≤ C.b0.w := by rw [hC]; exact lw _
    have b1 : 0 ≤ C.b1.w := by rw [hC]; exact lw _
    have b2 : 0 ≤ C.b2.w := by rw [hC]; exact lw _
    have b3 : 0 ≤ C.b3.w := by rw [hC]; exact lw _
    have sn : ∀ z : Sz, 0 ≤ (sizeC z).n := fun z => by simp only [sizeC]; split <;> simp only [] <;> omega
    have e0 : 0 ≤ C.wd.n := by rw [hC]; exact sn _
    have e1 : 0 ≤ C.ht.n := by rw [hC]; exact sn _
    have e2 : 0 ≤ C.g0 := by rw [hC]; simp only [styC]; omega
    have e3 : 0 ≤ C.g1 := by rw [hC]; simp only [styC]; omega
    have e4 : 1 ≤ C.cs := by rw [hC]; simp only [styC]; omega
    have e6 : 0 ≤ C.rs := by rw [hC]; simp only [styC]; split <;> omega
    rw [← hC] at hv2
    have hv3 := hv2
    unfold validB lineB lenB at hv3
    simp only [Bool.and_eq_true, decide_eq_true_eq] at hv3
    have q0 : Low C.p0 C.b0.w := ⟨by omega, by omega⟩
    have q1 : Low C.p1 C.b1.w := ⟨by omega, by omega⟩
    have q2 : Low C.p2 C.b2.w := ⟨by omega, by omega⟩
    have q3 : Low C.p3 C.b3.w := ⟨by omega, by omega⟩
    have hok : C.sok := by
      intro x hx
      simp only [Sty.sides, List.mem_cons, List.not_mem_nil, or_false] at hx
      rcases hx with rfl | rfl | rfl | rfl <;> (unfold Low at q0 q1 q2 q3; unfold I64; dsimp only; omega)
    have sa : ∀ p v : Int, Low p v → satAdd p v = p + v := fun p v h => by unfold Low at h; unfold satAdd; rw [if_neg (by omega), if_neg (by omega)]
    refine bounds_yes s C (frameL C true) (frameL C false) w (fun w => by have := computed_yes s w hv; rwa [← hC] at this) (fun W => frame_any C true W hok) (fun W => frame_any C false W hok) ?_ ?_ q0 q1 q2 q3 e0 e1 e2 e3 e4 (by omega) e6 (by omega)
    · simp [four, frameL, Sty.sides, aroundI, sa _ _ q0, sa _ _ q1, sa _ _ q2, sa _ _ q3]
    · simp [four, frameL, Sty.sides, aroundI]
end Go.Proofs.Ytdeojdbehbpggaa
