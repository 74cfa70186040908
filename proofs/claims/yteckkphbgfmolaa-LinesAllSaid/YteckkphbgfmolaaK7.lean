-- PRINTED by print.py (a twelfth state) out of the translation. Not trusted: Lean checks it.
import Derived.Test.YteckkphbgfmolaaK0
namespace Go.Proofs.Yteckkphbgfmolaa.K
open Go.RowKit Go.Proofs.YteckkphbgfmolaaW.PrintWords Go.Proofs.YteckkphbgfmolaaW.PrintLast Go.Proofs.YteckkphbgfmolaaW.PrintMore
attribute [local go_sem] max2_int min2_int max_two min_two max_three min_three max_four min_four   -- for this text's walks alone
set_option linter.unusedVariables false
set_option linter.unusedSimpArgs false

/-! ### purflingref08_Wide: function 24 -/
theorem range_of_blk_YteckkphbgfmolaaK7 {w : World} {g t : Nat} {cs : List Value} (h : w.heap[g]? = some (.cells cs.toArray t (0, 0))) : w.rangeAt g 0 cs := fun j v hv => by
  have := blk_cell h j
  rw [Nat.zero_add]
  exact this.trans (by simpa using hv)
def purflingref08_Wide.l0 : Nat → Int → Int → Int → Int → Int → List Int → Int → Int → Int → Int → Int → Int → Int → Int → Int → Int → Int → Int → Int → Int → Int → Int → Int → Int → Int → Int → Int → Int → Int → Bool → Bool → Int → Int → Bool → Bool → List Int → Int → Int → Option (Int)
  | 0, _, _, _, _, _, _, _, _, _, _, _, _, _, _, _, _, _, _, _, _, _, _, _, _, _, _, _, _, _, _, _, _, _, _, _, _, _, _ => none
  | k + 1, x1, x2, x7, x8, x135000, x135001, x135002, x135003, x135004, x135005, x135006, x135007, x135008, x135009, x135010, x135011, x135012, x135013, x135014, x135015, x135016, x135017, x135018, x135019, x135020, x135021, x135022, x135023, x135024, x135025, x135026, x135027, x135028, x135029, x135030, x135031, x135032, x135033 => if x8 < x2 then (if 0 ≤ x8 then (if x8 < (x135031.length : Int) then (if x8 > x1 then (purflingref08_Wide.l0 k x1 x2 (wrap64 ((wrap64 (x7 + (rd x135031 x8))) + x135032)) (wrap64 (x8 + 1)) x135000 x135001 x135002 x135003 x135004 x135005 x135006 x135007 x135008 x135009 x135010 x135011 x135012 x135013 x135014 x135015 x135016 x135017 x135018 x135019 x135020 x135021 x135022 x135023 x135024 x135025 x135026 x135027 x135028 x135029 x135030 x135031 x135032 x135033) else (purflingref08_Wide.l0 k x1 x2 (wrap64 (x7 + (rd x135031 x8))) (wrap64 (x8 + 1)) x135000 x135001 x135002 x135003 x135004 x135005 x135006 x135007 x135008 x135009 x135010 x135011 x135012 x135013 x135014 x135015 x135016 x135017 x135018 x135019 x135020 x135021 x135022 x135023 x135024 x135025 x135026 x135027 x135028 x135029 x135030 x135031 x135032 x135033)) else (none)) else (none)) else (some x7)
def purflingref08_Wide.f (k : Nat) (a0_0 : Int) (l0_1 : List Int) (a0_2 : Int) (a0_3 : Int) (a0_4 : Int) (a0_5 : Int) (a0_6 : Int) (a0_7 : Int) (a0_8 : Int) (a0_9 : Int) (a0_10 : Int) (a0_11 : Int) (a0_12 : Int) (a0_13 : Int) (a0_14 : Int) (a0_15 : Int) (a0_16 : Int) (a0_17 : Int) (a0_18 : Int) (a0_19 : Int) (a0_20 : Int) (a0_21 : Int) (a0_22 : Int) (a0_23 : Int) (a0_24 : Int) (a0_25 : Bool) (a0_26 : Bool) (a0_27 : Int) (a0_28 : Int) (a0_29 : Bool) (a0_30 : Bool) (l0_31 : List Int) (a0_32 : Int) (a0_33 : Int) (a1 : Int) (a2 : Int) : Option (Int) := purflingref08_Wide.l0 k a1 a2 0 a1 a0_0 l0_1 a0_2 a0_3 a0_4 a0_5 a0_6 a0_7 a0_8 a0_9 a0_10 a0_11 a0_12 a0_13 a0_14 a0_15 a0_16 a0_17 a0_18 a0_19 a0_20 a0_21 a0_22 a0_23 a0_24 a0_25 a0_26 a0_27 a0_28 a0_29 a0_30 l0_31 a0_32 a0_33
theorem purflingref08_Wide.mono_l : ∀ k, (∀ y0 y1 y2 y3 y4 y5 y6 y7 y8 y9 y10 y11 y12 y13 y14 y15 y16 y17 y18 y19 y20 y21 y22 y23 y24 y25 y26 y27 y28 y29 y30 y31 y32 y33 y34 y35 y36 y37, LeO (purflingref08_Wide.l0 k y0 y1 y2 y3 y4 y5 y6 y7 y8 y9 y10 y11 y12 y13 y14 y15 y16 y17 y18 y19 y20 y21 y22 y23 y24 y25 y26 y27 y28 y29 y30 y31 y32 y33 y34 y35 y36 y37) (purflingref08_Wide.l0 (k + 1) y0 y1 y2 y3 y4 y5 y6 y7 y8 y9 y10 y11 y12 y13 y14 y15 y16 y17 y18 y19 y20 y21 y22 y23 y24 y25 y26 y27 y28 y29 y30 y31 y32 y33 y34 y35 y36 y37))
  | 0 => fun _ _ _ _ _ _ _ _ _ _ _ _ _ _ _ _ _ _ _ _ _ _ _ _ _ _ _ _ _ _ _ _ _ _ _ _ _ _ r h => by simp [purflingref08_Wide.l0] at h
  | k + 1 => by
    have ih0 := purflingref08_Wide.mono_l k
    · intro y0 y1 y2 y3 y4 y5 y6 y7 y8 y9 y10 y11 y12 y13 y14 y15 y16 y17 y18 y19 y20 y21 y22 y23 y24 y25 y26 y27 y28 y29 y30 y31 y32 y33 y34 y35 y36 y37
      unfold purflingref08_Wide.l0
      repeat' first
      | (with_reducible exact ih0 _ _ _ _ _ _ _ _ _ _ _ _ _ _ _ _ _ _ _ _ _ _ _ _ _ _ _ _ _ _ _ _ _ _ _ _ _ _)
      | (with_reducible exact LeO.refl _)
      | (with_reducible exact LeO.none _)
      | (with_reducible refine LeO.ite ?_ ?_)
      | (with_reducible refine LeO.bind ?_ (fun _ => ?_))
      | exact ih0 _ _ _ _ _ _ _ _ _ _ _ _ _ _ _ _ _ _ _ _ _ _ _ _ _ _ _ _ _ _ _ _ _ _ _ _ _ _
      | exact LeO.none _
      | refine LeO.ite ?_ ?_
      | refine LeO.bind ?_ (fun _ => ?_)
theorem purflingref08_Wide.mono : ∀ a0 a1 a2 a3 a4 a5 a6 a7 a8 a9 a10 a11 a12 a13 a14 a15 a16 a17 a18 a19 a20 a21 a22 a23 a24 a25 a26 a27 a28 a29 a30 a31 a32 a33 a34 a35 k, LeO (purflingref08_Wide.f k a0 a1 a2 a3 a4 a5 a6 a7 a8 a9 a10 a11 a12 a13 a14 a15 a16 a17 a18 a19 a20 a21 a22 a23 a24 a25 a26 a27 a28 a29 a30 a31 a32 a33 a34 a35) (purflingref08_Wide.f (k + 1) a0 a1 a2 a3 a4 a5 a6 a7 a8 a9 a10 a11 a12 a13 a14 a15 a16 a17 a18 a19 a20 a21 a22 a23 a24 a25 a26 a27 a28 a29 a30 a31 a32 a33 a34 a35) := by
  intro a0 a1 a2 a3 a4 a5 a6 a7 a8 a9 a10 a11 a12 a13 a14 a15 a16 a17 a18 a19 a20 a21 a22 a23 a24 a25 a26 a27 a28 a29 a30 a31 a32 a33 a34 a35 k
  have ih0 := purflingref08_Wide.mono_l k
  unfold purflingref08_Wide.f
  repeat' first
      | (with_reducible exact ih0 _ _ _ _ _ _ _ _ _ _ _ _ _ _ _ _ _ _ _ _ _ _ _ _ _ _ _ _ _ _ _ _ _ _ _ _ _ _)
      | (with_reducible exact LeO.refl _)
      | (with_reducible exact LeO.none _)
      | (with_reducible refine LeO.ite ?_ ?_)
      | (with_reducible refine LeO.bind ?_ (fun _ => ?_))
      | exact ih0 _ _ _ _ _ _ _ _ _ _ _ _ _ _ _ _ _ _ _ _ _ _ _ _ _ _ _ _ _ _ _ _ _ _ _ _ _ _
      | exact LeO.none _
      | refine LeO.ite ?_ ?_
      | refine LeO.bind ?_ (fun _ => ?_)
set_option maxHeartbeats 8000000 in
set_option maxRecDepth 100000 in
theorem purflingref08_Wide.calls (k : Nat) (a0_0 : Int) (A0_1 : Option Addr) (c0_1 : Nat) (l0_1 : List Int) (a0_2 : Int) (a0_3 : Int) (a0_4 : Int) (a0_5 : Int) (a0_6 : Int) (a0_7 : Int) (a0_8 : Int) (a0_9 : Int) (a0_10 : Int) (a0_11 : Int) (a0_12 : Int) (a0_13 : Int) (a0_14 : Int) (a0_15 : Int) (a0_16 : Int) (a0_17 : Int) (a0_18 : Int) (a0_19 : Int) (a0_20 : Int) (a0_21 : Int) (a0_22 : Int) (a0_23 : Int) (a0_24 : Int) (a0_25 : Bool) (a0_26 : Bool) (a0_27 : Int) (a0_28 : Int) (a0_29 : Bool) (a0_30 : Bool) (A0_31 : Option Addr) (c0_31 : Nat) (l0_31 : List Int) (a0_32 : Int) (a0_33 : Int) (a1 : Int) (a2 : Int) (r : Int) (w : World) (hr0_1 : Kd.C (Kd.int .i64) w A0_1 l0_1.length l0_1) (hc0_1 : l0_1.length ≤ c0_1) (hr0_31 : Kd.C (Kd.int .i64) w A0_31 l0_31.length l0_31) (hc0_31 : l0_31.length ≤ c0_31) (h : purflingref08_Wide.f k a0_0 l0_1 a0_2 a0_3 a0_4 a0_5 a0_6 a0_7 a0_8 a0_9 a0_10 a0_11 a0_12 a0_13 a0_14 a0_15 a0_16 a0_17 a0_18 a0_19 a0_20 a0_21 a0_22 a0_23 a0_24 a0_25 a0_26 a0_27 a0_28 a0_29 a0_30 l0_31 a0_32 a0_33 a1 a2 = some r) :
    Calls Try.prog 24 #[.agg #[.int .i64 a0_0, .slice A0_1 l0_1.length c0_1, .int .i64 a0_2, .int .i64 a0_3, .int .i64 a0_4, .int .i64 a0_5, .int .i64 a0_6, .int .i64 a0_7, .int .i64 a0_8, .int .i64 a0_9, .int .i64 a0_10, .int .i64 a0_11, .int .u32 a0_12, .int .i64 a0_13, .int .i64 a0_14, .int .u32 a0_15, .int .i64 a0_16, .int .i64 a0_17, .int .u32 a0_18, .int .i64 a0_19, .int .i64 a0_20, .int .u32 a0_21, .int .i64 a0_22, .int .i64 a0_23, .int .i64 a0_24, .bool a0_25, .bool a0_26, .int .i64 a0_27, .int .i64 a0_28, .bool a0_29, .bool a0_30, .slice A0_31 l0_31.length c0_31, .int .i64 a0_32, .int .i64 a0_33], .int .i64 a1, .int .i64 a2] w fun e w' => e = .returned (.int .i64 r) ∧ Below w.heap.size w w' := by
  have hu35 := Try.underlying35
  have HR0_1 := Aside0.mk hr0_1
  have HC0_1 := Aside0.mk hc0_1
  clear hr0_1 hc0_1
  have HR0_31 := Aside0.mk hr0_31
  have HC0_31 := Aside0.mk hc0_31
  clear hr0_31 hc0_31
  have HB := Aside0.mk (Below.refl w.heap.size w)
  have H : (purflingref08_Wide.l0 k a1 a2 0 a1 a0_0 l0_1 a0_2 a0_3 a0_4 a0_5 a0_6 a0_7 a0_8 a0_9 a0_10 a0_11 a0_12 a0_13 a0_14 a0_15 a0_16 a0_17 a0_18 a0_19 a0_20 a0_21 a0_22 a0_23 a0_24 a0_25 a0_26 a0_27 a0_28 a0_29 a0_30 l0_31 a0_32 a0_33) = some r := h
  clear h
  have H' := Aside0.mk H
  clear H
  go_enter Try.func24, Try.ntmps24
  go_wp2_with (first | ((with_reducible refine gate_dst (N := 3) rfl ?_); refine box_event ?hg (N := 3) ?hd (cs := #[.int .i64 a0_0, .slice A0_1 l0_1.length c0_1, .int .i64 a0_2, .int .i64 a0_3, .int .i64 a0_4, .int .i64 a0_5, .int .i64 a0_6, .int .i64 a0_7, .int .i64 a0_8, .int .i64 a0_9, .int .i64 a0_10, .int .i64 a0_11, .int .u32 a0_12, .int .i64 a0_13, .int .i64 a0_14, .int .u32 a0_15, .int .i64 a0_16, .int .i64 a0_17, .int .u32 a0_18, .int .i64 a0_19, .int .i64 a0_20, .int .u32 a0_21, .int .i64 a0_22, .int .i64 a0_23, .int .i64 a0_24, .bool a0_25, .bool a0_26, .int .i64 a0_27, .int .i64 a0_28, .bool a0_29, .bool a0_30, .slice A0_31 l0_31.length c0_31, .int .i64 a0_32, .int .i64 a0_33]) (t := 35) ?hr ?_; (case hd => rfl); (case hg => rfl); (case hr => first | (go_simp; done) | (go_simp; rfl)); intro gb134 hg w4 hbox hb; have n0_ := Aside0.mk (below_step (by repeat (first | (with_reducible first | exact HB.out | apply below_alloc | apply pw_below_drewN | apply below_drew1) | exact HB.out)) hb); have n1_ := Aside0.mk (hbox); have n2_ := Aside0.mk ((by rw [hg]; exact (below_size (by repeat (first | (with_reducible first | exact HB.out | apply below_alloc | apply pw_below_drewN | apply below_drew1) | exact HB.out))) : w.heap.size ≤ gb134)); have n3_ := Aside0.mk ((by rw [hg]; exact (below_size (by repeat (first | (with_reducible first | exact HB.out | apply below_alloc | apply pw_below_drewN | apply below_drew1) | exact HB.out))) : w.heap.size ≤ gb134)); clear HB; have HB := n0_; have BK134 := n1_; have GW134 := n2_; have GE134 := n3_; clear n0_ n1_ n2_ n3_; clear hb hbox hg))
  go_loopg [7, 8] k (fun kq v7 v8 w' => ∃ (x7_1 : Int) (x8_1 : Int), v7 = .int .i64 x7_1 ∧ v8 = .int .i64 x8_1 ∧ Aside0 (purflingref08_Wide.l0 kq a1 a2 x7_1 x8_1 a0_0 l0_1 a0_2 a0_3 a0_4 a0_5 a0_6 a0_7 a0_8 a0_9 a0_10 a0_11 a0_12 a0_13 a0_14 a0_15 a0_16 a0_17 a0_18 a0_19 a0_20 a0_21 a0_22 a0_23 a0_24 a0_25 a0_26 a0_27 a0_28 a0_29 a0_30 l0_31 a0_32 a0_33 = some r) ∧ Aside0 (kq ≤ k) ∧ Aside0 (w'.heap[gb134]? = some (.cells #[.int .i64 a0_0, (.slice A0_1 l0_1.length c0_1), .int .i64 a0_2, .int .i64 a0_3, .int .i64 a0_4, .int .i64 a0_5, .int .i64 a0_6, .int .i64 a0_7, .int .i64 a0_8, .int .i64 a0_9, .int .i64 a0_10, .int .i64 a0_11, .int .u32 a0_12, .int .i64 a0_13, .int .i64 a0_14, .int .u32 a0_15, .int .i64 a0_16, .int .i64 a0_17, .int .u32 a0_18, .int .i64 a0_19, .int .i64 a0_20, .int .u32 a0_21, .int .i64 a0_22, .int .i64 a0_23, .int .i64 a0_24, .bool a0_25, .bool a0_26, .int .i64 a0_27, .int .i64 a0_28, .bool a0_29, .bool a0_30, (.slice A0_31 l0_31.length c0_31), .int .i64 a0_32, .int .i64 a0_33] 35 (0, 0))) ∧ Aside0 (Below w.heap.size w w'))
  case atStart => exact ⟨(0), (a1), (by first | rfl | (simp; done) | (simp [*]; done)), (by first | rfl | (simp; done) | (simp [*]; done)), H', ⟨Nat.le_refl _⟩, ⟨by (with_reducible repeat (first | refine blk_drewN ?_ _ | refine blk_drew ?_ | refine blk_alloc ?_ _)); exact BK134.out⟩, ⟨by repeat (first | (with_reducible first | exact HB.out | apply below_alloc | apply pw_below_drewN | apply below_drew1 | refine below_set ?_ GE134.out) | exact HB.out)⟩⟩
  case round =>
    clear H'
    try clear c2
    try clear p2
    obtain ⟨x7_1, x8_1, rfl, rfl, HA, HK1, BK134, HB⟩ := hrel
    cases gk with
    | zero => exact absurd HA.out (by simp [purflingref08_Wide.l0])
    | succ k1 =>
      have H := HA.out
      clear HA
      simp only [purflingref08_Wide.l0] at H
      by_cases c5 : x8_1 < a2
      · rw [if_pos c5] at H
        have c5b0 : decide (x8_1 < a2) = true := decide_eq_true c5
        clear c5
        by_cases c6 : 0 ≤ x8_1
        · rw [if_pos c6] at H
          have c6b0 : decide (0 ≤ x8_1) = true := decide_eq_true c6
          clear c6
          by_cases c7 : x8_1 < (l0_31.length : Int)
          · rw [if_pos c7] at H
            have c7b0 : decide (x8_1 < (l0_31.length : Int)) = true := decide_eq_true c7
            clear c7
            by_cases c8 : x8_1 > a1
            · rw [if_pos c8] at H
              have c8b0 : decide (a1 < x8_1) = true := decide_eq_true c8
              clear c8
              have H' := Aside0.mk H
              clear H
              have hcz9_0 : wr.cell? ⟨gb134, 0, none⟩ = some (.int .i64 a0_0) := (blk_cell BK134.out 0).trans rfl
              have hcz9_1 : wr.cell? ⟨gb134, 1, none⟩ = some (.slice A0_1 l0_1.length c0_1) := (blk_cell BK134.out 1).trans rfl
              have hcz9_2 : wr.cell? ⟨gb134, 2, none⟩ = some (.int .i64 a0_2) := (blk_cell BK134.out 2).trans rfl
              have hcz9_3 : wr.cell? ⟨gb134, 3, none⟩ = some (.int .i64 a0_3) := (blk_cell BK134.out 3).trans rfl
              have hcz9_4 : wr.cell? ⟨gb134, 4, none⟩ = some (.int .i64 a0_4) := (blk_cell BK134.out 4).trans rfl
              have hcz9_5 : wr.cell? ⟨gb134, 5, none⟩ = some (.int .i64 a0_5) := (blk_cell BK134.out 5).trans rfl
              have hcz9_6 : wr.cell? ⟨gb134, 6, none⟩ = some (.int .i64 a0_6) := (blk_cell BK134.out 6).trans rfl
              have hcz9_7 : wr.cell? ⟨gb134, 7, none⟩ = some (.int .i64 a0_7) := (blk_cell BK134.out 7).trans rfl
              have hcz9_8 : wr.cell? ⟨gb134, 8, none⟩ = some (.int .i64 a0_8) := (blk_cell BK134.out 8).trans rfl
              have hcz9_9 : wr.cell? ⟨gb134, 9, none⟩ = some (.int .i64 a0_9) := (blk_cell BK134.out 9).trans rfl
              have hcz9_10 : wr.cell? ⟨gb134, 10, none⟩ = some (.int .i64 a0_10) := (blk_cell BK134.out 10).trans rfl
              have hcz9_11 : wr.cell? ⟨gb134, 11, none⟩ = some (.int .i64 a0_11) := (blk_cell BK134.out 11).trans rfl
              have hcz9_12 : wr.cell? ⟨gb134, 12, none⟩ = some (.int .u32 a0_12) := (blk_cell BK134.out 12).trans rfl
              have hcz9_13 : wr.cell? ⟨gb134, 13, none⟩ = some (.int .i64 a0_13) := (blk_cell BK134.out 13).trans rfl
              have hcz9_14 : wr.cell? ⟨gb134, 14, none⟩ = some (.int .i64 a0_14) := (blk_cell BK134.out 14).trans rfl
              have hcz9_15 : wr.cell? ⟨gb134, 15, none⟩ = some (.int .u32 a0_15) := (blk_cell BK134.out 15).trans rfl
              have hcz9_16 : wr.cell? ⟨gb134, 16, none⟩ = some (.int .i64 a0_16) := (blk_cell BK134.out 16).trans rfl
              have hcz9_17 : wr.cell? ⟨gb134, 17, none⟩ = some (.int .i64 a0_17) := (blk_cell BK134.out 17).trans rfl
              have hcz9_18 : wr.cell? ⟨gb134, 18, none⟩ = some (.int .u32 a0_18) := (blk_cell BK134.out 18).trans rfl
              have hcz9_19 : wr.cell? ⟨gb134, 19, none⟩ = some (.int .i64 a0_19) := (blk_cell BK134.out 19).trans rfl
              have hcz9_20 : wr.cell? ⟨gb134, 20, none⟩ = some (.int .i64 a0_20) := (blk_cell BK134.out 20).trans rfl
              have hcz9_21 : wr.cell? ⟨gb134, 21, none⟩ = some (.int .u32 a0_21) := (blk_cell BK134.out 21).trans rfl
              have hcz9_22 : wr.cell? ⟨gb134, 22, none⟩ = some (.int .i64 a0_22) := (blk_cell BK134.out 22).trans rfl
              have hcz9_23 : wr.cell? ⟨gb134, 23, none⟩ = some (.int .i64 a0_23) := (blk_cell BK134.out 23).trans rfl
              have hcz9_24 : wr.cell? ⟨gb134, 24, none⟩ = some (.int .i64 a0_24) := (blk_cell BK134.out 24).trans rfl
              have hcz9_25 : wr.cell? ⟨gb134, 25, none⟩ = some (.bool a0_25) := (blk_cell BK134.out 25).trans rfl
              have hcz9_26 : wr.cell? ⟨gb134, 26, none⟩ = some (.bool a0_26) := (blk_cell BK134.out 26).trans rfl
              have hcz9_27 : wr.cell? ⟨gb134, 27, none⟩ = some (.int .i64 a0_27) := (blk_cell BK134.out 27).trans rfl
              have hcz9_28 : wr.cell? ⟨gb134, 28, none⟩ = some (.int .i64 a0_28) := (blk_cell BK134.out 28).trans rfl
              have hcz9_29 : wr.cell? ⟨gb134, 29, none⟩ = some (.bool a0_29) := (blk_cell BK134.out 29).trans rfl
              have hcz9_30 : wr.cell? ⟨gb134, 30, none⟩ = some (.bool a0_30) := (blk_cell BK134.out 30).trans rfl
              have hcz9_31 : wr.cell? ⟨gb134, 31, none⟩ = some (.slice A0_31 l0_31.length c0_31) := (blk_cell BK134.out 31).trans rfl
              have hcz9_32 : wr.cell? ⟨gb134, 32, none⟩ = some (.int .i64 a0_32) := (blk_cell BK134.out 32).trans rfl
              have hcz9_33 : wr.cell? ⟨gb134, 33, none⟩ = some (.int .i64 a0_33) := (blk_cell BK134.out 33).trans rfl
              have hfz9_0 := blk_frozen BK134.out 0
              have hfz9_1 := blk_frozen BK134.out 1
              have hfz9_2 := blk_frozen BK134.out 2
              have hfz9_3 := blk_frozen BK134.out 3
              have hfz9_4 := blk_frozen BK134.out 4
              have hfz9_5 := blk_frozen BK134.out 5
              have hfz9_6 := blk_frozen BK134.out 6
              have hfz9_7 := blk_frozen BK134.out 7
              have hfz9_8 := blk_frozen BK134.out 8
              have hfz9_9 := blk_frozen BK134.out 9
              have hfz9_10 := blk_frozen BK134.out 10
              have hfz9_11 := blk_frozen BK134.out 11
              have hfz9_12 := blk_frozen BK134.out 12
              have hfz9_13 := blk_frozen BK134.out 13
              have hfz9_14 := blk_frozen BK134.out 14
              have hfz9_15 := blk_frozen BK134.out 15
              have hfz9_16 := blk_frozen BK134.out 16
              have hfz9_17 := blk_frozen BK134.out 17
              have hfz9_18 := blk_frozen BK134.out 18
              have hfz9_19 := blk_frozen BK134.out 19
              have hfz9_20 := blk_frozen BK134.out 20
              have hfz9_21 := blk_frozen BK134.out 21
              have hfz9_22 := blk_frozen BK134.out 22
              have hfz9_23 := blk_frozen BK134.out 23
              have hfz9_24 := blk_frozen BK134.out 24
              have hfz9_25 := blk_frozen BK134.out 25
              have hfz9_26 := blk_frozen BK134.out 26
              have hfz9_27 := blk_frozen BK134.out 27
              have hfz9_28 := blk_frozen BK134.out 28
              have hfz9_29 := blk_frozen BK134.out 29
              have hfz9_30 := blk_frozen BK134.out 30
              have hfz9_31 := blk_frozen BK134.out 31
              have hfz9_32 := blk_frozen BK134.out 32
              have hfz9_33 := blk_frozen BK134.out 33
              have p135 : 0 ≤ (x8_1 : Int) := of_decide_eq_true (by first | (with_reducible assumption) | assumption)
              have q135 : x8_1 < (l0_31.length : Int) := of_decide_eq_true (by first | (with_reducible assumption) | assumption)
              obtain ⟨ad135, e135, hx135_0⟩ := Kd.at_int HR0_31.out x8_1 p135 q135
              cases e135
              replace hx135_0 := (HB.out.cell (World.block_lt_of_cell? w _ hx135_0)).trans hx135_0
              replace p135 := eq_true p135
              replace q135 := eq_true q135
              go_wp2
              go_roundg k1
              case measure => have := HK1.out; omega
              case rel => exact ⟨(wrap64 ((wrap64 (x7_1 + (rd l0_31 x8_1))) + a0_32)), (wrap64 (x8_1 + 1)), (by first | rfl | (simp; done) | (simp [*]; done)), (by first | rfl | (simp; done) | (simp [*]; done)), H', ⟨by have := HK1.out; omega⟩, ⟨by (with_reducible repeat (first | refine blk_drewN ?_ _ | refine blk_drew ?_ | refine blk_alloc ?_ _)); exact BK134.out⟩, ⟨by repeat (first | (with_reducible first | exact HB.out | apply below_alloc | apply pw_below_drewN | apply below_drew1 | refine below_set ?_ GE134.out) | exact HB.out)⟩⟩
            · rw [if_neg c8] at H
              have c8b0 : decide (a1 < x8_1) = false := decide_eq_false c8
              clear c8
              have H' := Aside0.mk H
              clear H
              have hcz10_0 : wr.cell? ⟨gb134, 0, none⟩ = some (.int .i64 a0_0) := (blk_cell BK134.out 0).trans rfl
              have hcz10_1 : wr.cell? ⟨gb134, 1, none⟩ = some (.slice A0_1 l0_1.length c0_1) := (blk_cell BK134.out 1).trans rfl
              have hcz10_2 : wr.cell? ⟨gb134, 2, none⟩ = some (.int .i64 a0_2) := (blk_cell BK134.out 2).trans rfl
              have hcz10_3 : wr.cell? ⟨gb134, 3, none⟩ = some (.int .i64 a0_3) := (blk_cell BK134.out 3).trans rfl
              have hcz10_4 : wr.cell? ⟨gb134, 4, none⟩ = some (.int .i64 a0_4) := (blk_cell BK134.out 4).trans rfl
              have hcz10_5 : wr.cell? ⟨gb134, 5, none⟩ = some (.int .i64 a0_5) := (blk_cell BK134.out 5).trans rfl
              have hcz10_6 : wr.cell? ⟨gb134, 6, none⟩ = some (.int .i64 a0_6) := (blk_cell BK134.out 6).trans rfl
              have hcz10_7 : wr.cell? ⟨gb134, 7, none⟩ = some (.int .i64 a0_7) := (blk_cell BK134.out 7).trans rfl
              have hcz10_8 : wr.cell? ⟨gb134, 8, none⟩ = some (.int .i64 a0_8) := (blk_cell BK134.out 8).trans rfl
              have hcz10_9 : wr.cell? ⟨gb134, 9, none⟩ = some (.int .i64 a0_9) := (blk_cell BK134.out 9).trans rfl
              have hcz10_10 : wr.cell? ⟨gb134, 10, none⟩ = some (.int .i64 a0_10) := (blk_cell BK134.out 10).trans rfl
              have hcz10_11 : wr.cell? ⟨gb134, 11, none⟩ = some (.int .i64 a0_11) := (blk_cell BK134.out 11).trans rfl
              have hcz10_12 : wr.cell? ⟨gb134, 12, none⟩ = some (.int .u32 a0_12) := (blk_cell BK134.out 12).trans rfl
              have hcz10_13 : wr.cell? ⟨gb134, 13, none⟩ = some (.int .i64 a0_13) := (blk_cell BK134.out 13).trans rfl
              have hcz10_14 : wr.cell? ⟨gb134, 14, none⟩ = some (.int .i64 a0_14) := (blk_cell BK134.out 14).trans rfl
              have hcz10_15 : wr.cell? ⟨gb134, 15, none⟩ = some (.int .u32 a0_15) := (blk_cell BK134.out 15).trans rfl
              have hcz10_16 : wr.cell? ⟨gb134, 16, none⟩ = some (.int .i64 a0_16) := (blk_cell BK134.out 16).trans rfl
              have hcz10_17 : wr.cell? ⟨gb134, 17, none⟩ = some (.int .i64 a0_17) := (blk_cell BK134.out 17).trans rfl
              have hcz10_18 : wr.cell? ⟨gb134, 18, none⟩ = some (.int .u32 a0_18) := (blk_cell BK134.out 18).trans rfl
              have hcz10_19 : wr.cell? ⟨gb134, 19, none⟩ = some (.int .i64 a0_19) := (blk_cell BK134.out 19).trans rfl
              have hcz10_20 : wr.cell? ⟨gb134, 20, none⟩ = some (.int .i64 a0_20) := (blk_cell BK134.out 20).trans rfl
              have hcz10_21 : wr.cell? ⟨gb134, 21, none⟩ = some (.int .u32 a0_21) := (blk_cell BK134.out 21).trans rfl
              have hcz10_22 : wr.cell? ⟨gb134, 22, none⟩ = some (.int .i64 a0_22) := (blk_cell BK134.out 22).trans rfl
              have hcz10_23 : wr.cell? ⟨gb134, 23, none⟩ = some (.int .i64 a0_23) := (blk_cell BK134.out 23).trans rfl
              have hcz10_24 : wr.cell? ⟨gb134, 24, none⟩ = some (.int .i64 a0_24) := (blk_cell BK134.out 24).trans rfl
              have hcz10_25 : wr.cell? ⟨gb134, 25, none⟩ = some (.bool a0_25) := (blk_cell BK134.out 25).trans rfl
              have hcz10_26 : wr.cell? ⟨gb134, 26, none⟩ = some (.bool a0_26) := (blk_cell BK134.out 26).trans rfl
              have hcz10_27 : wr.cell? ⟨gb134, 27, none⟩ = some (.int .i64 a0_27) := (blk_cell BK134.out 27).trans rfl
              have hcz10_28 : wr.cell? ⟨gb134, 28, none⟩ = some (.int .i64 a0_28) := (blk_cell BK134.out 28).trans rfl
              have hcz10_29 : wr.cell? ⟨gb134, 29, none⟩ = some (.bool a0_29) := (blk_cell BK134.out 29).trans rfl
              have hcz10_30 : wr.cell? ⟨gb134, 30, none⟩ = some (.bool a0_30) := (blk_cell BK134.out 30).trans rfl
              have hcz10_31 : wr.cell? ⟨gb134, 31, none⟩ = some (.slice A0_31 l0_31.length c0_31) := (blk_cell BK134.out 31).trans rfl
              have hcz10_32 : wr.cell? ⟨gb134, 32, none⟩ = some (.int .i64 a0_32) := (blk_cell BK134.out 32).trans rfl
              have hcz10_33 : wr.cell? ⟨gb134, 33, none⟩ = some (.int .i64 a0_33) := (blk_cell BK134.out 33).trans rfl
              have hfz10_0 := blk_frozen BK134.out 0
              have hfz10_1 := blk_frozen BK134.out 1
              have hfz10_2 := blk_frozen BK134.out 2
              have hfz10_3 := blk_frozen BK134.out 3
              have hfz10_4 := blk_frozen BK134.out 4
              have hfz10_5 := blk_frozen BK134.out 5
              have hfz10_6 := blk_frozen BK134.out 6
              have hfz10_7 := blk_frozen BK134.out 7
              have hfz10_8 := blk_frozen BK134.out 8
              have hfz10_9 := blk_frozen BK134.out 9
              have hfz10_10 := blk_frozen BK134.out 10
              have hfz10_11 := blk_frozen BK134.out 11
              have hfz10_12 := blk_frozen BK134.out 12
              have hfz10_13 := blk_frozen BK134.out 13
              have hfz10_14 := blk_frozen BK134.out 14
              have hfz10_15 := blk_frozen BK134.out 15
              have hfz10_16 := blk_frozen BK134.out 16
              have hfz10_17 := blk_frozen BK134.out 17
              have hfz10_18 := blk_frozen BK134.out 18
              have hfz10_19 := blk_frozen BK134.out 19
              have hfz10_20 := blk_frozen BK134.out 20
              have hfz10_21 := blk_frozen BK134.out 21
              have hfz10_22 := blk_frozen BK134.out 22
              have hfz10_23 := blk_frozen BK134.out 23
              have hfz10_24 := blk_frozen BK134.out 24
              have hfz10_25 := blk_frozen BK134.out 25
              have hfz10_26 := blk_frozen BK134.out 26
              have hfz10_27 := blk_frozen BK134.out 27
              have hfz10_28 := blk_frozen BK134.out 28
              have hfz10_29 := blk_frozen BK134.out 29
              have hfz10_30 := blk_frozen BK134.out 30
              have hfz10_31 := blk_frozen BK134.out 31
              have hfz10_32 := blk_frozen BK134.out 32
              have hfz10_33 := blk_frozen BK134.out 33
              have p135 : 0 ≤ (x8_1 : Int) := of_decide_eq_true (by first | (with_reducible assumption) | assumption)
              have q135 : x8_1 < (l0_31.length : Int) := of_decide_eq_true (by first | (with_reducible assumption) | assumption)
              obtain ⟨ad135, e135, hx135_0⟩ := Kd.at_int HR0_31.out x8_1 p135 q135
              cases e135
              replace hx135_0 := (HB.out.cell (World.block_lt_of_cell? w _ hx135_0)).trans hx135_0
              replace p135 := eq_true p135
              replace q135 := eq_true q135
              go_wp2
              go_roundg k1
              case measure => have := HK1.out; omega
              case rel => exact ⟨(wrap64 (x7_1 + (rd l0_31 x8_1))), (wrap64 (x8_1 + 1)), (by first | rfl | (simp; done) | (simp [*]; done)), (by first | rfl | (simp; done) | (simp [*]; done)), H', ⟨by have := HK1.out; omega⟩, ⟨by (with_reducible repeat (first | refine blk_drewN ?_ _ | refine blk_drew ?_ | refine blk_alloc ?_ _)); exact BK134.out⟩, ⟨by repeat (first | (with_reducible first | exact HB.out | apply below_alloc | apply pw_below_drewN | apply below_drew1 | refine below_set ?_ GE134.out) | exact HB.out)⟩⟩
          · rw [if_neg c7] at H
            exact absurd H (by simp)
        · rw [if_neg c6] at H
          exact absurd H (by simp)
      · rw [if_neg c5] at H
        have c5b0 : decide (x8_1 < a2) = false := decide_eq_false c5
        clear c5
        obtain rfl := Option.some.inj H
        go_wp2
        go_ret
        exact ⟨by first | rfl | (simp [errW_none, errW_some] <;> rfl) | (simp [*, errW_none, errW_some] <;> rfl), by repeat (first | (with_reducible first | exact HB.out | apply below_alloc | apply pw_below_drewN | apply below_drew1 | refine below_set ?_ GE134.out) | exact HB.out)⟩

/-! ### purflingref08_Most: function 23 -/
def purflingref08_Most.f (k : Nat) (a0_0 : Int) (l0_1 : List Int) (a0_2 : Int) (a0_3 : Int) (a0_4 : Int) (a0_5 : Int) (a0_6 : Int) (a0_7 : Int) (a0_8 : Int) (a0_9 : Int) (a0_10 : Int) (a0_11 : Int) (a0_12 : Int) (a0_13 : Int) (a0_14 : Int) (a0_15 : Int) (a0_16 : Int) (a0_17 : Int) (a0_18 : Int) (a0_19 : Int) (a0_20 : Int) (a0_21 : Int) (a0_22 : Int) (a0_23 : Int) (a0_24 : Int) (a0_25 : Bool) (a0_26 : Bool) (a0_27 : Int) (a0_28 : Int) (a0_29 : Bool) (a0_30 : Bool) (l0_31 : List Int) (a0_32 : Int) (a0_33 : Int) : Option (Int) := (purflingref08_Wide.f k a0_0 l0_1 a0_2 a0_3 a0_4 a0_5 a0_6 a0_7 a0_8 a0_9 a0_10 a0_11 a0_12 a0_13 a0_14 a0_15 a0_16 a0_17 a0_18 a0_19 a0_20 a0_21 a0_22 a0_23 a0_24 a0_25 a0_26 a0_27 a0_28 a0_29 a0_30 l0_31 a0_32 a0_33 0 (l0_31.length : Int)).bind fun t137 => (some t137)
theorem purflingref08_Most.mono : ∀ a0 a1 a2 a3 a4 a5 a6 a7 a8 a9 a10 a11 a12 a13 a14 a15 a16 a17 a18 a19 a20 a21 a22 a23 a24 a25 a26 a27 a28 a29 a30 a31 a32 a33 k, LeO (purflingref08_Most.f k a0 a1 a2 a3 a4 a5 a6 a7 a8 a9 a10 a11 a12 a13 a14 a15 a16 a17 a18 a19 a20 a21 a22 a23 a24 a25 a26 a27 a28 a29 a30 a31 a32 a33) (purflingref08_Most.f (k + 1) a0 a1 a2 a3 a4 a5 a6 a7 a8 a9 a10 a11 a12 a13 a14 a15 a16 a17 a18 a19 a20 a21 a22 a23 a24 a25 a26 a27 a28 a29 a30 a31 a32 a33) := by
  intro a0 a1 a2 a3 a4 a5 a6 a7 a8 a9 a10 a11 a12 a13 a14 a15 a16 a17 a18 a19 a20 a21 a22 a23 a24 a25 a26 a27 a28 a29 a30 a31 a32 a33 k
  unfold purflingref08_Most.f
  repeat' first
      | (with_reducible exact purflingref08_Wide.mono _ _ _ _ _ _ _ _ _ _ _ _ _ _ _ _ _ _ _ _ _ _ _ _ _ _ _ _ _ _ _ _ _ _ _ _ _)
      | (with_reducible exact LeO.refl _)
      | (with_reducible exact LeO.none _)
      | (with_reducible refine LeO.ite ?_ ?_)
      | (with_reducible refine LeO.bind ?_ (fun _ => ?_))
      | exact purflingref08_Wide.mono _ _ _ _ _ _ _ _ _ _ _ _ _ _ _ _ _ _ _ _ _ _ _ _ _ _ _ _ _ _ _ _ _ _ _ _ _
      | exact LeO.none _
      | refine LeO.ite ?_ ?_
      | refine LeO.bind ?_ (fun _ => ?_)
set_option maxHeartbeats 8000000 in
set_option maxRecDepth 100000 in
theorem purflingref08_Most.calls (k : Nat) (a0_0 : Int) (A0_1 : Option Addr) (c0_1 : Nat) (l0_1 : List Int) (a0_2 : Int) (a0_3 : Int) (a0_4 : Int) (a0_5 : Int) (a0_6 : Int) (a0_7 : Int) (a0_8 : Int) (a0_9 : Int) (a0_10 : Int) (a0_11 : Int) (a0_12 : Int) (a0_13 : Int) (a0_14 : Int) (a0_15 : Int) (a0_16 : Int) (a0_17 : Int) (a0_18 : Int) (a0_19 : Int) (a0_20 : Int) (a0_21 : Int) (a0_22 : Int) (a0_23 : Int) (a0_24 : Int) (a0_25 : Bool) (a0_26 : Bool) (a0_27 : Int) (a0_28 : Int) (a0_29 : Bool) (a0_30 : Bool) (A0_31 : Option Addr) (c0_31 : Nat) (l0_31 : List Int) (a0_32 : Int) (a0_33 : Int) (r : Int) (w : World) (hr0_1 : Kd.C (Kd.int .i64) w A0_1 l0_1.length l0_1) (hc0_1 : l0_1.length ≤ c0_1) (hr0_31 : Kd.C (Kd.int .i64) w A0_31 l0_31.length l0_31) (hc0_31 : l0_31.length ≤ c0_31) (h : purflingref08_Most.f k a0_0 l0_1 a0_2 a0_3 a0_4 a0_5 a0_6 a0_7 a0_8 a0_9 a0_10 a0_11 a0_12 a0_13 a0_14 a0_15 a0_16 a0_17 a0_18 a0_19 a0_20 a0_21 a0_22 a0_23 a0_24 a0_25 a0_26 a0_27 a0_28 a0_29 a0_30 l0_31 a0_32 a0_33 = some r) :
    Calls Try.prog 23 #[.agg #[.int .i64 a0_0, .slice A0_1 l0_1.length c0_1, .int .i64 a0_2, .int .i64 a0_3, .int .i64 a0_4, .int .i64 a0_5, .int .i64 a0_6, .int .i64 a0_7, .int .i64 a0_8, .int .i64 a0_9, .int .i64 a0_10, .int .i64 a0_11, .int .u32 a0_12, .int .i64 a0_13, .int .i64 a0_14, .int .u32 a0_15, .int .i64 a0_16, .int .i64 a0_17, .int .u32 a0_18, .int .i64 a0_19, .int .i64 a0_20, .int .u32 a0_21, .int .i64 a0_22, .int .i64 a0_23, .int .i64 a0_24, .bool a0_25, .bool a0_26, .int .i64 a0_27, .int .i64 a0_28, .bool a0_29, .bool a0_30, .slice A0_31 l0_31.length c0_31, .int .i64 a0_32, .int .i64 a0_33]] w fun e w' => e = .returned (.int .i64 r) ∧ Below w.heap.size w w' := by
  have hu35 := Try.underlying35
  have HR0_1 := Aside0.mk hr0_1
  have HC0_1 := Aside0.mk hc0_1
  clear hr0_1 hc0_1
  have HR0_31 := Aside0.mk hr0_31
  have HC0_31 := Aside0.mk hc0_31
  clear hr0_31 hc0_31
  have HB := Aside0.mk (Below.refl w.heap.size w)
  have H : ((purflingref08_Wide.f k a0_0 l0_1 a0_2 a0_3 a0_4 a0_5 a0_6 a0_7 a0_8 a0_9 a0_10 a0_11 a0_12 a0_13 a0_14 a0_15 a0_16 a0_17 a0_18 a0_19 a0_20 a0_21 a0_22 a0_23 a0_24 a0_25 a0_26 a0_27 a0_28 a0_29 a0_30 l0_31 a0_32 a0_33 0 (l0_31.length : Int)).bind fun t137 => (some t137)) = some r := h
  clear h
  replace H := Option.bind_eq_some_iff.mp H
  obtain ⟨t137, A20, H⟩ := H
  replace H : (some t137) = some r := H
  have A2 := Aside0.mk A20
  clear A20
  obtain rfl := Option.some.inj H
  go_enter Try.func23, Try.ntmps23
  go_wp2_with (first | ((with_reducible refine gate_dst (N := 3) rfl ?_); (try (refine gate_guard (by rfl) ?_; dsimp only)); refine wpList_load_mid rfl 35 (.tmp 1) rfl gb136 0 rfl _ _ (range_of_blk_YteckkphbgfmolaaK7 (by (with_reducible repeat (first | refine blk_drewN ?_ _ | refine blk_drew ?_ | refine blk_alloc ?_ _)); exact BK136.out)) Try.underlying35 rfl (by kernel_rfl) ?_) | ((with_reducible refine gate_dst (N := 1) rfl ?_); refine box_event ?hg (N := 1) ?hd (cs := #[.int .i64 a0_0, .slice A0_1 l0_1.length c0_1, .int .i64 a0_2, .int .i64 a0_3, .int .i64 a0_4, .int .i64 a0_5, .int .i64 a0_6, .int .i64 a0_7, .int .i64 a0_8, .int .i64 a0_9, .int .i64 a0_10, .int .i64 a0_11, .int .u32 a0_12, .int .i64 a0_13, .int .i64 a0_14, .int .u32 a0_15, .int .i64 a0_16, .int .i64 a0_17, .int .u32 a0_18, .int .i64 a0_19, .int .i64 a0_20, .int .u32 a0_21, .int .i64 a0_22, .int .i64 a0_23, .int .i64 a0_24, .bool a0_25, .bool a0_26, .int .i64 a0_27, .int .i64 a0_28, .bool a0_29, .bool a0_30, .slice A0_31 l0_31.length c0_31, .int .i64 a0_32, .int .i64 a0_33]) (t := 35) ?hr ?_; (case hd => rfl); (case hg => rfl); (case hr => first | (go_simp; done) | (go_simp; rfl)); intro gb136 hg w3 hbox hb; have n0_ := Aside0.mk (below_step (by repeat (first | (with_reducible first | exact HB.out | apply below_alloc | apply pw_below_drewN | apply below_drew1) | exact HB.out)) hb); have n1_ := Aside0.mk (hbox); have n2_ := Aside0.mk ((by rw [hg]; exact (below_size (by repeat (first | (with_reducible first | exact HB.out | apply below_alloc | apply pw_below_drewN | apply below_drew1) | exact HB.out))) : w.heap.size ≤ gb136)); have n3_ := Aside0.mk ((by rw [hg]; exact (below_size (by repeat (first | (with_reducible first | exact HB.out | apply below_alloc | apply pw_below_drewN | apply below_drew1) | exact HB.out))) : w.heap.size ≤ gb136)); clear HB; have HB := n0_; have BK136 := n1_; have GW136 := n2_; have GE136 := n3_; clear n0_ n1_ n2_ n3_; clear hb hbox hg; have hcz4_0 : w3.cell? ⟨gb136, 0, none⟩ = some (.int .i64 a0_0) := (blk_cell BK136.out 0).trans rfl; have hcz4_1 : w3.cell? ⟨gb136, 1, none⟩ = some (.slice A0_1 l0_1.length c0_1) := (blk_cell BK136.out 1).trans rfl; have hcz4_2 : w3.cell? ⟨gb136, 2, none⟩ = some (.int .i64 a0_2) := (blk_cell BK136.out 2).trans rfl; have hcz4_3 : w3.cell? ⟨gb136, 3, none⟩ = some (.int .i64 a0_3) := (blk_cell BK136.out 3).trans rfl; have hcz4_4 : w3.cell? ⟨gb136, 4, none⟩ = some (.int .i64 a0_4) := (blk_cell BK136.out 4).trans rfl; have hcz4_5 : w3.cell? ⟨gb136, 5, none⟩ = some (.int .i64 a0_5) := (blk_cell BK136.out 5).trans rfl; have hcz4_6 : w3.cell? ⟨gb136, 6, none⟩ = some (.int .i64 a0_6) := (blk_cell BK136.out 6).trans rfl; have hcz4_7 : w3.cell? ⟨gb136, 7, none⟩ = some (.int .i64 a0_7) := (blk_cell BK136.out 7).trans rfl; have hcz4_8 : w3.cell? ⟨gb136, 8, none⟩ = some (.int .i64 a0_8) := (blk_cell BK136.out 8).trans rfl; have hcz4_9 : w3.cell? ⟨gb136, 9, none⟩ = some (.int .i64 a0_9) := (blk_cell BK136.out 9).trans rfl; have hcz4_10 : w3.cell? ⟨gb136, 10, none⟩ = some (.int .i64 a0_10) := (blk_cell BK136.out 10).trans rfl; have hcz4_11 : w3.cell? ⟨gb136, 11, none⟩ = some (.int .i64 a0_11) := (blk_cell BK136.out 11).trans rfl; have hcz4_12 : w3.cell? ⟨gb136, 12, none⟩ = some (.int .u32 a0_12) := (blk_cell BK136.out 12).trans rfl; have hcz4_13 : w3.cell? ⟨gb136, 13, none⟩ = some (.int .i64 a0_13) := (blk_cell BK136.out 13).trans rfl; have hcz4_14 : w3.cell? ⟨gb136, 14, none⟩ = some (.int .i64 a0_14) := (blk_cell BK136.out 14).trans rfl; have hcz4_15 : w3.cell? ⟨gb136, 15, none⟩ = some (.int .u32 a0_15) := (blk_cell BK136.out 15).trans rfl; have hcz4_16 : w3.cell? ⟨gb136, 16, none⟩ = some (.int .i64 a0_16) := (blk_cell BK136.out 16).trans rfl; have hcz4_17 : w3.cell? ⟨gb136, 17, none⟩ = some (.int .i64 a0_17) := (blk_cell BK136.out 17).trans rfl; have hcz4_18 : w3.cell? ⟨gb136, 18, none⟩ = some (.int .u32 a0_18) := (blk_cell BK136.out 18).trans rfl; have hcz4_19 : w3.cell? ⟨gb136, 19, none⟩ = some (.int .i64 a0_19) := (blk_cell BK136.out 19).trans rfl; have hcz4_20 : w3.cell? ⟨gb136, 20, none⟩ = some (.int .i64 a0_20) := (blk_cell BK136.out 20).trans rfl; have hcz4_21 : w3.cell? ⟨gb136, 21, none⟩ = some (.int .u32 a0_21) := (blk_cell BK136.out 21).trans rfl; have hcz4_22 : w3.cell? ⟨gb136, 22, none⟩ = some (.int .i64 a0_22) := (blk_cell BK136.out 22).trans rfl; have hcz4_23 : w3.cell? ⟨gb136, 23, none⟩ = some (.int .i64 a0_23) := (blk_cell BK136.out 23).trans rfl; have hcz4_24 : w3.cell? ⟨gb136, 24, none⟩ = some (.int .i64 a0_24) := (blk_cell BK136.out 24).trans rfl; have hcz4_25 : w3.cell? ⟨gb136, 25, none⟩ = some (.bool a0_25) := (blk_cell BK136.out 25).trans rfl; have hcz4_26 : w3.cell? ⟨gb136, 26, none⟩ = some (.bool a0_26) := (blk_cell BK136.out 26).trans rfl; have hcz4_27 : w3.cell? ⟨gb136, 27, none⟩ = some (.int .i64 a0_27) := (blk_cell BK136.out 27).trans rfl; have hcz4_28 : w3.cell? ⟨gb136, 28, none⟩ = some (.int .i64 a0_28) := (blk_cell BK136.out 28).trans rfl; have hcz4_29 : w3.cell? ⟨gb136, 29, none⟩ = some (.bool a0_29) := (blk_cell BK136.out 29).trans rfl; have hcz4_30 : w3.cell? ⟨gb136, 30, none⟩ = some (.bool a0_30) := (blk_cell BK136.out 30).trans rfl; have hcz4_31 : w3.cell? ⟨gb136, 31, none⟩ = some (.slice A0_31 l0_31.length c0_31) := (blk_cell BK136.out 31).trans rfl; have hcz4_32 : w3.cell? ⟨gb136, 32, none⟩ = some (.int .i64 a0_32) := (blk_cell BK136.out 32).trans rfl; have hcz4_33 : w3.cell? ⟨gb136, 33, none⟩ = some (.int .i64 a0_33) := (blk_cell BK136.out 33).trans rfl; have hfz4_0 := blk_frozen BK136.out 0; have hfz4_1 := blk_frozen BK136.out 1; have hfz4_2 := blk_frozen BK136.out 2; have hfz4_3 := blk_frozen BK136.out 3; have hfz4_4 := blk_frozen BK136.out 4; have hfz4_5 := blk_frozen BK136.out 5; have hfz4_6 := blk_frozen BK136.out 6; have hfz4_7 := blk_frozen BK136.out 7; have hfz4_8 := blk_frozen BK136.out 8; have hfz4_9 := blk_frozen BK136.out 9; have hfz4_10 := blk_frozen BK136.out 10; have hfz4_11 := blk_frozen BK136.out 11; have hfz4_12 := blk_frozen BK136.out 12; have hfz4_13 := blk_frozen BK136.out 13; have hfz4_14 := blk_frozen BK136.out 14; have hfz4_15 := blk_frozen BK136.out 15; have hfz4_16 := blk_frozen BK136.out 16; have hfz4_17 := blk_frozen BK136.out 17; have hfz4_18 := blk_frozen BK136.out 18; have hfz4_19 := blk_frozen BK136.out 19; have hfz4_20 := blk_frozen BK136.out 20; have hfz4_21 := blk_frozen BK136.out 21; have hfz4_22 := blk_frozen BK136.out 22; have hfz4_23 := blk_frozen BK136.out 23; have hfz4_24 := blk_frozen BK136.out 24; have hfz4_25 := blk_frozen BK136.out 25; have hfz4_26 := blk_frozen BK136.out 26; have hfz4_27 := blk_frozen BK136.out 27; have hfz4_28 := blk_frozen BK136.out 28; have hfz4_29 := blk_frozen BK136.out 29; have hfz4_30 := blk_frozen BK136.out 30; have hfz4_31 := blk_frozen BK136.out 31; have hfz4_32 := blk_frozen BK136.out 32; have hfz4_33 := blk_frozen BK136.out 33) | ((with_reducible refine gate_callee (f := 24) rfl ?_); refine goesL_ (some 7) rfl rfl Try.func24 (by kernel_rfl) rfl #[.agg #[.int .i64 a0_0, .slice A0_1 l0_1.length c0_1, .int .i64 a0_2, .int .i64 a0_3, .int .i64 a0_4, .int .i64 a0_5, .int .i64 a0_6, .int .i64 a0_7, .int .i64 a0_8, .int .i64 a0_9, .int .i64 a0_10, .int .i64 a0_11, .int .u32 a0_12, .int .i64 a0_13, .int .i64 a0_14, .int .u32 a0_15, .int .i64 a0_16, .int .i64 a0_17, .int .u32 a0_18, .int .i64 a0_19, .int .i64 a0_20, .int .u32 a0_21, .int .i64 a0_22, .int .i64 a0_23, .int .i64 a0_24, .bool a0_25, .bool a0_26, .int .i64 a0_27, .int .i64 a0_28, .bool a0_29, .bool a0_30, .slice A0_31 l0_31.length c0_31, .int .i64 a0_32, .int .i64 a0_33], .int .i64 0, .int .i64 (l0_31.length : Int)] rfl (by (try simp only [List.map_toArray, List.map_cons, List.map_nil]); first | done | rfl | (simp only [List.length_drop, List.length_take]; rfl)) ?_; (with_reducible refine (purflingref08_Wide.calls k a0_0 _ _ l0_1 a0_2 a0_3 a0_4 a0_5 a0_6 a0_7 a0_8 a0_9 a0_10 a0_11 a0_12 a0_13 a0_14 a0_15 a0_16 a0_17 a0_18 a0_19 a0_20 a0_21 a0_22 a0_23 a0_24 a0_25 a0_26 a0_27 a0_28 a0_29 a0_30 _ _ l0_31 a0_32 a0_33 0 (l0_31.length : Int) t137 _ ?side1 ?side2 ?side3 ?side4 A2.out).mono ?_); (case side1 => repeat (first | exact (Kd.C_below HR0_1.out HB.out) | (with_reducible refine Kd.C_alloc ?_ _) | (with_reducible refine Kd.C_drewN ?_ _) | (with_reducible refine Kd.C_drew ?_))); (case side2 => exact HC0_1.out); (case side3 => repeat (first | exact (Kd.C_below HR0_31.out HB.out) | (with_reducible refine Kd.C_alloc ?_ _) | (with_reducible refine Kd.C_drewN ?_ _) | (with_reducible refine Kd.C_drew ?_))); (case side4 => exact HC0_31.out); rintro e w5 ⟨rfl, hb⟩; refine ⟨_, rfl, ?_⟩; have n0_ := Aside0.mk (blk_below (g := gb136) (o := .cells #[.int .i64 a0_0, .slice A0_1 l0_1.length c0_1, .int .i64 a0_2, .int .i64 a0_3, .int .i64 a0_4, .int .i64 a0_5, .int .i64 a0_6, .int .i64 a0_7, .int .i64 a0_8, .int .i64 a0_9, .int .i64 a0_10, .int .i64 a0_11, .int .u32 a0_12, .int .i64 a0_13, .int .i64 a0_14, .int .u32 a0_15, .int .i64 a0_16, .int .i64 a0_17, .int .u32 a0_18, .int .i64 a0_19, .int .i64 a0_20, .int .u32 a0_21, .int .i64 a0_22, .int .i64 a0_23, .int .i64 a0_24, .bool a0_25, .bool a0_26, .int .i64 a0_27, .int .i64 a0_28, .bool a0_29, .bool a0_30, .slice A0_31 l0_31.length c0_31, .int .i64 a0_32, .int .i64 a0_33] 35 (0, 0)) (by (with_reducible repeat (first | refine blk_drewN ?_ _ | refine blk_drew ?_ | refine blk_alloc ?_ _)); exact BK136.out) hb); have n1_ := Aside0.mk (below_step (by repeat (first | (with_reducible first | exact HB.out | apply below_alloc | apply pw_below_drewN | apply below_drew1 | refine below_set ?_ GE136.out) | exact HB.out)) hb); clear BK136; clear HB; have BK136 := n0_; have HB := n1_; clear n0_ n1_; (try clear hb); (try clear hb2); (try clear hk); (try clear hi)))
  go_ret
  exact ⟨by first | rfl | (simp [errW_none, errW_some] <;> rfl) | (simp [*, errW_none, errW_some] <;> rfl), by repeat (first | (with_reducible first | exact HB.out | apply below_alloc | apply pw_below_drewN | apply below_drew1 | refine below_set ?_ GE136.out) | exact HB.out)⟩

-- by hand: function 10 (purflinglaw08_shown)

-- by hand: function 21 (lines_Most)

end Go.Proofs.Yteckkphbgfmolaa.K
