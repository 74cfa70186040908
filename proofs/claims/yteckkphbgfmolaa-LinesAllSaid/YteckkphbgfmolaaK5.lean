-- PRINTED by print.py (a twelfth state) out of the translation. Not trusted: Lean checks it.
import Derived.Test.YteckkphbgfmolaaK0
namespace Go.Proofs.Yteckkphbgfmolaa.K
open Go.RowKit Go.Proofs.YteckkphbgfmolaaW.PrintWords Go.Proofs.YteckkphbgfmolaaW.PrintLast Go.Proofs.YteckkphbgfmolaaW.PrintMore
attribute [local go_sem] max2_int min2_int max_two min_two max_three min_three max_four min_four   -- for this text's walks alone
set_option linter.unusedVariables false
set_option linter.unusedSimpArgs false

/-! ### purflingref08_Least: function 22 -/
def purflingref08_Least.l0 : Nat → Int → Int → Int → List Int → Int → Int → Int → Int → Int → Int → Int → Int → Int → Int → Int → Int → Int → Int → Int → Int → Int → Int → Int → Int → Int → Int → Int → Bool → Bool → Int → Int → Bool → Bool → List Int → Int → Int → Option (Int)
  | 0, _, _, _, _, _, _, _, _, _, _, _, _, _, _, _, _, _, _, _, _, _, _, _, _, _, _, _, _, _, _, _, _, _, _, _, _ => none
  | k + 1, x3, x4, x116000, x116001, x116002, x116003, x116004, x116005, x116006, x116007, x116008, x116009, x116010, x116011, x116012, x116013, x116014, x116015, x116016, x116017, x116018, x116019, x116020, x116021, x116022, x116023, x116024, x116025, x116026, x116027, x116028, x116029, x116030, x116031, x116032, x116033 => if x4 < (x116031.length : Int) then (if 0 ≤ x4 then (purflingref08_Least.l0 k (mx x3 (rd x116031 x4)) (wrap64 (x4 + 1)) x116000 x116001 x116002 x116003 x116004 x116005 x116006 x116007 x116008 x116009 x116010 x116011 x116012 x116013 x116014 x116015 x116016 x116017 x116018 x116019 x116020 x116021 x116022 x116023 x116024 x116025 x116026 x116027 x116028 x116029 x116030 x116031 x116032 x116033) else (none)) else (some x3)
def purflingref08_Least.f (k : Nat) (a0_0 : Int) (l0_1 : List Int) (a0_2 : Int) (a0_3 : Int) (a0_4 : Int) (a0_5 : Int) (a0_6 : Int) (a0_7 : Int) (a0_8 : Int) (a0_9 : Int) (a0_10 : Int) (a0_11 : Int) (a0_12 : Int) (a0_13 : Int) (a0_14 : Int) (a0_15 : Int) (a0_16 : Int) (a0_17 : Int) (a0_18 : Int) (a0_19 : Int) (a0_20 : Int) (a0_21 : Int) (a0_22 : Int) (a0_23 : Int) (a0_24 : Int) (a0_25 : Bool) (a0_26 : Bool) (a0_27 : Int) (a0_28 : Int) (a0_29 : Bool) (a0_30 : Bool) (l0_31 : List Int) (a0_32 : Int) (a0_33 : Int) : Option (Int) := purflingref08_Least.l0 k 0 0 a0_0 l0_1 a0_2 a0_3 a0_4 a0_5 a0_6 a0_7 a0_8 a0_9 a0_10 a0_11 a0_12 a0_13 a0_14 a0_15 a0_16 a0_17 a0_18 a0_19 a0_20 a0_21 a0_22 a0_23 a0_24 a0_25 a0_26 a0_27 a0_28 a0_29 a0_30 l0_31 a0_32 a0_33
theorem purflingref08_Least.mono_l : ∀ k, (∀ y0 y1 y2 y3 y4 y5 y6 y7 y8 y9 y10 y11 y12 y13 y14 y15 y16 y17 y18 y19 y20 y21 y22 y23 y24 y25 y26 y27 y28 y29 y30 y31 y32 y33 y34 y35, LeO (purflingref08_Least.l0 k y0 y1 y2 y3 y4 y5 y6 y7 y8 y9 y10 y11 y12 y13 y14 y15 y16 y17 y18 y19 y20 y21 y22 y23 y24 y25 y26 y27 y28 y29 y30 y31 y32 y33 y34 y35) (purflingref08_Least.l0 (k + 1) y0 y1 y2 y3 y4 y5 y6 y7 y8 y9 y10 y11 y12 y13 y14 y15 y16 y17 y18 y19 y20 y21 y22 y23 y24 y25 y26 y27 y28 y29 y30 y31 y32 y33 y34 y35))
  | 0 => fun _ _ _ _ _ _ _ _ _ _ _ _ _ _ _ _ _ _ _ _ _ _ _ _ _ _ _ _ _ _ _ _ _ _ _ _ r h => by simp [purflingref08_Least.l0] at h
  | k + 1 => by
    have ih0 := purflingref08_Least.mono_l k
    · intro y0 y1 y2 y3 y4 y5 y6 y7 y8 y9 y10 y11 y12 y13 y14 y15 y16 y17 y18 y19 y20 y21 y22 y23 y24 y25 y26 y27 y28 y29 y30 y31 y32 y33 y34 y35
      unfold purflingref08_Least.l0
      repeat' first
      | (with_reducible exact ih0 _ _ _ _ _ _ _ _ _ _ _ _ _ _ _ _ _ _ _ _ _ _ _ _ _ _ _ _ _ _ _ _ _ _ _ _)
      | (with_reducible exact LeO.refl _)
      | (with_reducible exact LeO.none _)
      | (with_reducible refine LeO.ite ?_ ?_)
      | (with_reducible refine LeO.bind ?_ (fun _ => ?_))
      | exact ih0 _ _ _ _ _ _ _ _ _ _ _ _ _ _ _ _ _ _ _ _ _ _ _ _ _ _ _ _ _ _ _ _ _ _ _ _
      | exact LeO.none _
      | refine LeO.ite ?_ ?_
      | refine LeO.bind ?_ (fun _ => ?_)
theorem purflingref08_Least.mono : ∀ a0 a1 a2 a3 a4 a5 a6 a7 a8 a9 a10 a11 a12 a13 a14 a15 a16 a17 a18 a19 a20 a21 a22 a23 a24 a25 a26 a27 a28 a29 a30 a31 a32 a33 k, LeO (purflingref08_Least.f k a0 a1 a2 a3 a4 a5 a6 a7 a8 a9 a10 a11 a12 a13 a14 a15 a16 a17 a18 a19 a20 a21 a22 a23 a24 a25 a26 a27 a28 a29 a30 a31 a32 a33) (purflingref08_Least.f (k + 1) a0 a1 a2 a3 a4 a5 a6 a7 a8 a9 a10 a11 a12 a13 a14 a15 a16 a17 a18 a19 a20 a21 a22 a23 a24 a25 a26 a27 a28 a29 a30 a31 a32 a33) := by
  intro a0 a1 a2 a3 a4 a5 a6 a7 a8 a9 a10 a11 a12 a13 a14 a15 a16 a17 a18 a19 a20 a21 a22 a23 a24 a25 a26 a27 a28 a29 a30 a31 a32 a33 k
  have ih0 := purflingref08_Least.mono_l k
  unfold purflingref08_Least.f
  repeat' first
      | (with_reducible exact ih0 _ _ _ _ _ _ _ _ _ _ _ _ _ _ _ _ _ _ _ _ _ _ _ _ _ _ _ _ _ _ _ _ _ _ _ _)
      | (with_reducible exact LeO.refl _)
      | (with_reducible exact LeO.none _)
      | (with_reducible refine LeO.ite ?_ ?_)
      | (with_reducible refine LeO.bind ?_ (fun _ => ?_))
      | exact ih0 _ _ _ _ _ _ _ _ _ _ _ _ _ _ _ _ _ _ _ _ _ _ _ _ _ _ _ _ _ _ _ _ _ _ _ _
      | exact LeO.none _
      | refine LeO.ite ?_ ?_
      | refine LeO.bind ?_ (fun _ => ?_)
set_option maxHeartbeats 8000000 in
set_option maxRecDepth 100000 in
theorem purflingref08_Least.calls (k : Nat) (a0_0 : Int) (A0_1 : Option Addr) (c0_1 : Nat) (l0_1 : List Int) (a0_2 : Int) (a0_3 : Int) (a0_4 : Int) (a0_5 : Int) (a0_6 : Int) (a0_7 : Int) (a0_8 : Int) (a0_9 : Int) (a0_10 : Int) (a0_11 : Int) (a0_12 : Int) (a0_13 : Int) (a0_14 : Int) (a0_15 : Int) (a0_16 : Int) (a0_17 : Int) (a0_18 : Int) (a0_19 : Int) (a0_20 : Int) (a0_21 : Int) (a0_22 : Int) (a0_23 : Int) (a0_24 : Int) (a0_25 : Bool) (a0_26 : Bool) (a0_27 : Int) (a0_28 : Int) (a0_29 : Bool) (a0_30 : Bool) (A0_31 : Option Addr) (c0_31 : Nat) (l0_31 : List Int) (a0_32 : Int) (a0_33 : Int) (r : Int) (w : World) (hr0_1 : Kd.C (Kd.int .i64) w A0_1 l0_1.length l0_1) (hc0_1 : l0_1.length ≤ c0_1) (hr0_31 : Kd.C (Kd.int .i64) w A0_31 l0_31.length l0_31) (hc0_31 : l0_31.length ≤ c0_31) (h : purflingref08_Least.f k a0_0 l0_1 a0_2 a0_3 a0_4 a0_5 a0_6 a0_7 a0_8 a0_9 a0_10 a0_11 a0_12 a0_13 a0_14 a0_15 a0_16 a0_17 a0_18 a0_19 a0_20 a0_21 a0_22 a0_23 a0_24 a0_25 a0_26 a0_27 a0_28 a0_29 a0_30 l0_31 a0_32 a0_33 = some r) :
    Calls Try.prog 22 #[.agg #[.int .i64 a0_0, .slice A0_1 l0_1.length c0_1, .int .i64 a0_2, .int .i64 a0_3, .int .i64 a0_4, .int .i64 a0_5, .int .i64 a0_6, .int .i64 a0_7, .int .i64 a0_8, .int .i64 a0_9, .int .i64 a0_10, .int .i64 a0_11, .int .u32 a0_12, .int .i64 a0_13, .int .i64 a0_14, .int .u32 a0_15, .int .i64 a0_16, .int .i64 a0_17, .int .u32 a0_18, .int .i64 a0_19, .int .i64 a0_20, .int .u32 a0_21, .int .i64 a0_22, .int .i64 a0_23, .int .i64 a0_24, .bool a0_25, .bool a0_26, .int .i64 a0_27, .int .i64 a0_28, .bool a0_29, .bool a0_30, .slice A0_31 l0_31.length c0_31, .int .i64 a0_32, .int .i64 a0_33]] w fun e w' => e = .returned (.int .i64 r) ∧ Below w.heap.size w w' := by
  have hu35 := Try.underlying35
  have HR0_1 := Aside0.mk hr0_1
  have HC0_1 := Aside0.mk hc0_1
  clear hr0_1 hc0_1
  have HR0_31 := Aside0.mk hr0_31
  have HC0_31 := Aside0.mk hc0_31
  clear hr0_31 hc0_31
  have HB := Aside0.mk (Below.refl w.heap.size w)
  have H : (purflingref08_Least.l0 k 0 0 a0_0 l0_1 a0_2 a0_3 a0_4 a0_5 a0_6 a0_7 a0_8 a0_9 a0_10 a0_11 a0_12 a0_13 a0_14 a0_15 a0_16 a0_17 a0_18 a0_19 a0_20 a0_21 a0_22 a0_23 a0_24 a0_25 a0_26 a0_27 a0_28 a0_29 a0_30 l0_31 a0_32 a0_33) = some r := h
  clear h
  have H' := Aside0.mk H
  clear H
  go_enter Try.func22, Try.ntmps22
  go_wp2_with (first | ((with_reducible refine gate_dst (N := 1) rfl ?_); refine box_event ?hg (N := 1) ?hd (cs := #[.int .i64 a0_0, .slice A0_1 l0_1.length c0_1, .int .i64 a0_2, .int .i64 a0_3, .int .i64 a0_4, .int .i64 a0_5, .int .i64 a0_6, .int .i64 a0_7, .int .i64 a0_8, .int .i64 a0_9, .int .i64 a0_10, .int .i64 a0_11, .int .u32 a0_12, .int .i64 a0_13, .int .i64 a0_14, .int .u32 a0_15, .int .i64 a0_16, .int .i64 a0_17, .int .u32 a0_18, .int .i64 a0_19, .int .i64 a0_20, .int .u32 a0_21, .int .i64 a0_22, .int .i64 a0_23, .int .i64 a0_24, .bool a0_25, .bool a0_26, .int .i64 a0_27, .int .i64 a0_28, .bool a0_29, .bool a0_30, .slice A0_31 l0_31.length c0_31, .int .i64 a0_32, .int .i64 a0_33]) (t := 35) ?hr ?_; (case hd => rfl); (case hg => rfl); (case hr => first | (go_simp; done) | (go_simp; rfl)); intro gb115 hg w2 hbox hb; have n0_ := Aside0.mk (below_step (by repeat (first | (with_reducible first | exact HB.out | apply below_alloc | apply pw_below_drewN | apply below_drew1) | exact HB.out)) hb); have n1_ := Aside0.mk (hbox); have n2_ := Aside0.mk ((by rw [hg]; exact (below_size (by repeat (first | (with_reducible first | exact HB.out | apply below_alloc | apply pw_below_drewN | apply below_drew1) | exact HB.out))) : w.heap.size ≤ gb115)); have n3_ := Aside0.mk ((by rw [hg]; exact (below_size (by repeat (first | (with_reducible first | exact HB.out | apply below_alloc | apply pw_below_drewN | apply below_drew1) | exact HB.out))) : w.heap.size ≤ gb115)); clear HB; have HB := n0_; have BK115 := n1_; have GW115 := n2_; have GE115 := n3_; clear n0_ n1_ n2_ n3_; clear hb hbox hg))
  go_loopg [3, 4] k (fun kq v3 v4 w' => ∃ (x3_1 : Int) (x4_1 : Int), v3 = .int .i64 x3_1 ∧ v4 = .int .i64 x4_1 ∧ Aside0 (purflingref08_Least.l0 kq x3_1 x4_1 a0_0 l0_1 a0_2 a0_3 a0_4 a0_5 a0_6 a0_7 a0_8 a0_9 a0_10 a0_11 a0_12 a0_13 a0_14 a0_15 a0_16 a0_17 a0_18 a0_19 a0_20 a0_21 a0_22 a0_23 a0_24 a0_25 a0_26 a0_27 a0_28 a0_29 a0_30 l0_31 a0_32 a0_33 = some r) ∧ Aside0 (kq ≤ k) ∧ Aside0 (w'.heap[gb115]? = some (.cells #[.int .i64 a0_0, (.slice A0_1 l0_1.length c0_1), .int .i64 a0_2, .int .i64 a0_3, .int .i64 a0_4, .int .i64 a0_5, .int .i64 a0_6, .int .i64 a0_7, .int .i64 a0_8, .int .i64 a0_9, .int .i64 a0_10, .int .i64 a0_11, .int .u32 a0_12, .int .i64 a0_13, .int .i64 a0_14, .int .u32 a0_15, .int .i64 a0_16, .int .i64 a0_17, .int .u32 a0_18, .int .i64 a0_19, .int .i64 a0_20, .int .u32 a0_21, .int .i64 a0_22, .int .i64 a0_23, .int .i64 a0_24, .bool a0_25, .bool a0_26, .int .i64 a0_27, .int .i64 a0_28, .bool a0_29, .bool a0_30, (.slice A0_31 l0_31.length c0_31), .int .i64 a0_32, .int .i64 a0_33] 35 (0, 0))) ∧ Aside0 (Below w.heap.size w w'))
  case atStart => exact ⟨(0), (0), (by first | rfl | (simp; done) | (simp [*]; done)), (by first | rfl | (simp; done) | (simp [*]; done)), H', ⟨Nat.le_refl _⟩, ⟨by (with_reducible repeat (first | refine blk_drewN ?_ _ | refine blk_drew ?_ | refine blk_alloc ?_ _)); exact BK115.out⟩, ⟨by repeat (first | (with_reducible first | exact HB.out | apply below_alloc | apply pw_below_drewN | apply below_drew1 | refine below_set ?_ GE115.out) | exact HB.out)⟩⟩
  case round =>
    clear H'
    try clear c2
    try clear p2
    obtain ⟨x3_1, x4_1, rfl, rfl, HA, HK1, BK115, HB⟩ := hrel
    cases gk with
    | zero => exact absurd HA.out (by simp [purflingref08_Least.l0])
    | succ k1 =>
      have H := HA.out
      clear HA
      simp only [purflingref08_Least.l0] at H
      by_cases c3 : x4_1 < (l0_31.length : Int)
      · rw [if_pos c3] at H
        have c3b0 : decide (x4_1 < (l0_31.length : Int)) = true := decide_eq_true c3
        clear c3
        by_cases c4 : 0 ≤ x4_1
        · rw [if_pos c4] at H
          have c4b0 : decide (0 ≤ x4_1) = true := decide_eq_true c4
          clear c4
          obtain ⟨ji5, hji5⟩ : ∃ j_ : Int, (mx x3_1 (rd l0_31 x4_1)) = j_ := ⟨_, rfl⟩
          replace H : (purflingref08_Least.l0 k1 ji5 (wrap64 (x4_1 + 1)) a0_0 l0_1 a0_2 a0_3 a0_4 a0_5 a0_6 a0_7 a0_8 a0_9 a0_10 a0_11 a0_12 a0_13 a0_14 a0_15 a0_16 a0_17 a0_18 a0_19 a0_20 a0_21 a0_22 a0_23 a0_24 a0_25 a0_26 a0_27 a0_28 a0_29 a0_30 l0_31 a0_32 a0_33) = some r := by first | (rw [hji5] at H; exact H) | (simp only [hji5] at H ⊢; exact H)
          have hji5_ : (if x3_1 < (rd l0_31 x4_1) then (rd l0_31 x4_1) else x3_1) = ji5 := hji5
          have H' := Aside0.mk H
          clear H
          have hcz6_0 : wr.cell? ⟨gb115, 0, none⟩ = some (.int .i64 a0_0) := (blk_cell BK115.out 0).trans rfl
          have hcz6_1 : wr.cell? ⟨gb115, 1, none⟩ = some (.slice A0_1 l0_1.length c0_1) := (blk_cell BK115.out 1).trans rfl
          have hcz6_2 : wr.cell? ⟨gb115, 2, none⟩ = some (.int .i64 a0_2) := (blk_cell BK115.out 2).trans rfl
          have hcz6_3 : wr.cell? ⟨gb115, 3, none⟩ = some (.int .i64 a0_3) := (blk_cell BK115.out 3).trans rfl
          have hcz6_4 : wr.cell? ⟨gb115, 4, none⟩ = some (.int .i64 a0_4) := (blk_cell BK115.out 4).trans rfl
          have hcz6_5 : wr.cell? ⟨gb115, 5, none⟩ = some (.int .i64 a0_5) := (blk_cell BK115.out 5).trans rfl
          have hcz6_6 : wr.cell? ⟨gb115, 6, none⟩ = some (.int .i64 a0_6) := (blk_cell BK115.out 6).trans rfl
          have hcz6_7 : wr.cell? ⟨gb115, 7, none⟩ = some (.int .i64 a0_7) := (blk_cell BK115.out 7).trans rfl
          have hcz6_8 : wr.cell? ⟨gb115, 8, none⟩ = some (.int .i64 a0_8) := (blk_cell BK115.out 8).trans rfl
          have hcz6_9 : wr.cell? ⟨gb115, 9, none⟩ = some (.int .i64 a0_9) := (blk_cell BK115.out 9).trans rfl
          have hcz6_10 : wr.cell? ⟨gb115, 10, none⟩ = some (.int .i64 a0_10) := (blk_cell BK115.out 10).trans rfl
          have hcz6_11 : wr.cell? ⟨gb115, 11, none⟩ = some (.int .i64 a0_11) := (blk_cell BK115.out 11).trans rfl
          have hcz6_12 : wr.cell? ⟨gb115, 12, none⟩ = some (.int .u32 a0_12) := (blk_cell BK115.out 12).trans rfl
          have hcz6_13 : wr.cell? ⟨gb115, 13, none⟩ = some (.int .i64 a0_13) := (blk_cell BK115.out 13).trans rfl
          have hcz6_14 : wr.cell? ⟨gb115, 14, none⟩ = some (.int .i64 a0_14) := (blk_cell BK115.out 14).trans rfl
          have hcz6_15 : wr.cell? ⟨gb115, 15, none⟩ = some (.int .u32 a0_15) := (blk_cell BK115.out 15).trans rfl
          have hcz6_16 : wr.cell? ⟨gb115, 16, none⟩ = some (.int .i64 a0_16) := (blk_cell BK115.out 16).trans rfl
          have hcz6_17 : wr.cell? ⟨gb115, 17, none⟩ = some (.int .i64 a0_17) := (blk_cell BK115.out 17).trans rfl
          have hcz6_18 : wr.cell? ⟨gb115, 18, none⟩ = some (.int .u32 a0_18) := (blk_cell BK115.out 18).trans rfl
          have hcz6_19 : wr.cell? ⟨gb115, 19, none⟩ = some (.int .i64 a0_19) := (blk_cell BK115.out 19).trans rfl
          have hcz6_20 : wr.cell? ⟨gb115, 20, none⟩ = some (.int .i64 a0_20) := (blk_cell BK115.out 20).trans rfl
          have hcz6_21 : wr.cell? ⟨gb115, 21, none⟩ = some (.int .u32 a0_21) := (blk_cell BK115.out 21).trans rfl
          have hcz6_22 : wr.cell? ⟨gb115, 22, none⟩ = some (.int .i64 a0_22) := (blk_cell BK115.out 22).trans rfl
          have hcz6_23 : wr.cell? ⟨gb115, 23, none⟩ = some (.int .i64 a0_23) := (blk_cell BK115.out 23).trans rfl
          have hcz6_24 : wr.cell? ⟨gb115, 24, none⟩ = some (.int .i64 a0_24) := (blk_cell BK115.out 24).trans rfl
          have hcz6_25 : wr.cell? ⟨gb115, 25, none⟩ = some (.bool a0_25) := (blk_cell BK115.out 25).trans rfl
          have hcz6_26 : wr.cell? ⟨gb115, 26, none⟩ = some (.bool a0_26) := (blk_cell BK115.out 26).trans rfl
          have hcz6_27 : wr.cell? ⟨gb115, 27, none⟩ = some (.int .i64 a0_27) := (blk_cell BK115.out 27).trans rfl
          have hcz6_28 : wr.cell? ⟨gb115, 28, none⟩ = some (.int .i64 a0_28) := (blk_cell BK115.out 28).trans rfl
          have hcz6_29 : wr.cell? ⟨gb115, 29, none⟩ = some (.bool a0_29) := (blk_cell BK115.out 29).trans rfl
          have hcz6_30 : wr.cell? ⟨gb115, 30, none⟩ = some (.bool a0_30) := (blk_cell BK115.out 30).trans rfl
          have hcz6_31 : wr.cell? ⟨gb115, 31, none⟩ = some (.slice A0_31 l0_31.length c0_31) := (blk_cell BK115.out 31).trans rfl
          have hcz6_32 : wr.cell? ⟨gb115, 32, none⟩ = some (.int .i64 a0_32) := (blk_cell BK115.out 32).trans rfl
          have hcz6_33 : wr.cell? ⟨gb115, 33, none⟩ = some (.int .i64 a0_33) := (blk_cell BK115.out 33).trans rfl
          have hfz6_0 := blk_frozen BK115.out 0
          have hfz6_1 := blk_frozen BK115.out 1
          have hfz6_2 := blk_frozen BK115.out 2
          have hfz6_3 := blk_frozen BK115.out 3
          have hfz6_4 := blk_frozen BK115.out 4
          have hfz6_5 := blk_frozen BK115.out 5
          have hfz6_6 := blk_frozen BK115.out 6
          have hfz6_7 := blk_frozen BK115.out 7
          have hfz6_8 := blk_frozen BK115.out 8
          have hfz6_9 := blk_frozen BK115.out 9
          have hfz6_10 := blk_frozen BK115.out 10
          have hfz6_11 := blk_frozen BK115.out 11
          have hfz6_12 := blk_frozen BK115.out 12
          have hfz6_13 := blk_frozen BK115.out 13
          have hfz6_14 := blk_frozen BK115.out 14
          have hfz6_15 := blk_frozen BK115.out 15
          have hfz6_16 := blk_frozen BK115.out 16
          have hfz6_17 := blk_frozen BK115.out 17
          have hfz6_18 := blk_frozen BK115.out 18
          have hfz6_19 := blk_frozen BK115.out 19
          have hfz6_20 := blk_frozen BK115.out 20
          have hfz6_21 := blk_frozen BK115.out 21
          have hfz6_22 := blk_frozen BK115.out 22
          have hfz6_23 := blk_frozen BK115.out 23
          have hfz6_24 := blk_frozen BK115.out 24
          have hfz6_25 := blk_frozen BK115.out 25
          have hfz6_26 := blk_frozen BK115.out 26
          have hfz6_27 := blk_frozen BK115.out 27
          have hfz6_28 := blk_frozen BK115.out 28
          have hfz6_29 := blk_frozen BK115.out 29
          have hfz6_30 := blk_frozen BK115.out 30
          have hfz6_31 := blk_frozen BK115.out 31
          have hfz6_32 := blk_frozen BK115.out 32
          have hfz6_33 := blk_frozen BK115.out 33
          have p116 : 0 ≤ (x4_1 : Int) := of_decide_eq_true (by first | (with_reducible assumption) | assumption)
          have q116 : x4_1 < (l0_31.length : Int) := of_decide_eq_true (by first | (with_reducible assumption) | assumption)
          obtain ⟨ad116, e116, hx116_0⟩ := Kd.at_int HR0_31.out x4_1 p116 q116
          cases e116
          replace hx116_0 := (HB.out.cell (World.block_lt_of_cell? w _ hx116_0)).trans hx116_0
          replace p116 := eq_true p116
          replace q116 := eq_true q116
          go_wp2
          go_roundg k1
          case measure => have := HK1.out; omega
          case rel => exact ⟨(ji5), (wrap64 (x4_1 + 1)), (by first | rfl | (simp; done) | (simp only [← hji5] <;> (first | rfl | simp)) | (simp [*]; done)), (by first | rfl | (simp; done) | (simp [*]; done)), H', ⟨by have := HK1.out; omega⟩, ⟨by (with_reducible repeat (first | refine blk_drewN ?_ _ | refine blk_drew ?_ | refine blk_alloc ?_ _)); exact BK115.out⟩, ⟨by repeat (first | (with_reducible first | exact HB.out | apply below_alloc | apply pw_below_drewN | apply below_drew1 | refine below_set ?_ GE115.out) | exact HB.out)⟩⟩
        · rw [if_neg c4] at H
          exact absurd H (by simp)
      · rw [if_neg c3] at H
        have c3b0 : decide (x4_1 < (l0_31.length : Int)) = false := decide_eq_false c3
        clear c3
        obtain rfl := Option.some.inj H
        have hcz7_0 : wr.cell? ⟨gb115, 0, none⟩ = some (.int .i64 a0_0) := (blk_cell BK115.out 0).trans rfl
        have hcz7_1 : wr.cell? ⟨gb115, 1, none⟩ = some (.slice A0_1 l0_1.length c0_1) := (blk_cell BK115.out 1).trans rfl
        have hcz7_2 : wr.cell? ⟨gb115, 2, none⟩ = some (.int .i64 a0_2) := (blk_cell BK115.out 2).trans rfl
        have hcz7_3 : wr.cell? ⟨gb115, 3, none⟩ = some (.int .i64 a0_3) := (blk_cell BK115.out 3).trans rfl
        have hcz7_4 : wr.cell? ⟨gb115, 4, none⟩ = some (.int .i64 a0_4) := (blk_cell BK115.out 4).trans rfl
        have hcz7_5 : wr.cell? ⟨gb115, 5, none⟩ = some (.int .i64 a0_5) := (blk_cell BK115.out 5).trans rfl
        have hcz7_6 : wr.cell? ⟨gb115, 6, none⟩ = some (.int .i64 a0_6) := (blk_cell BK115.out 6).trans rfl
        have hcz7_7 : wr.cell? ⟨gb115, 7, none⟩ = some (.int .i64 a0_7) := (blk_cell BK115.out 7).trans rfl
        have hcz7_8 : wr.cell? ⟨gb115, 8, none⟩ = some (.int .i64 a0_8) := (blk_cell BK115.out 8).trans rfl
        have hcz7_9 : wr.cell? ⟨gb115, 9, none⟩ = some (.int .i64 a0_9) := (blk_cell BK115.out 9).trans rfl
        have hcz7_10 : wr.cell? ⟨gb115, 10, none⟩ = some (.int .i64 a0_10) := (blk_cell BK115.out 10).trans rfl
        have hcz7_11 : wr.cell? ⟨gb115, 11, none⟩ = some (.int .i64 a0_11) := (blk_cell BK115.out 11).trans rfl
        have hcz7_12 : wr.cell? ⟨gb115, 12, none⟩ = some (.int .u32 a0_12) := (blk_cell BK115.out 12).trans rfl
        have hcz7_13 : wr.cell? ⟨gb115, 13, none⟩ = some (.int .i64 a0_13) := (blk_cell BK115.out 13).trans rfl
        have hcz7_14 : wr.cell? ⟨gb115, 14, none⟩ = some (.int .i64 a0_14) := (blk_cell BK115.out 14).trans rfl
        have hcz7_15 : wr.cell? ⟨gb115, 15, none⟩ = some (.int .u32 a0_15) := (blk_cell BK115.out 15).trans rfl
        have hcz7_16 : wr.cell? ⟨gb115, 16, none⟩ = some (.int .i64 a0_16) := (blk_cell BK115.out 16).trans rfl
        have hcz7_17 : wr.cell? ⟨gb115, 17, none⟩ = some (.int .i64 a0_17) := (blk_cell BK115.out 17).trans rfl
        have hcz7_18 : wr.cell? ⟨gb115, 18, none⟩ = some (.int .u32 a0_18) := (blk_cell BK115.out 18).trans rfl
        have hcz7_19 : wr.cell? ⟨gb115, 19, none⟩ = some (.int .i64 a0_19) := (blk_cell BK115.out 19).trans rfl
        have hcz7_20 : wr.cell? ⟨gb115, 20, none⟩ = some (.int .i64 a0_20) := (blk_cell BK115.out 20).trans rfl
        have hcz7_21 : wr.cell? ⟨gb115, 21, none⟩ = some (.int .u32 a0_21) := (blk_cell BK115.out 21).trans rfl
        have hcz7_22 : wr.cell? ⟨gb115, 22, none⟩ = some (.int .i64 a0_22) := (blk_cell BK115.out 22).trans rfl
        have hcz7_23 : wr.cell? ⟨gb115, 23, none⟩ = some (.int .i64 a0_23) := (blk_cell BK115.out 23).trans rfl
        have hcz7_24 : wr.cell? ⟨gb115, 24, none⟩ = some (.int .i64 a0_24) := (blk_cell BK115.out 24).trans rfl
        have hcz7_25 : wr.cell? ⟨gb115, 25, none⟩ = some (.bool a0_25) := (blk_cell BK115.out 25).trans rfl
        have hcz7_26 : wr.cell? ⟨gb115, 26, none⟩ = some (.bool a0_26) := (blk_cell BK115.out 26).trans rfl
        have hcz7_27 : wr.cell? ⟨gb115, 27, none⟩ = some (.int .i64 a0_27) := (blk_cell BK115.out 27).trans rfl
        have hcz7_28 : wr.cell? ⟨gb115, 28, none⟩ = some (.int .i64 a0_28) := (blk_cell BK115.out 28).trans rfl
        have hcz7_29 : wr.cell? ⟨gb115, 29, none⟩ = some (.bool a0_29) := (blk_cell BK115.out 29).trans rfl
        have hcz7_30 : wr.cell? ⟨gb115, 30, none⟩ = some (.bool a0_30) := (blk_cell BK115.out 30).trans rfl
        have hcz7_31 : wr.cell? ⟨gb115, 31, none⟩ = some (.slice A0_31 l0_31.length c0_31) := (blk_cell BK115.out 31).trans rfl
        have hcz7_32 : wr.cell? ⟨gb115, 32, none⟩ = some (.int .i64 a0_32) := (blk_cell BK115.out 32).trans rfl
        have hcz7_33 : wr.cell? ⟨gb115, 33, none⟩ = some (.int .i64 a0_33) := (blk_cell BK115.out 33).trans rfl
        have hfz7_0 := blk_frozen BK115.out 0
        have hfz7_1 := blk_frozen BK115.out 1
        have hfz7_2 := blk_frozen BK115.out 2
        have hfz7_3 := blk_frozen BK115.out 3
        have hfz7_4 := blk_frozen BK115.out 4
        have hfz7_5 := blk_frozen BK115.out 5
        have hfz7_6 := blk_frozen BK115.out 6
        have hfz7_7 := blk_frozen BK115.out 7
        have hfz7_8 := blk_frozen BK115.out 8
        have hfz7_9 := blk_frozen BK115.out 9
        have hfz7_10 := blk_frozen BK115.out 10
        have hfz7_11 := blk_frozen BK115.out 11
        have hfz7_12 := blk_frozen BK115.out 12
        have hfz7_13 := blk_frozen BK115.out 13
        have hfz7_14 := blk_frozen BK115.out 14
        have hfz7_15 := blk_frozen BK115.out 15
        have hfz7_16 := blk_frozen BK115.out 16
        have hfz7_17 := blk_frozen BK115.out 17
        have hfz7_18 := blk_frozen BK115.out 18
        have hfz7_19 := blk_frozen BK115.out 19
        have hfz7_20 := blk_frozen BK115.out 20
        have hfz7_21 := blk_frozen BK115.out 21
        have hfz7_22 := blk_frozen BK115.out 22
        have hfz7_23 := blk_frozen BK115.out 23
        have hfz7_24 := blk_frozen BK115.out 24
        have hfz7_25 := blk_frozen BK115.out 25
        have hfz7_26 := blk_frozen BK115.out 26
        have hfz7_27 := blk_frozen BK115.out 27
        have hfz7_28 := blk_frozen BK115.out 28
        have hfz7_29 := blk_frozen BK115.out 29
        have hfz7_30 := blk_frozen BK115.out 30
        have hfz7_31 := blk_frozen BK115.out 31
        have hfz7_32 := blk_frozen BK115.out 32
        have hfz7_33 := blk_frozen BK115.out 33
        go_wp2
        go_ret
        exact ⟨by first | rfl | (simp [errW_none, errW_some] <;> rfl) | (simp [*, errW_none, errW_some] <;> rfl), by repeat (first | (with_reducible first | exact HB.out | apply below_alloc | apply pw_below_drewN | apply below_drew1 | refine below_set ?_ GE115.out) | exact HB.out)⟩

-- by hand: function 28 (lines_areLengths)

end Go.Proofs.Yteckkphbgfmolaa.K
