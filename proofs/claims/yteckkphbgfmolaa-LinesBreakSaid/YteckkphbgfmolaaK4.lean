-- PRINTED by print.py (a twelfth state) out of the translation. Not trusted: Lean checks it.
import Derived.Test.YteckkphbgfmolaaK0
import Derived.Test.YteckkphbgfmolaaK3
namespace Go.Proofs.Yteckkphbgfmolaa.K
open Go.RowKit Go.Proofs.YteckkphbgfmolaaW.PrintWords Go.Proofs.YteckkphbgfmolaaW.PrintLast Go.Proofs.YteckkphbgfmolaaW.PrintMore
attribute [local go_sem] max2_int min2_int max_two min_two max_three min_three max_four min_four   -- for this text's walks alone
set_option linter.unusedVariables false
set_option linter.unusedSimpArgs false

/-! ### purflingref08_Right: function 14 -/
mutual
def purflingref08_Right.j0 : Nat → Bool → Int → List Int → Int → Int → Int → Int → Int → Int → Int → Int → Int → Int → Int → Int → Int → Int → Int → Int → Int → Int → Int → Int → Int → Int → Int → Bool → Bool → Int → Int → Bool → Bool → List Int → Int → Int → Option (Bool)
  | 0, _, _, _, _, _, _, _, _, _, _, _, _, _, _, _, _, _, _, _, _, _, _, _, _, _, _, _, _, _, _, _, _, _, _, _ => none
  | k + 1, x24, x111000, x111001, x111002, x111003, x111004, x111005, x111006, x111007, x111008, x111009, x111010, x111011, x111012, x111013, x111014, x111015, x111016, x111017, x111018, x111019, x111020, x111021, x111022, x111023, x111024, x111025, x111026, x111027, x111028, x111029, x111030, x111031, x111032, x111033 => if x24 = true then (some false) else (purflingref08_Right.l0 k 0 x111000 x111001 x111002 x111003 x111004 x111005 x111006 x111007 x111008 x111009 x111010 x111011 x111012 x111013 x111014 x111015 x111016 x111017 x111018 x111019 x111020 x111021 x111022 x111023 x111024 x111025 x111026 x111027 x111028 x111029 x111030 x111031 x111032 x111033)
def purflingref08_Right.l0 : Nat → Int → Int → List Int → Int → Int → Int → Int → Int → Int → Int → Int → Int → Int → Int → Int → Int → Int → Int → Int → Int → Int → Int → Int → Int → Int → Int → Bool → Bool → Int → Int → Bool → Bool → List Int → Int → Int → Option (Bool)
  | 0, _, _, _, _, _, _, _, _, _, _, _, _, _, _, _, _, _, _, _, _, _, _, _, _, _, _, _, _, _, _, _, _, _, _, _ => none
  | k + 1, x3, x111000, x111001, x111002, x111003, x111004, x111005, x111006, x111007, x111008, x111009, x111010, x111011, x111012, x111013, x111014, x111015, x111016, x111017, x111018, x111019, x111020, x111021, x111022, x111023, x111024, x111025, x111026, x111027, x111028, x111029, x111030, x111031, x111032, x111033 => if x3 < (x111031.length : Int) then (if 0 ≤ x3 then ((purflingref08_length.f (rd x111031 x3)).bind fun t114 => (if t114 = true then (purflingref08_Right.l0 k (wrap64 (x3 + 1)) x111000 x111001 x111002 x111003 x111004 x111005 x111006 x111007 x111008 x111009 x111010 x111011 x111012 x111013 x111014 x111015 x111016 x111017 x111018 x111019 x111020 x111021 x111022 x111023 x111024 x111025 x111026 x111027 x111028 x111029 x111030 x111031 x111032 x111033) else (some false))) else (none)) else (some true)
end
def purflingref08_Right.f (k : Nat) (a0_0 : Int) (l0_1 : List Int) (a0_2 : Int) (a0_3 : Int) (a0_4 : Int) (a0_5 : Int) (a0_6 : Int) (a0_7 : Int) (a0_8 : Int) (a0_9 : Int) (a0_10 : Int) (a0_11 : Int) (a0_12 : Int) (a0_13 : Int) (a0_14 : Int) (a0_15 : Int) (a0_16 : Int) (a0_17 : Int) (a0_18 : Int) (a0_19 : Int) (a0_20 : Int) (a0_21 : Int) (a0_22 : Int) (a0_23 : Int) (a0_24 : Int) (a0_25 : Bool) (a0_26 : Bool) (a0_27 : Int) (a0_28 : Int) (a0_29 : Bool) (a0_30 : Bool) (l0_31 : List Int) (a0_32 : Int) (a0_33 : Int) : Option (Bool) := if a0_0 = 1 then (if (l0_31.length : Int) > 10000 then (purflingref08_Right.j0 k true a0_0 l0_1 a0_2 a0_3 a0_4 a0_5 a0_6 a0_7 a0_8 a0_9 a0_10 a0_11 a0_12 a0_13 a0_14 a0_15 a0_16 a0_17 a0_18 a0_19 a0_20 a0_21 a0_22 a0_23 a0_24 a0_25 a0_26 a0_27 a0_28 a0_29 a0_30 l0_31 a0_32 a0_33) else ((purflingref08_length.f a0_32).bind fun t111 => (if t111 = true then ((purflingref08_length.f a0_33).bind fun t112 => (purflingref08_Right.j0 k (!t112) a0_0 l0_1 a0_2 a0_3 a0_4 a0_5 a0_6 a0_7 a0_8 a0_9 a0_10 a0_11 a0_12 a0_13 a0_14 a0_15 a0_16 a0_17 a0_18 a0_19 a0_20 a0_21 a0_22 a0_23 a0_24 a0_25 a0_26 a0_27 a0_28 a0_29 a0_30 l0_31 a0_32 a0_33)) else (purflingref08_Right.j0 k true a0_0 l0_1 a0_2 a0_3 a0_4 a0_5 a0_6 a0_7 a0_8 a0_9 a0_10 a0_11 a0_12 a0_13 a0_14 a0_15 a0_16 a0_17 a0_18 a0_19 a0_20 a0_21 a0_22 a0_23 a0_24 a0_25 a0_26 a0_27 a0_28 a0_29 a0_30 l0_31 a0_32 a0_33)))) else (purflingref08_Right.j0 k true a0_0 l0_1 a0_2 a0_3 a0_4 a0_5 a0_6 a0_7 a0_8 a0_9 a0_10 a0_11 a0_12 a0_13 a0_14 a0_15 a0_16 a0_17 a0_18 a0_19 a0_20 a0_21 a0_22 a0_23 a0_24 a0_25 a0_26 a0_27 a0_28 a0_29 a0_30 l0_31 a0_32 a0_33)
theorem purflingref08_Right.mono_l : ∀ k, (∀ y0 y1 y2 y3 y4 y5 y6 y7 y8 y9 y10 y11 y12 y13 y14 y15 y16 y17 y18 y19 y20 y21 y22 y23 y24 y25 y26 y27 y28 y29 y30 y31 y32 y33 y34, LeO (purflingref08_Right.j0 k y0 y1 y2 y3 y4 y5 y6 y7 y8 y9 y10 y11 y12 y13 y14 y15 y16 y17 y18 y19 y20 y21 y22 y23 y24 y25 y26 y27 y28 y29 y30 y31 y32 y33 y34) (purflingref08_Right.j0 (k + 1) y0 y1 y2 y3 y4 y5 y6 y7 y8 y9 y10 y11 y12 y13 y14 y15 y16 y17 y18 y19 y20 y21 y22 y23 y24 y25 y26 y27 y28 y29 y30 y31 y32 y33 y34)) ∧ (∀ y0 y1 y2 y3 y4 y5 y6 y7 y8 y9 y10 y11 y12 y13 y14 y15 y16 y17 y18 y19 y20 y21 y22 y23 y24 y25 y26 y27 y28 y29 y30 y31 y32 y33 y34, LeO (purflingref08_Right.l0 k y0 y1 y2 y3 y4 y5 y6 y7 y8 y9 y10 y11 y12 y13 y14 y15 y16 y17 y18 y19 y20 y21 y22 y23 y24 y25 y26 y27 y28 y29 y30 y31 y32 y33 y34) (purflingref08_Right.l0 (k + 1) y0 y1 y2 y3 y4 y5 y6 y7 y8 y9 y10 y11 y12 y13 y14 y15 y16 y17 y18 y19 y20 y21 y22 y23 y24 y25 y26 y27 y28 y29 y30 y31 y32 y33 y34))
  | 0 => ⟨fun _ _ _ _ _ _ _ _ _ _ _ _ _ _ _ _ _ _ _ _ _ _ _ _ _ _ _ _ _ _ _ _ _ _ _ r h => by simp [purflingref08_Right.j0] at h, fun _ _ _ _ _ _ _ _ _ _ _ _ _ _ _ _ _ _ _ _ _ _ _ _ _ _ _ _ _ _ _ _ _ _ _ r h => by simp [purflingref08_Right.l0] at h⟩
  | k + 1 => by
    obtain ⟨ih0, ih1⟩ := purflingref08_Right.mono_l k
    refine ⟨?_, ?_⟩
    · intro y0 y1 y2 y3 y4 y5 y6 y7 y8 y9 y10 y11 y12 y13 y14 y15 y16 y17 y18 y19 y20 y21 y22 y23 y24 y25 y26 y27 y28 y29 y30 y31 y32 y33 y34
      unfold purflingref08_Right.j0
      repeat' first
      | (with_reducible exact ih0 _ _ _ _ _ _ _ _ _ _ _ _ _ _ _ _ _ _ _ _ _ _ _ _ _ _ _ _ _ _ _ _ _ _ _)
      | (with_reducible exact ih1 _ _ _ _ _ _ _ _ _ _ _ _ _ _ _ _ _ _ _ _ _ _ _ _ _ _ _ _ _ _ _ _ _ _ _)
      | (with_reducible exact LeO.refl _)
      | (with_reducible exact LeO.none _)
      | (with_reducible refine LeO.ite ?_ ?_)
      | (with_reducible refine LeO.bind ?_ (fun _ => ?_))
      | exact ih0 _ _ _ _ _ _ _ _ _ _ _ _ _ _ _ _ _ _ _ _ _ _ _ _ _ _ _ _ _ _ _ _ _ _ _
      | exact ih1 _ _ _ _ _ _ _ _ _ _ _ _ _ _ _ _ _ _ _ _ _ _ _ _ _ _ _ _ _ _ _ _ _ _ _
      | exact LeO.none _
      | refine LeO.ite ?_ ?_
      | refine LeO.bind ?_ (fun _ => ?_)
    · intro y0 y1 y2 y3 y4 y5 y6 y7 y8 y9 y10 y11 y12 y13 y14 y15 y16 y17 y18 y19 y20 y21 y22 y23 y24 y25 y26 y27 y28 y29 y30 y31 y32 y33 y34
      unfold purflingref08_Right.l0
      repeat' first
      | (with_reducible exact ih0 _ _ _ _ _ _ _ _ _ _ _ _ _ _ _ _ _ _ _ _ _ _ _ _ _ _ _ _ _ _ _ _ _ _ _)
      | (with_reducible exact ih1 _ _ _ _ _ _ _ _ _ _ _ _ _ _ _ _ _ _ _ _ _ _ _ _ _ _ _ _ _ _ _ _ _ _ _)
      | (with_reducible exact LeO.refl _)
      | (with_reducible exact LeO.none _)
      | (with_reducible refine LeO.ite ?_ ?_)
      | (with_reducible refine LeO.bind ?_ (fun _ => ?_))
      | exact ih0 _ _ _ _ _ _ _ _ _ _ _ _ _ _ _ _ _ _ _ _ _ _ _ _ _ _ _ _ _ _ _ _ _ _ _
      | exact ih1 _ _ _ _ _ _ _ _ _ _ _ _ _ _ _ _ _ _ _ _ _ _ _ _ _ _ _ _ _ _ _ _ _ _ _
      | exact LeO.none _
      | refine LeO.ite ?_ ?_
      | refine LeO.bind ?_ (fun _ => ?_)
theorem purflingref08_Right.mono : ∀ a0 a1 a2 a3 a4 a5 a6 a7 a8 a9 a10 a11 a12 a13 a14 a15 a16 a17 a18 a19 a20 a21 a22 a23 a24 a25 a26 a27 a28 a29 a30 a31 a32 a33 k, LeO (purflingref08_Right.f k a0 a1 a2 a3 a4 a5 a6 a7 a8 a9 a10 a11 a12 a13 a14 a15 a16 a17 a18 a19 a20 a21 a22 a23 a24 a25 a26 a27 a28 a29 a30 a31 a32 a33) (purflingref08_Right.f (k + 1) a0 a1 a2 a3 a4 a5 a6 a7 a8 a9 a10 a11 a12 a13 a14 a15 a16 a17 a18 a19 a20 a21 a22 a23 a24 a25 a26 a27 a28 a29 a30 a31 a32 a33) := by
  intro a0 a1 a2 a3 a4 a5 a6 a7 a8 a9 a10 a11 a12 a13 a14 a15 a16 a17 a18 a19 a20 a21 a22 a23 a24 a25 a26 a27 a28 a29 a30 a31 a32 a33 k
  obtain ⟨ih0, ih1⟩ := purflingref08_Right.mono_l k
  unfold purflingref08_Right.f
  repeat' first
      | (with_reducible exact ih0 _ _ _ _ _ _ _ _ _ _ _ _ _ _ _ _ _ _ _ _ _ _ _ _ _ _ _ _ _ _ _ _ _ _ _)
      | (with_reducible exact ih1 _ _ _ _ _ _ _ _ _ _ _ _ _ _ _ _ _ _ _ _ _ _ _ _ _ _ _ _ _ _ _ _ _ _ _)
      | (with_reducible exact LeO.refl _)
      | (with_reducible exact LeO.none _)
      | (with_reducible refine LeO.ite ?_ ?_)
      | (with_reducible refine LeO.bind ?_ (fun _ => ?_))
      | exact ih0 _ _ _ _ _ _ _ _ _ _ _ _ _ _ _ _ _ _ _ _ _ _ _ _ _ _ _ _ _ _ _ _ _ _ _
      | exact ih1 _ _ _ _ _ _ _ _ _ _ _ _ _ _ _ _ _ _ _ _ _ _ _ _ _ _ _ _ _ _ _ _ _ _ _
      | exact LeO.none _
      | refine LeO.ite ?_ ?_
      | refine LeO.bind ?_ (fun _ => ?_)
set_option maxHeartbeats 8000000 in
set_option maxRecDepth 100000 in
theorem purflingref08_Right.calls (k : Nat) (a0_0 : Int) (A0_1 : Option Addr) (c0_1 : Nat) (l0_1 : List Int) (a0_2 : Int) (a0_3 : Int) (a0_4 : Int) (a0_5 : Int) (a0_6 : Int) (a0_7 : Int) (a0_8 : Int) (a0_9 : Int) (a0_10 : Int) (a0_11 : Int) (a0_12 : Int) (a0_13 : Int) (a0_14 : Int) (a0_15 : Int) (a0_16 : Int) (a0_17 : Int) (a0_18 : Int) (a0_19 : Int) (a0_20 : Int) (a0_21 : Int) (a0_22 : Int) (a0_23 : Int) (a0_24 : Int) (a0_25 : Bool) (a0_26 : Bool) (a0_27 : Int) (a0_28 : Int) (a0_29 : Bool) (a0_30 : Bool) (A0_31 : Option Addr) (c0_31 : Nat) (l0_31 : List Int) (a0_32 : Int) (a0_33 : Int) (r : Bool) (w : World) (hr0_1 : Kd.C (Kd.int .i64) w A0_1 l0_1.length l0_1) (hc0_1 : l0_1.length ≤ c0_1) (hr0_31 : Kd.C (Kd.int .i64) w A0_31 l0_31.length l0_31) (hc0_31 : l0_31.length ≤ c0_31) (h : purflingref08_Right.f k a0_0 l0_1 a0_2 a0_3 a0_4 a0_5 a0_6 a0_7 a0_8 a0_9 a0_10 a0_11 a0_12 a0_13 a0_14 a0_15 a0_16 a0_17 a0_18 a0_19 a0_20 a0_21 a0_22 a0_23 a0_24 a0_25 a0_26 a0_27 a0_28 a0_29 a0_30 l0_31 a0_32 a0_33 = some r) :
    Calls Try.prog 14 #[.agg #[.int .i64 a0_0, .slice A0_1 l0_1.length c0_1, .int .i64 a0_2, .int .i64 a0_3, .int .i64 a0_4, .int .i64 a0_5, .int .i64 a0_6, .int .i64 a0_7, .int .i64 a0_8, .int .i64 a0_9, .int .i64 a0_10, .int .i64 a0_11, .int .u32 a0_12, .int .i64 a0_13, .int .i64 a0_14, .int .u32 a0_15, .int .i64 a0_16, .int .i64 a0_17, .int .u32 a0_18, .int .i64 a0_19, .int .i64 a0_20, .int .u32 a0_21, .int .i64 a0_22, .int .i64 a0_23, .int .i64 a0_24, .bool a0_25, .bool a0_26, .int .i64 a0_27, .int .i64 a0_28, .bool a0_29, .bool a0_30, .slice A0_31 l0_31.length c0_31, .int .i64 a0_32, .int .i64 a0_33]] w fun e w' => e = .returned (.bool r) ∧ Below w.heap.size w w' := by
  have hu35 := Try.underlying35
  have HR0_1 := Aside0.mk hr0_1
  have HC0_1 := Aside0.mk hc0_1
  clear hr0_1 hc0_1
  have HR0_31 := Aside0.mk hr0_31
  have HC0_31 := Aside0.mk hc0_31
  clear hr0_31 hc0_31
  have HB := Aside0.mk (Below.refl w.heap.size w)
  have H : (if a0_0 = 1 then (if (l0_31.length : Int) > 10000 then (purflingref08_Right.j0 k true a0_0 l0_1 a0_2 a0_3 a0_4 a0_5 a0_6 a0_7 a0_8 a0_9 a0_10 a0_11 a0_12 a0_13 a0_14 a0_15 a0_16 a0_17 a0_18 a0_19 a0_20 a0_21 a0_22 a0_23 a0_24 a0_25 a0_26 a0_27 a0_28 a0_29 a0_30 l0_31 a0_32 a0_33) else ((purflingref08_length.f a0_32).bind fun t111 => (if t111 = true then ((purflingref08_length.f a0_33).bind fun t112 => (purflingref08_Right.j0 k (!t112) a0_0 l0_1 a0_2 a0_3 a0_4 a0_5 a0_6 a0_7 a0_8 a0_9 a0_10 a0_11 a0_12 a0_13 a0_14 a0_15 a0_16 a0_17 a0_18 a0_19 a0_20 a0_21 a0_22 a0_23 a0_24 a0_25 a0_26 a0_27 a0_28 a0_29 a0_30 l0_31 a0_32 a0_33)) else (purflingref08_Right.j0 k true a0_0 l0_1 a0_2 a0_3 a0_4 a0_5 a0_6 a0_7 a0_8 a0_9 a0_10 a0_11 a0_12 a0_13 a0_14 a0_15 a0_16 a0_17 a0_18 a0_19 a0_20 a0_21 a0_22 a0_23 a0_24 a0_25 a0_26 a0_27 a0_28 a0_29 a0_30 l0_31 a0_32 a0_33)))) else (purflingref08_Right.j0 k true a0_0 l0_1 a0_2 a0_3 a0_4 a0_5 a0_6 a0_7 a0_8 a0_9 a0_10 a0_11 a0_12 a0_13 a0_14 a0_15 a0_16 a0_17 a0_18 a0_19 a0_20 a0_21 a0_22 a0_23 a0_24 a0_25 a0_26 a0_27 a0_28 a0_29 a0_30 l0_31 a0_32 a0_33)) = some r := h
  clear h
  have HC2 := Aside0.mk H
  clear H
  go_enter Try.func14, Try.ntmps14
  go_upto_region 1 with (first | ((with_reducible refine gate_dst (N := 1) rfl ?_); (try (refine gate_guard (by rfl) ?_; dsimp only)); refine box_event ?hg (N := 1) ?hd (cs := #[.int .i64 a0_0, .slice A0_1 l0_1.length c0_1, .int .i64 a0_2, .int .i64 a0_3, .int .i64 a0_4, .int .i64 a0_5, .int .i64 a0_6, .int .i64 a0_7, .int .i64 a0_8, .int .i64 a0_9, .int .i64 a0_10, .int .i64 a0_11, .int .u32 a0_12, .int .i64 a0_13, .int .i64 a0_14, .int .u32 a0_15, .int .i64 a0_16, .int .i64 a0_17, .int .u32 a0_18, .int .i64 a0_19, .int .i64 a0_20, .int .u32 a0_21, .int .i64 a0_22, .int .i64 a0_23, .int .i64 a0_24, .bool a0_25, .bool a0_26, .int .i64 a0_27, .int .i64 a0_28, .bool a0_29, .bool a0_30, .slice A0_31 l0_31.length c0_31, .int .i64 a0_32, .int .i64 a0_33]) (t := 35) ?hr ?_; (case hd => rfl); (case hg => rfl); (case hr => first | (go_simp; done) | (go_simp; rfl)); intro gb110 hg w3 hbox hb; have n0_ := Aside0.mk (below_step (by repeat (first | (with_reducible first | exact HB.out | apply below_alloc | apply pw_below_drewN | apply below_drew1) | exact HB.out)) hb); have n1_ := Aside0.mk (hbox); have n2_ := Aside0.mk ((by rw [hg]; exact (below_size (by repeat (first | (with_reducible first | exact HB.out | apply below_alloc | apply pw_below_drewN | apply below_drew1) | exact HB.out))) : w.heap.size ≤ gb110)); have n3_ := Aside0.mk ((by rw [hg]; exact (below_size (by repeat (first | (with_reducible first | exact HB.out | apply below_alloc | apply pw_below_drewN | apply below_drew1) | exact HB.out))) : w.heap.size ≤ gb110)); clear HB; have HB := n0_; have BK110 := n1_; have GW110 := n2_; have GE110 := n3_; clear n0_ n1_ n2_ n3_; clear hb hbox hg))
  (try simp only [Act.put, List.setIfInBounds_toArray, List.set_cons_zero, List.set_cons_succ])
  go_cut [24] (fun v24 wc => ∃ (kq : Nat) (x24_1 : Bool), v24 = .bool x24_1 ∧ Aside0 (purflingref08_Right.j0 kq x24_1 a0_0 l0_1 a0_2 a0_3 a0_4 a0_5 a0_6 a0_7 a0_8 a0_9 a0_10 a0_11 a0_12 a0_13 a0_14 a0_15 a0_16 a0_17 a0_18 a0_19 a0_20 a0_21 a0_22 a0_23 a0_24 a0_25 a0_26 a0_27 a0_28 a0_29 a0_30 l0_31 a0_32 a0_33 = some r) ∧ Aside0 (kq ≤ k) ∧ Aside0 (wc.heap[gb110]? = some (.cells #[.int .i64 a0_0, (.slice A0_1 l0_1.length c0_1), .int .i64 a0_2, .int .i64 a0_3, .int .i64 a0_4, .int .i64 a0_5, .int .i64 a0_6, .int .i64 a0_7, .int .i64 a0_8, .int .i64 a0_9, .int .i64 a0_10, .int .i64 a0_11, .int .u32 a0_12, .int .i64 a0_13, .int .i64 a0_14, .int .u32 a0_15, .int .i64 a0_16, .int .i64 a0_17, .int .u32 a0_18, .int .i64 a0_19, .int .i64 a0_20, .int .u32 a0_21, .int .i64 a0_22, .int .i64 a0_23, .int .i64 a0_24, .bool a0_25, .bool a0_26, .int .i64 a0_27, .int .i64 a0_28, .bool a0_29, .bool a0_30, (.slice A0_31 l0_31.length c0_31), .int .i64 a0_32, .int .i64 a0_33] 35 (0, 0))) ∧ Aside0 (Below w.heap.size w wc))
  case first =>
    have H := HC2.out
    clear HC2
    by_cases c4 : a0_0 = 1
    · rw [if_pos c4] at H
      have c4b0 : (a0_0 == 1) = true := beq_iff_eq.mpr c4
      have c4b1 : (a0_0 != 1) = false := bne_eq_false_iff_eq.mpr c4
      clear c4
      (first | rw [c4b0] | (simp only [i64_w, i32_w]; rw [c4b0]) | skip)
      by_cases c5 : (l0_31.length : Int) > 10000
      · rw [if_pos c5] at H
        have c5b0 : decide (10000 < (l0_31.length : Int)) = true := decide_eq_true c5
        have c5b1 : decide (10000 < l0_31.length) = true := decide_eq_true (by omega)
        clear c5
        have H' := Aside0.mk H
        clear H
        have hcz6_0 : w3.cell? ⟨gb110, 0, none⟩ = some (.int .i64 a0_0) := (blk_cell BK110.out 0).trans rfl
        have hcz6_1 : w3.cell? ⟨gb110, 1, none⟩ = some (.slice A0_1 l0_1.length c0_1) := (blk_cell BK110.out 1).trans rfl
        have hcz6_2 : w3.cell? ⟨gb110, 2, none⟩ = some (.int .i64 a0_2) := (blk_cell BK110.out 2).trans rfl
        have hcz6_3 : w3.cell? ⟨gb110, 3, none⟩ = some (.int .i64 a0_3) := (blk_cell BK110.out 3).trans rfl
        have hcz6_4 : w3.cell? ⟨gb110, 4, none⟩ = some (.int .i64 a0_4) := (blk_cell BK110.out 4).trans rfl
        have hcz6_5 : w3.cell? ⟨gb110, 5, none⟩ = some (.int .i64 a0_5) := (blk_cell BK110.out 5).trans rfl
        have hcz6_6 : w3.cell? ⟨gb110, 6, none⟩ = some (.int .i64 a0_6) := (blk_cell BK110.out 6).trans rfl
        have hcz6_7 : w3.cell? ⟨gb110, 7, none⟩ = some (.int .i64 a0_7) := (blk_cell BK110.out 7).trans rfl
        have hcz6_8 : w3.cell? ⟨gb110, 8, none⟩ = some (.int .i64 a0_8) := (blk_cell BK110.out 8).trans rfl
        have hcz6_9 : w3.cell? ⟨gb110, 9, none⟩ = some (.int .i64 a0_9) := (blk_cell BK110.out 9).trans rfl
        have hcz6_10 : w3.cell? ⟨gb110, 10, none⟩ = some (.int .i64 a0_10) := (blk_cell BK110.out 10).trans rfl
        have hcz6_11 : w3.cell? ⟨gb110, 11, none⟩ = some (.int .i64 a0_11) := (blk_cell BK110.out 11).trans rfl
        have hcz6_12 : w3.cell? ⟨gb110, 12, none⟩ = some (.int .u32 a0_12) := (blk_cell BK110.out 12).trans rfl
        have hcz6_13 : w3.cell? ⟨gb110, 13, none⟩ = some (.int .i64 a0_13) := (blk_cell BK110.out 13).trans rfl
        have hcz6_14 : w3.cell? ⟨gb110, 14, none⟩ = some (.int .i64 a0_14) := (blk_cell BK110.out 14).trans rfl
        have hcz6_15 : w3.cell? ⟨gb110, 15, none⟩ = some (.int .u32 a0_15) := (blk_cell BK110.out 15).trans rfl
        have hcz6_16 : w3.cell? ⟨gb110, 16, none⟩ = some (.int .i64 a0_16) := (blk_cell BK110.out 16).trans rfl
        have hcz6_17 : w3.cell? ⟨gb110, 17, none⟩ = some (.int .i64 a0_17) := (blk_cell BK110.out 17).trans rfl
        have hcz6_18 : w3.cell? ⟨gb110, 18, none⟩ = some (.int .u32 a0_18) := (blk_cell BK110.out 18).trans rfl
        have hcz6_19 : w3.cell? ⟨gb110, 19, none⟩ = some (.int .i64 a0_19) := (blk_cell BK110.out 19).trans rfl
        have hcz6_20 : w3.cell? ⟨gb110, 20, none⟩ = some (.int .i64 a0_20) := (blk_cell BK110.out 20).trans rfl
        have hcz6_21 : w3.cell? ⟨gb110, 21, none⟩ = some (.int .u32 a0_21) := (blk_cell BK110.out 21).trans rfl
        have hcz6_22 : w3.cell? ⟨gb110, 22, none⟩ = some (.int .i64 a0_22) := (blk_cell BK110.out 22).trans rfl
        have hcz6_23 : w3.cell? ⟨gb110, 23, none⟩ = some (.int .i64 a0_23) := (blk_cell BK110.out 23).trans rfl
        have hcz6_24 : w3.cell? ⟨gb110, 24, none⟩ = some (.int .i64 a0_24) := (blk_cell BK110.out 24).trans rfl
        have hcz6_25 : w3.cell? ⟨gb110, 25, none⟩ = some (.bool a0_25) := (blk_cell BK110.out 25).trans rfl
        have hcz6_26 : w3.cell? ⟨gb110, 26, none⟩ = some (.bool a0_26) := (blk_cell BK110.out 26).trans rfl
        have hcz6_27 : w3.cell? ⟨gb110, 27, none⟩ = some (.int .i64 a0_27) := (blk_cell BK110.out 27).trans rfl
        have hcz6_28 : w3.cell? ⟨gb110, 28, none⟩ = some (.int .i64 a0_28) := (blk_cell BK110.out 28).trans rfl
        have hcz6_29 : w3.cell? ⟨gb110, 29, none⟩ = some (.bool a0_29) := (blk_cell BK110.out 29).trans rfl
        have hcz6_30 : w3.cell? ⟨gb110, 30, none⟩ = some (.bool a0_30) := (blk_cell BK110.out 30).trans rfl
        have hcz6_31 : w3.cell? ⟨gb110, 31, none⟩ = some (.slice A0_31 l0_31.length c0_31) := (blk_cell BK110.out 31).trans rfl
        have hcz6_32 : w3.cell? ⟨gb110, 32, none⟩ = some (.int .i64 a0_32) := (blk_cell BK110.out 32).trans rfl
        have hcz6_33 : w3.cell? ⟨gb110, 33, none⟩ = some (.int .i64 a0_33) := (blk_cell BK110.out 33).trans rfl
        have hfz6_0 := blk_frozen BK110.out 0
        have hfz6_1 := blk_frozen BK110.out 1
        have hfz6_2 := blk_frozen BK110.out 2
        have hfz6_3 := blk_frozen BK110.out 3
        have hfz6_4 := blk_frozen BK110.out 4
        have hfz6_5 := blk_frozen BK110.out 5
        have hfz6_6 := blk_frozen BK110.out 6
        have hfz6_7 := blk_frozen BK110.out 7
        have hfz6_8 := blk_frozen BK110.out 8
        have hfz6_9 := blk_frozen BK110.out 9
        have hfz6_10 := blk_frozen BK110.out 10
        have hfz6_11 := blk_frozen BK110.out 11
        have hfz6_12 := blk_frozen BK110.out 12
        have hfz6_13 := blk_frozen BK110.out 13
        have hfz6_14 := blk_frozen BK110.out 14
        have hfz6_15 := blk_frozen BK110.out 15
        have hfz6_16 := blk_frozen BK110.out 16
        have hfz6_17 := blk_frozen BK110.out 17
        have hfz6_18 := blk_frozen BK110.out 18
        have hfz6_19 := blk_frozen BK110.out 19
        have hfz6_20 := blk_frozen BK110.out 20
        have hfz6_21 := blk_frozen BK110.out 21
        have hfz6_22 := blk_frozen BK110.out 22
        have hfz6_23 := blk_frozen BK110.out 23
        have hfz6_24 := blk_frozen BK110.out 24
        have hfz6_25 := blk_frozen BK110.out 25
        have hfz6_26 := blk_frozen BK110.out 26
        have hfz6_27 := blk_frozen BK110.out 27
        have hfz6_28 := blk_frozen BK110.out 28
        have hfz6_29 := blk_frozen BK110.out 29
        have hfz6_30 := blk_frozen BK110.out 30
        have hfz6_31 := blk_frozen BK110.out 31
        have hfz6_32 := blk_frozen BK110.out 32
        have hfz6_33 := blk_frozen BK110.out 33
        go_wp2
        go_meet
        case rel => exact ⟨_, (true), (by first | rfl | (simp; done) | (simp [*]; done)), H', ⟨by first | omega | exact Nat.le_refl _⟩, ⟨by (with_reducible repeat (first | refine blk_drewN ?_ _ | refine blk_drew ?_ | refine blk_alloc ?_ _)); exact BK110.out⟩, ⟨by repeat (first | (with_reducible first | exact HB.out | apply below_alloc | apply pw_below_drewN | apply below_drew1 | refine below_set ?_ GE110.out) | exact HB.out)⟩⟩
      · rw [if_neg c5] at H
        have c5b0 : decide (10000 < (l0_31.length : Int)) = false := decide_eq_false c5
        have c5b1 : decide (10000 < l0_31.length) = false := decide_eq_false (by omega)
        clear c5
        replace H := Option.bind_eq_some_iff.mp H
        obtain ⟨t111, A70, H⟩ := H
        replace H : (if t111 = true then ((purflingref08_length.f a0_33).bind fun t112 => (purflingref08_Right.j0 k (!t112) a0_0 l0_1 a0_2 a0_3 a0_4 a0_5 a0_6 a0_7 a0_8 a0_9 a0_10 a0_11 a0_12 a0_13 a0_14 a0_15 a0_16 a0_17 a0_18 a0_19 a0_20 a0_21 a0_22 a0_23 a0_24 a0_25 a0_26 a0_27 a0_28 a0_29 a0_30 l0_31 a0_32 a0_33)) else (purflingref08_Right.j0 k true a0_0 l0_1 a0_2 a0_3 a0_4 a0_5 a0_6 a0_7 a0_8 a0_9 a0_10 a0_11 a0_12 a0_13 a0_14 a0_15 a0_16 a0_17 a0_18 a0_19 a0_20 a0_21 a0_22 a0_23 a0_24 a0_25 a0_26 a0_27 a0_28 a0_29 a0_30 l0_31 a0_32 a0_33)) = some r := H
        have A7 := Aside0.mk A70
        clear A70
        by_cases c8 : t111 = true
        · subst c8
          have H1 : ((purflingref08_length.f a0_33).bind fun t112 => (purflingref08_Right.j0 k (!t112) a0_0 l0_1 a0_2 a0_3 a0_4 a0_5 a0_6 a0_7 a0_8 a0_9 a0_10 a0_11 a0_12 a0_13 a0_14 a0_15 a0_16 a0_17 a0_18 a0_19 a0_20 a0_21 a0_22 a0_23 a0_24 a0_25 a0_26 a0_27 a0_28 a0_29 a0_30 l0_31 a0_32 a0_33)) = some r := by rw [if_pos rfl] at H; exact H
          clear H
          have H := H1
          clear H1
          replace H := Option.bind_eq_some_iff.mp H
          obtain ⟨t112, A90, H⟩ := H
          replace H : (purflingref08_Right.j0 k (!t112) a0_0 l0_1 a0_2 a0_3 a0_4 a0_5 a0_6 a0_7 a0_8 a0_9 a0_10 a0_11 a0_12 a0_13 a0_14 a0_15 a0_16 a0_17 a0_18 a0_19 a0_20 a0_21 a0_22 a0_23 a0_24 a0_25 a0_26 a0_27 a0_28 a0_29 a0_30 l0_31 a0_32 a0_33) = some r := H
          have A9 := Aside0.mk A90
          clear A90
          have H' := Aside0.mk H
          clear H
          have hcz10_0 : w3.cell? ⟨gb110, 0, none⟩ = some (.int .i64 a0_0) := (blk_cell BK110.out 0).trans rfl
          have hcz10_1 : w3.cell? ⟨gb110, 1, none⟩ = some (.slice A0_1 l0_1.length c0_1) := (blk_cell BK110.out 1).trans rfl
          have hcz10_2 : w3.cell? ⟨gb110, 2, none⟩ = some (.int .i64 a0_2) := (blk_cell BK110.out 2).trans rfl
          have hcz10_3 : w3.cell? ⟨gb110, 3, none⟩ = some (.int .i64 a0_3) := (blk_cell BK110.out 3).trans rfl
          have hcz10_4 : w3.cell? ⟨gb110, 4, none⟩ = some (.int .i64 a0_4) := (blk_cell BK110.out 4).trans rfl
          have hcz10_5 : w3.cell? ⟨gb110, 5, none⟩ = some (.int .i64 a0_5) := (blk_cell BK110.out 5).trans rfl
          have hcz10_6 : w3.cell? ⟨gb110, 6, none⟩ = some (.int .i64 a0_6) := (blk_cell BK110.out 6).trans rfl
          have hcz10_7 : w3.cell? ⟨gb110, 7, none⟩ = some (.int .i64 a0_7) := (blk_cell BK110.out 7).trans rfl
          have hcz10_8 : w3.cell? ⟨gb110, 8, none⟩ = some (.int .i64 a0_8) := (blk_cell BK110.out 8).trans rfl
          have hcz10_9 : w3.cell? ⟨gb110, 9, none⟩ = some (.int .i64 a0_9) := (blk_cell BK110.out 9).trans rfl
          have hcz10_10 : w3.cell? ⟨gb110, 10, none⟩ = some (.int .i64 a0_10) := (blk_cell BK110.out 10).trans rfl
          have hcz10_11 : w3.cell? ⟨gb110, 11, none⟩ = some (.int .i64 a0_11) := (blk_cell BK110.out 11).trans rfl
          have hcz10_12 : w3.cell? ⟨gb110, 12, none⟩ = some (.int .u32 a0_12) := (blk_cell BK110.out 12).trans rfl
          have hcz10_13 : w3.cell? ⟨gb110, 13, none⟩ = some (.int .i64 a0_13) := (blk_cell BK110.out 13).trans rfl
          have hcz10_14 : w3.cell? ⟨gb110, 14, none⟩ = some (.int .i64 a0_14) := (blk_cell BK110.out 14).trans rfl
          have hcz10_15 : w3.cell? ⟨gb110, 15, none⟩ = some (.int .u32 a0_15) := (blk_cell BK110.out 15).trans rfl
          have hcz10_16 : w3.cell? ⟨gb110, 16, none⟩ = some (.int .i64 a0_16) := (blk_cell BK110.out 16).trans rfl
          have hcz10_17 : w3.cell? ⟨gb110, 17, none⟩ = some (.int .i64 a0_17) := (blk_cell BK110.out 17).trans rfl
          have hcz10_18 : w3.cell? ⟨gb110, 18, none⟩ = some (.int .u32 a0_18) := (blk_cell BK110.out 18).trans rfl
          have hcz10_19 : w3.cell? ⟨gb110, 19, none⟩ = some (.int .i64 a0_19) := (blk_cell BK110.out 19).trans rfl
          have hcz10_20 : w3.cell? ⟨gb110, 20, none⟩ = some (.int .i64 a0_20) := (blk_cell BK110.out 20).trans rfl
          have hcz10_21 : w3.cell? ⟨gb110, 21, none⟩ = some (.int .u32 a0_21) := (blk_cell BK110.out 21).trans rfl
          have hcz10_22 : w3.cell? ⟨gb110, 22, none⟩ = some (.int .i64 a0_22) := (blk_cell BK110.out 22).trans rfl
          have hcz10_23 : w3.cell? ⟨gb110, 23, none⟩ = some (.int .i64 a0_23) := (blk_cell BK110.out 23).trans rfl
          have hcz10_24 : w3.cell? ⟨gb110, 24, none⟩ = some (.int .i64 a0_24) := (blk_cell BK110.out 24).trans rfl
          have hcz10_25 : w3.cell? ⟨gb110, 25, none⟩ = some (.bool a0_25) := (blk_cell BK110.out 25).trans rfl
          have hcz10_26 : w3.cell? ⟨gb110, 26, none⟩ = some (.bool a0_26) := (blk_cell BK110.out 26).trans rfl
          have hcz10_27 : w3.cell? ⟨gb110, 27, none⟩ = some (.int .i64 a0_27) := (blk_cell BK110.out 27).trans rfl
          have hcz10_28 : w3.cell? ⟨gb110, 28, none⟩ = some (.int .i64 a0_28) := (blk_cell BK110.out 28).trans rfl
          have hcz10_29 : w3.cell? ⟨gb110, 29, none⟩ = some (.bool a0_29) := (blk_cell BK110.out 29).trans rfl
          have hcz10_30 : w3.cell? ⟨gb110, 30, none⟩ = some (.bool a0_30) := (blk_cell BK110.out 30).trans rfl
          have hcz10_31 : w3.cell? ⟨gb110, 31, none⟩ = some (.slice A0_31 l0_31.length c0_31) := (blk_cell BK110.out 31).trans rfl
          have hcz10_32 : w3.cell? ⟨gb110, 32, none⟩ = some (.int .i64 a0_32) := (blk_cell BK110.out 32).trans rfl
          have hcz10_33 : w3.cell? ⟨gb110, 33, none⟩ = some (.int .i64 a0_33) := (blk_cell BK110.out 33).trans rfl
          have hfz10_0 := blk_frozen BK110.out 0
          have hfz10_1 := blk_frozen BK110.out 1
          have hfz10_2 := blk_frozen BK110.out 2
          have hfz10_3 := blk_frozen BK110.out 3
          have hfz10_4 := blk_frozen BK110.out 4
          have hfz10_5 := blk_frozen BK110.out 5
          have hfz10_6 := blk_frozen BK110.out 6
          have hfz10_7 := blk_frozen BK110.out 7
          have hfz10_8 := blk_frozen BK110.out 8
          have hfz10_9 := blk_frozen BK110.out 9
          have hfz10_10 := blk_frozen BK110.out 10
          have hfz10_11 := blk_frozen BK110.out 11
          have hfz10_12 := blk_frozen BK110.out 12
          have hfz10_13 := blk_frozen BK110.out 13
          have hfz10_14 := blk_frozen BK110.out 14
          have hfz10_15 := blk_frozen BK110.out 15
          have hfz10_16 := blk_frozen BK110.out 16
          have hfz10_17 := blk_frozen BK110.out 17
          have hfz10_18 := blk_frozen BK110.out 18
          have hfz10_19 := blk_frozen BK110.out 19
          have hfz10_20 := blk_frozen BK110.out 20
          have hfz10_21 := blk_frozen BK110.out 21
          have hfz10_22 := blk_frozen BK110.out 22
          have hfz10_23 := blk_frozen BK110.out 23
          have hfz10_24 := blk_frozen BK110.out 24
          have hfz10_25 := blk_frozen BK110.out 25
          have hfz10_26 := blk_frozen BK110.out 26
          have hfz10_27 := blk_frozen BK110.out 27
          have hfz10_28 := blk_frozen BK110.out 28
          have hfz10_29 := blk_frozen BK110.out 29
          have hfz10_30 := blk_frozen BK110.out 30
          have hfz10_31 := blk_frozen BK110.out 31
          have hfz10_32 := blk_frozen BK110.out 32
          have hfz10_33 := blk_frozen BK110.out 33
          go_wp2_with (first | (go_at_call 27; (with_reducible refine (purflingref08_length.calls a0_32 true _ A7.out).mono ?_); rintro e w' ⟨rfl, ⟨nd, rfl⟩⟩) | (go_at_call 27; (with_reducible refine (purflingref08_length.calls a0_33 t112 _ A9.out).mono ?_); rintro e w' ⟨rfl, ⟨nd, rfl⟩⟩))
          go_meet
          case rel => exact ⟨_, (!t112), (by first | rfl | (simp; done) | (simp [*]; done)), H', ⟨by first | omega | exact Nat.le_refl _⟩, ⟨by (with_reducible repeat (first | refine blk_drewN ?_ _ | refine blk_drew ?_ | refine blk_alloc ?_ _)); exact BK110.out⟩, ⟨by repeat (first | (with_reducible first | exact HB.out | apply below_alloc | apply pw_below_drewN | apply below_drew1 | refine below_set ?_ GE110.out) | exact HB.out)⟩⟩
        · replace c8 := Bool.eq_false_iff.mpr c8
          subst c8
          have H1 : (purflingref08_Right.j0 k true a0_0 l0_1 a0_2 a0_3 a0_4 a0_5 a0_6 a0_7 a0_8 a0_9 a0_10 a0_11 a0_12 a0_13 a0_14 a0_15 a0_16 a0_17 a0_18 a0_19 a0_20 a0_21 a0_22 a0_23 a0_24 a0_25 a0_26 a0_27 a0_28 a0_29 a0_30 l0_31 a0_32 a0_33) = some r := by rw [if_neg (show ¬ (false = true) by decide)] at H; exact H
          clear H
          have H := H1
          clear H1
          have H' := Aside0.mk H
          clear H
          have hcz11_0 : w3.cell? ⟨gb110, 0, none⟩ = some (.int .i64 a0_0) := (blk_cell BK110.out 0).trans rfl
          have hcz11_1 : w3.cell? ⟨gb110, 1, none⟩ = some (.slice A0_1 l0_1.length c0_1) := (blk_cell BK110.out 1).trans rfl
          have hcz11_2 : w3.cell? ⟨gb110, 2, none⟩ = some (.int .i64 a0_2) := (blk_cell BK110.out 2).trans rfl
          have hcz11_3 : w3.cell? ⟨gb110, 3, none⟩ = some (.int .i64 a0_3) := (blk_cell BK110.out 3).trans rfl
          have hcz11_4 : w3.cell? ⟨gb110, 4, none⟩ = some (.int .i64 a0_4) := (blk_cell BK110.out 4).trans rfl
          have hcz11_5 : w3.cell? ⟨gb110, 5, none⟩ = some (.int .i64 a0_5) := (blk_cell BK110.out 5).trans rfl
          have hcz11_6 : w3.cell? ⟨gb110, 6, none⟩ = some (.int .i64 a0_6) := (blk_cell BK110.out 6).trans rfl
          have hcz11_7 : w3.cell? ⟨gb110, 7, none⟩ = some (.int .i64 a0_7) := (blk_cell BK110.out 7).trans rfl
          have hcz11_8 : w3.cell? ⟨gb110, 8, none⟩ = some (.int .i64 a0_8) := (blk_cell BK110.out 8).trans rfl
          have hcz11_9 : w3.cell? ⟨gb110, 9, none⟩ = some (.int .i64 a0_9) := (blk_cell BK110.out 9).trans rfl
          have hcz11_10 : w3.cell? ⟨gb110, 10, none⟩ = some (.int .i64 a0_10) := (blk_cell BK110.out 10).trans rfl
          have hcz11_11 : w3.cell? ⟨gb110, 11, none⟩ = some (.int .i64 a0_11) := (blk_cell BK110.out 11).trans rfl
          have hcz11_12 : w3.cell? ⟨gb110, 12, none⟩ = some (.int .u32 a0_12) := (blk_cell BK110.out 12).trans rfl
          have hcz11_13 : w3.cell? ⟨gb110, 13, none⟩ = some (.int .i64 a0_13) := (blk_cell BK110.out 13).trans rfl
          have hcz11_14 : w3.cell? ⟨gb110, 14, none⟩ = some (.int .i64 a0_14) := (blk_cell BK110.out 14).trans rfl
          have hcz11_15 : w3.cell? ⟨gb110, 15, none⟩ = some (.int .u32 a0_15) := (blk_cell BK110.out 15).trans rfl
          have hcz11_16 : w3.cell? ⟨gb110, 16, none⟩ = some (.int .i64 a0_16) := (blk_cell BK110.out 16).trans rfl
          have hcz11_17 : w3.cell? ⟨gb110, 17, none⟩ = some (.int .i64 a0_17) := (blk_cell BK110.out 17).trans rfl
          have hcz11_18 : w3.cell? ⟨gb110, 18, none⟩ = some (.int .u32 a0_18) := (blk_cell BK110.out 18).trans rfl
          have hcz11_19 : w3.cell? ⟨gb110, 19, none⟩ = some (.int .i64 a0_19) := (blk_cell BK110.out 19).trans rfl
          have hcz11_20 : w3.cell? ⟨gb110, 20, none⟩ = some (.int .i64 a0_20) := (blk_cell BK110.out 20).trans rfl
          have hcz11_21 : w3.cell? ⟨gb110, 21, none⟩ = some (.int .u32 a0_21) := (blk_cell BK110.out 21).trans rfl
          have hcz11_22 : w3.cell? ⟨gb110, 22, none⟩ = some (.int .i64 a0_22) := (blk_cell BK110.out 22).trans rfl
          have hcz11_23 : w3.cell? ⟨gb110, 23, none⟩ = some (.int .i64 a0_23) := (blk_cell BK110.out 23).trans rfl
          have hcz11_24 : w3.cell? ⟨gb110, 24, none⟩ = some (.int .i64 a0_24) := (blk_cell BK110.out 24).trans rfl
          have hcz11_25 : w3.cell? ⟨gb110, 25, none⟩ = some (.bool a0_25) := (blk_cell BK110.out 25).trans rfl
          have hcz11_26 : w3.cell? ⟨gb110, 26, none⟩ = some (.bool a0_26) := (blk_cell BK110.out 26).trans rfl
          have hcz11_27 : w3.cell? ⟨gb110, 27, none⟩ = some (.int .i64 a0_27) := (blk_cell BK110.out 27).trans rfl
          have hcz11_28 : w3.cell? ⟨gb110, 28, none⟩ = some (.int .i64 a0_28) := (blk_cell BK110.out 28).trans rfl
          have hcz11_29 : w3.cell? ⟨gb110, 29, none⟩ = some (.bool a0_29) := (blk_cell BK110.out 29).trans rfl
          have hcz11_30 : w3.cell? ⟨gb110, 30, none⟩ = some (.bool a0_30) := (blk_cell BK110.out 30).trans rfl
          have hcz11_31 : w3.cell? ⟨gb110, 31, none⟩ = some (.slice A0_31 l0_31.length c0_31) := (blk_cell BK110.out 31).trans rfl
          have hcz11_32 : w3.cell? ⟨gb110, 32, none⟩ = some (.int .i64 a0_32) := (blk_cell BK110.out 32).trans rfl
          have hcz11_33 : w3.cell? ⟨gb110, 33, none⟩ = some (.int .i64 a0_33) := (blk_cell BK110.out 33).trans rfl
          have hfz11_0 := blk_frozen BK110.out 0
          have hfz11_1 := blk_frozen BK110.out 1
          have hfz11_2 := blk_frozen BK110.out 2
          have hfz11_3 := blk_frozen BK110.out 3
          have hfz11_4 := blk_frozen BK110.out 4
          have hfz11_5 := blk_frozen BK110.out 5
          have hfz11_6 := blk_frozen BK110.out 6
          have hfz11_7 := blk_frozen BK110.out 7
          have hfz11_8 := blk_frozen BK110.out 8
          have hfz11_9 := blk_frozen BK110.out 9
          have hfz11_10 := blk_frozen BK110.out 10
          have hfz11_11 := blk_frozen BK110.out 11
          have hfz11_12 := blk_frozen BK110.out 12
          have hfz11_13 := blk_frozen BK110.out 13
          have hfz11_14 := blk_frozen BK110.out 14
          have hfz11_15 := blk_frozen BK110.out 15
          have hfz11_16 := blk_frozen BK110.out 16
          have hfz11_17 := blk_frozen BK110.out 17
          have hfz11_18 := blk_frozen BK110.out 18
          have hfz11_19 := blk_frozen BK110.out 19
          have hfz11_20 := blk_frozen BK110.out 20
          have hfz11_21 := blk_frozen BK110.out 21
          have hfz11_22 := blk_frozen BK110.out 22
          have hfz11_23 := blk_frozen BK110.out 23
          have hfz11_24 := blk_frozen BK110.out 24
          have hfz11_25 := blk_frozen BK110.out 25
          have hfz11_26 := blk_frozen BK110.out 26
          have hfz11_27 := blk_frozen BK110.out 27
          have hfz11_28 := blk_frozen BK110.out 28
          have hfz11_29 := blk_frozen BK110.out 29
          have hfz11_30 := blk_frozen BK110.out 30
          have hfz11_31 := blk_frozen BK110.out 31
          have hfz11_32 := blk_frozen BK110.out 32
          have hfz11_33 := blk_frozen BK110.out 33
          go_wp2_with (first | (go_at_call 27; (with_reducible refine (purflingref08_length.calls a0_32 false _ A7.out).mono ?_); rintro e w' ⟨rfl, ⟨nd, rfl⟩⟩))
          go_meet
          case rel => exact ⟨_, (true), (by first | rfl | (simp; done) | (simp [*]; done)), H', ⟨by first | omega | exact Nat.le_refl _⟩, ⟨by (with_reducible repeat (first | refine blk_drewN ?_ _ | refine blk_drew ?_ | refine blk_alloc ?_ _)); exact BK110.out⟩, ⟨by repeat (first | (with_reducible first | exact HB.out | apply below_alloc | apply pw_below_drewN | apply below_drew1 | refine below_set ?_ GE110.out) | exact HB.out)⟩⟩
    · rw [if_neg c4] at H
      have c4b0 : (a0_0 == 1) = false := beq_eq_false_iff_ne.mpr c4
      have c4b1 : (a0_0 != 1) = true := bne_iff_ne.mpr c4
      (first | rw [c4b0] | (simp only [i64_w, i32_w]; rw [c4b0]) | skip)
      have H' := Aside0.mk H
      clear H
      have hcz12_0 : w3.cell? ⟨gb110, 0, none⟩ = some (.int .i64 a0_0) := (blk_cell BK110.out 0).trans rfl
      have hcz12_1 : w3.cell? ⟨gb110, 1, none⟩ = some (.slice A0_1 l0_1.length c0_1) := (blk_cell BK110.out 1).trans rfl
      have hcz12_2 : w3.cell? ⟨gb110, 2, none⟩ = some (.int .i64 a0_2) := (blk_cell BK110.out 2).trans rfl
      have hcz12_3 : w3.cell? ⟨gb110, 3, none⟩ = some (.int .i64 a0_3) := (blk_cell BK110.out 3).trans rfl
      have hcz12_4 : w3.cell? ⟨gb110, 4, none⟩ = some (.int .i64 a0_4) := (blk_cell BK110.out 4).trans rfl
      have hcz12_5 : w3.cell? ⟨gb110, 5, none⟩ = some (.int .i64 a0_5) := (blk_cell BK110.out 5).trans rfl
      have hcz12_6 : w3.cell? ⟨gb110, 6, none⟩ = some (.int .i64 a0_6) := (blk_cell BK110.out 6).trans rfl
      have hcz12_7 : w3.cell? ⟨gb110, 7, none⟩ = some (.int .i64 a0_7) := (blk_cell BK110.out 7).trans rfl
      have hcz12_8 : w3.cell? ⟨gb110, 8, none⟩ = some (.int .i64 a0_8) := (blk_cell BK110.out 8).trans rfl
      have hcz12_9 : w3.cell? ⟨gb110, 9, none⟩ = some (.int .i64 a0_9) := (blk_cell BK110.out 9).trans rfl
      have hcz12_10 : w3.cell? ⟨gb110, 10, none⟩ = some (.int .i64 a0_10) := (blk_cell BK110.out 10).trans rfl
      have hcz12_11 : w3.cell? ⟨gb110, 11, none⟩ = some (.int .i64 a0_11) := (blk_cell BK110.out 11).trans rfl
      have hcz12_12 : w3.cell? ⟨gb110, 12, none⟩ = some (.int .u32 a0_12) := (blk_cell BK110.out 12).trans rfl
      have hcz12_13 : w3.cell? ⟨gb110, 13, none⟩ = some (.int .i64 a0_13) := (blk_cell BK110.out 13).trans rfl
      have hcz12_14 : w3.cell? ⟨gb110, 14, none⟩ = some (.int .i64 a0_14) := (blk_cell BK110.out 14).trans rfl
      have hcz12_15 : w3.cell? ⟨gb110, 15, none⟩ = some (.int .u32 a0_15) := (blk_cell BK110.out 15).trans rfl
      have hcz12_16 : w3.cell? ⟨gb110, 16, none⟩ = some (.int .i64 a0_16) := (blk_cell BK110.out 16).trans rfl
      have hcz12_17 : w3.cell? ⟨gb110, 17, none⟩ = some (.int .i64 a0_17) := (blk_cell BK110.out 17).trans rfl
      have hcz12_18 : w3.cell? ⟨gb110, 18, none⟩ = some (.int .u32 a0_18) := (blk_cell BK110.out 18).trans rfl
      have hcz12_19 : w3.cell? ⟨gb110, 19, none⟩ = some (.int .i64 a0_19) := (blk_cell BK110.out 19).trans rfl
      have hcz12_20 : w3.cell? ⟨gb110, 20, none⟩ = some (.int .i64 a0_20) := (blk_cell BK110.out 20).trans rfl
      have hcz12_21 : w3.cell? ⟨gb110, 21, none⟩ = some (.int .u32 a0_21) := (blk_cell BK110.out 21).trans rfl
      have hcz12_22 : w3.cell? ⟨gb110, 22, none⟩ = some (.int .i64 a0_22) := (blk_cell BK110.out 22).trans rfl
      have hcz12_23 : w3.cell? ⟨gb110, 23, none⟩ = some (.int .i64 a0_23) := (blk_cell BK110.out 23).trans rfl
      have hcz12_24 : w3.cell? ⟨gb110, 24, none⟩ = some (.int .i64 a0_24) := (blk_cell BK110.out 24).trans rfl
      have hcz12_25 : w3.cell? ⟨gb110, 25, none⟩ = some (.bool a0_25) := (blk_cell BK110.out 25).trans rfl
      have hcz12_26 : w3.cell? ⟨gb110, 26, none⟩ = some (.bool a0_26) := (blk_cell BK110.out 26).trans rfl
      have hcz12_27 : w3.cell? ⟨gb110, 27, none⟩ = some (.int .i64 a0_27) := (blk_cell BK110.out 27).trans rfl
      have hcz12_28 : w3.cell? ⟨gb110, 28, none⟩ = some (.int .i64 a0_28) := (blk_cell BK110.out 28).trans rfl
      have hcz12_29 : w3.cell? ⟨gb110, 29, none⟩ = some (.bool a0_29) := (blk_cell BK110.out 29).trans rfl
      have hcz12_30 : w3.cell? ⟨gb110, 30, none⟩ = some (.bool a0_30) := (blk_cell BK110.out 30).trans rfl
      have hcz12_31 : w3.cell? ⟨gb110, 31, none⟩ = some (.slice A0_31 l0_31.length c0_31) := (blk_cell BK110.out 31).trans rfl
      have hcz12_32 : w3.cell? ⟨gb110, 32, none⟩ = some (.int .i64 a0_32) := (blk_cell BK110.out 32).trans rfl
      have hcz12_33 : w3.cell? ⟨gb110, 33, none⟩ = some (.int .i64 a0_33) := (blk_cell BK110.out 33).trans rfl
      have hfz12_0 := blk_frozen BK110.out 0
      have hfz12_1 := blk_frozen BK110.out 1
      have hfz12_2 := blk_frozen BK110.out 2
      have hfz12_3 := blk_frozen BK110.out 3
      have hfz12_4 := blk_frozen BK110.out 4
      have hfz12_5 := blk_frozen BK110.out 5
      have hfz12_6 := blk_frozen BK110.out 6
      have hfz12_7 := blk_frozen BK110.out 7
      have hfz12_8 := blk_frozen BK110.out 8
      have hfz12_9 := blk_frozen BK110.out 9
      have hfz12_10 := blk_frozen BK110.out 10
      have hfz12_11 := blk_frozen BK110.out 11
      have hfz12_12 := blk_frozen BK110.out 12
      have hfz12_13 := blk_frozen BK110.out 13
      have hfz12_14 := blk_frozen BK110.out 14
      have hfz12_15 := blk_frozen BK110.out 15
      have hfz12_16 := blk_frozen BK110.out 16
      have hfz12_17 := blk_frozen BK110.out 17
      have hfz12_18 := blk_frozen BK110.out 18
      have hfz12_19 := blk_frozen BK110.out 19
      have hfz12_20 := blk_frozen BK110.out 20
      have hfz12_21 := blk_frozen BK110.out 21
      have hfz12_22 := blk_frozen BK110.out 22
      have hfz12_23 := blk_frozen BK110.out 23
      have hfz12_24 := blk_frozen BK110.out 24
      have hfz12_25 := blk_frozen BK110.out 25
      have hfz12_26 := blk_frozen BK110.out 26
      have hfz12_27 := blk_frozen BK110.out 27
      have hfz12_28 := blk_frozen BK110.out 28
      have hfz12_29 := blk_frozen BK110.out 29
      have hfz12_30 := blk_frozen BK110.out 30
      have hfz12_31 := blk_frozen BK110.out 31
      have hfz12_32 := blk_frozen BK110.out 32
      have hfz12_33 := blk_frozen BK110.out 33
      go_wp2
      go_meet
      case rel => exact ⟨_, (true), (by first | rfl | (simp; done) | (simp [*]; done)), H', ⟨by first | omega | exact Nat.le_refl _⟩, ⟨by (with_reducible repeat (first | refine blk_drewN ?_ _ | refine blk_drew ?_ | refine blk_alloc ?_ _)); exact BK110.out⟩, ⟨by repeat (first | (with_reducible first | exact HB.out | apply below_alloc | apply pw_below_drewN | apply below_drew1 | refine below_set ?_ GE110.out) | exact HB.out)⟩⟩
  case rest =>
    clear HC2
    try clear c1
    try clear p2
    try clear c4
    try clear c4b0
    try clear c4b1
    try clear c5
    try clear c5b0
    try clear c5b1
    try clear c8
    try clear hcz10_0
    try clear hcz10_1
    try clear hcz10_10
    try clear hcz10_11
    try clear hcz10_12
    try clear hcz10_13
    try clear hcz10_14
    try clear hcz10_15
    try clear hcz10_16
    try clear hcz10_17
    try clear hcz10_18
    try clear hcz10_19
    try clear hcz10_2
    try clear hcz10_20
    try clear hcz10_21
    try clear hcz10_22
    try clear hcz10_23
    try clear hcz10_24
    try clear hcz10_25
    try clear hcz10_26
    try clear hcz10_27
    try clear hcz10_28
    try clear hcz10_29
    try clear hcz10_3
    try clear hcz10_30
    try clear hcz10_31
    try clear hcz10_32
    try clear hcz10_33
    try clear hcz10_4
    try clear hcz10_5
    try clear hcz10_6
    try clear hcz10_7
    try clear hcz10_8
    try clear hcz10_9
    try clear hcz11_0
    try clear hcz11_1
    try clear hcz11_10
    try clear hcz11_11
    try clear hcz11_12
    try clear hcz11_13
    try clear hcz11_14
    try clear hcz11_15
    try clear hcz11_16
    try clear hcz11_17
    try clear hcz11_18
    try clear hcz11_19
    try clear hcz11_2
    try clear hcz11_20
    try clear hcz11_21
    try clear hcz11_22
    try clear hcz11_23
    try clear hcz11_24
    try clear hcz11_25
    try clear hcz11_26
    try clear hcz11_27
    try clear hcz11_28
    try clear hcz11_29
    try clear hcz11_3
    try clear hcz11_30
    try clear hcz11_31
    try clear hcz11_32
    try clear hcz11_33
    try clear hcz11_4
    try clear hcz11_5
    try clear hcz11_6
    try clear hcz11_7
    try clear hcz11_8
    try clear hcz11_9
    try clear hcz12_0
    try clear hcz12_1
    try clear hcz12_10
    try clear hcz12_11
    try clear hcz12_12
    try clear hcz12_13
    try clear hcz12_14
    try clear hcz12_15
    try clear hcz12_16
    try clear hcz12_17
    try clear hcz12_18
    try clear hcz12_19
    try clear hcz12_2
    try clear hcz12_20
    try clear hcz12_21
    try clear hcz12_22
    try clear hcz12_23
    try clear hcz12_24
    try clear hcz12_25
    try clear hcz12_26
    try clear hcz12_27
    try clear hcz12_28
    try clear hcz12_29
    try clear hcz12_3
    try clear hcz12_30
    try clear hcz12_31
    try clear hcz12_32
    try clear hcz12_33
    try clear hcz12_4
    try clear hcz12_5
    try clear hcz12_6
    try clear hcz12_7
    try clear hcz12_8
    try clear hcz12_9
    try clear hcz6_0
    try clear hcz6_1
    try clear hcz6_10
    try clear hcz6_11
    try clear hcz6_12
    try clear hcz6_13
    try clear hcz6_14
    try clear hcz6_15
    try clear hcz6_16
    try clear hcz6_17
    try clear hcz6_18
    try clear hcz6_19
    try clear hcz6_2
    try clear hcz6_20
    try clear hcz6_21
    try clear hcz6_22
    try clear hcz6_23
    try clear hcz6_24
    try clear hcz6_25
    try clear hcz6_26
    try clear hcz6_27
    try clear hcz6_28
    try clear hcz6_29
    try clear hcz6_3
    try clear hcz6_30
    try clear hcz6_31
    try clear hcz6_32
    try clear hcz6_33
    try clear hcz6_4
    try clear hcz6_5
    try clear hcz6_6
    try clear hcz6_7
    try clear hcz6_8
    try clear hcz6_9
    try clear hfz10_0
    try clear hfz10_1
    try clear hfz10_10
    try clear hfz10_11
    try clear hfz10_12
    try clear hfz10_13
    try clear hfz10_14
    try clear hfz10_15
    try clear hfz10_16
    try clear hfz10_17
    try clear hfz10_18
    try clear hfz10_19
    try clear hfz10_2
    try clear hfz10_20
    try clear hfz10_21
    try clear hfz10_22
    try clear hfz10_23
    try clear hfz10_24
    try clear hfz10_25
    try clear hfz10_26
    try clear hfz10_27
    try clear hfz10_28
    try clear hfz10_29
    try clear hfz10_3
    try clear hfz10_30
    try clear hfz10_31
    try clear hfz10_32
    try clear hfz10_33
    try clear hfz10_4
    try clear hfz10_5
    try clear hfz10_6
    try clear hfz10_7
    try clear hfz10_8
    try clear hfz10_9
    try clear hfz11_0
    try clear hfz11_1
    try clear hfz11_10
    try clear hfz11_11
    try clear hfz11_12
    try clear hfz11_13
    try clear hfz11_14
    try clear hfz11_15
    try clear hfz11_16
    try clear hfz11_17
    try clear hfz11_18
    try clear hfz11_19
    try clear hfz11_2
    try clear hfz11_20
    try clear hfz11_21
    try clear hfz11_22
    try clear hfz11_23
    try clear hfz11_24
    try clear hfz11_25
    try clear hfz11_26
    try clear hfz11_27
    try clear hfz11_28
    try clear hfz11_29
    try clear hfz11_3
    try clear hfz11_30
    try clear hfz11_31
    try clear hfz11_32
    try clear hfz11_33
    try clear hfz11_4
    try clear hfz11_5
    try clear hfz11_6
    try clear hfz11_7
    try clear hfz11_8
    try clear hfz11_9
    try clear hfz12_0
    try clear hfz12_1
    try clear hfz12_10
    try clear hfz12_11
    try clear hfz12_12
    try clear hfz12_13
    try clear hfz12_14
    try clear hfz12_15
    try clear hfz12_16
    try clear hfz12_17
    try clear hfz12_18
    try clear hfz12_19
    try clear hfz12_2
    try clear hfz12_20
    try clear hfz12_21
    try clear hfz12_22
    try clear hfz12_23
    try clear hfz12_24
    try clear hfz12_25
    try clear hfz12_26
    try clear hfz12_27
    try clear hfz12_28
    try clear hfz12_29
    try clear hfz12_3
    try clear hfz12_30
    try clear hfz12_31
    try clear hfz12_32
    try clear hfz12_33
    try clear hfz12_4
    try clear hfz12_5
    try clear hfz12_6
    try clear hfz12_7
    try clear hfz12_8
    try clear hfz12_9
    try clear hfz6_0
    try clear hfz6_1
    try clear hfz6_10
    try clear hfz6_11
    try clear hfz6_12
    try clear hfz6_13
    try clear hfz6_14
    try clear hfz6_15
    try clear hfz6_16
    try clear hfz6_17
    try clear hfz6_18
    try clear hfz6_19
    try clear hfz6_2
    try clear hfz6_20
    try clear hfz6_21
    try clear hfz6_22
    try clear hfz6_23
    try clear hfz6_24
    try clear hfz6_25
    try clear hfz6_26
    try clear hfz6_27
    try clear hfz6_28
    try clear hfz6_29
    try clear hfz6_3
    try clear hfz6_30
    try clear hfz6_31
    try clear hfz6_32
    try clear hfz6_33
    try clear hfz6_4
    try clear hfz6_5
    try clear hfz6_6
    try clear hfz6_7
    try clear hfz6_8
    try clear hfz6_9
    obtain ⟨kq, x24_1, rfl, HA, HJ1, BK110, HB⟩ := hcut
    cases kq with
    | zero => exact absurd HA.out (by simp [purflingref08_Right.j0])
    | succ kj1 =>
      have H := HA.out
      clear HA
      simp only [purflingref08_Right.j0] at H
      by_cases c13 : x24_1 = true
      · subst c13
        have H1 : (some false) = some r := by rw [if_pos rfl] at H; exact H
        clear H
        have H := H1
        clear H1
        obtain rfl := Option.some.inj H
        go_wp2
        go_ret
        exact ⟨by first | rfl | (simp [errW_none, errW_some] <;> rfl) | (simp [*, errW_none, errW_some] <;> rfl), by repeat (first | (with_reducible first | exact HB.out | apply below_alloc | apply pw_below_drewN | apply below_drew1 | refine below_set ?_ GE110.out) | exact HB.out)⟩
      · replace c13 := Bool.eq_false_iff.mpr c13
        subst c13
        have H1 : (purflingref08_Right.l0 kj1 0 a0_0 l0_1 a0_2 a0_3 a0_4 a0_5 a0_6 a0_7 a0_8 a0_9 a0_10 a0_11 a0_12 a0_13 a0_14 a0_15 a0_16 a0_17 a0_18 a0_19 a0_20 a0_21 a0_22 a0_23 a0_24 a0_25 a0_26 a0_27 a0_28 a0_29 a0_30 l0_31 a0_32 a0_33) = some r := by rw [if_neg (show ¬ (false = true) by decide)] at H; exact H
        clear H
        have H := H1
        clear H1
        have H' := Aside0.mk H
        clear H
        go_wp2
        go_loopg [3] kj1 (fun kq v3 w' => ∃ (x3_2 : Int), v3 = .int .i64 x3_2 ∧ Aside0 (purflingref08_Right.l0 kq x3_2 a0_0 l0_1 a0_2 a0_3 a0_4 a0_5 a0_6 a0_7 a0_8 a0_9 a0_10 a0_11 a0_12 a0_13 a0_14 a0_15 a0_16 a0_17 a0_18 a0_19 a0_20 a0_21 a0_22 a0_23 a0_24 a0_25 a0_26 a0_27 a0_28 a0_29 a0_30 l0_31 a0_32 a0_33 = some r) ∧ Aside0 (kq ≤ kj1) ∧ Aside0 (w'.heap[gb110]? = some (.cells #[.int .i64 a0_0, (.slice A0_1 l0_1.length c0_1), .int .i64 a0_2, .int .i64 a0_3, .int .i64 a0_4, .int .i64 a0_5, .int .i64 a0_6, .int .i64 a0_7, .int .i64 a0_8, .int .i64 a0_9, .int .i64 a0_10, .int .i64 a0_11, .int .u32 a0_12, .int .i64 a0_13, .int .i64 a0_14, .int .u32 a0_15, .int .i64 a0_16, .int .i64 a0_17, .int .u32 a0_18, .int .i64 a0_19, .int .i64 a0_20, .int .u32 a0_21, .int .i64 a0_22, .int .i64 a0_23, .int .i64 a0_24, .bool a0_25, .bool a0_26, .int .i64 a0_27, .int .i64 a0_28, .bool a0_29, .bool a0_30, (.slice A0_31 l0_31.length c0_31), .int .i64 a0_32, .int .i64 a0_33] 35 (0, 0))) ∧ Aside0 (Below w.heap.size w w'))
        case atStart => exact ⟨(0), (by first | rfl | (simp; done) | (simp [*]; done)), H', ⟨Nat.le_refl _⟩, ⟨by (with_reducible repeat (first | refine blk_drewN ?_ _ | refine blk_drew ?_ | refine blk_alloc ?_ _)); exact BK110.out⟩, ⟨by repeat (first | (with_reducible first | exact HB.out | apply below_alloc | apply pw_below_drewN | apply below_drew1 | refine below_set ?_ GE110.out) | exact HB.out)⟩⟩
        case round =>
          clear H'
          try clear c1
          try clear p2
          try clear c4
          try clear c4b0
          try clear c4b1
          try clear c5
          try clear c5b0
          try clear c5b1
          try clear c8
          try clear c13
          try clear hcz10_0
          try clear hcz10_1
          try clear hcz10_10
          try clear hcz10_11
          try clear hcz10_12
          try clear hcz10_13
          try clear hcz10_14
          try clear hcz10_15
          try clear hcz10_16
          try clear hcz10_17
          try clear hcz10_18
          try clear hcz10_19
          try clear hcz10_2
          try clear hcz10_20
          try clear hcz10_21
          try clear hcz10_22
          try clear hcz10_23
          try clear hcz10_24
          try clear hcz10_25
          try clear hcz10_26
          try clear hcz10_27
          try clear hcz10_28
          try clear hcz10_29
          try clear hcz10_3
          try clear hcz10_30
          try clear hcz10_31
          try clear hcz10_32
          try clear hcz10_33
          try clear hcz10_4
          try clear hcz10_5
          try clear hcz10_6
          try clear hcz10_7
          try clear hcz10_8
          try clear hcz10_9
          try clear hcz11_0
          try clear hcz11_1
          try clear hcz11_10
          try clear hcz11_11
          try clear hcz11_12
          try clear hcz11_13
          try clear hcz11_14
          try clear hcz11_15
          try clear hcz11_16
          try clear hcz11_17
          try clear hcz11_18
          try clear hcz11_19
          try clear hcz11_2
          try clear hcz11_20
          try clear hcz11_21
          try clear hcz11_22
          try clear hcz11_23
          try clear hcz11_24
          try clear hcz11_25
          try clear hcz11_26
          try clear hcz11_27
          try clear hcz11_28
          try clear hcz11_29
          try clear hcz11_3
          try clear hcz11_30
          try clear hcz11_31
          try clear hcz11_32
          try clear hcz11_33
          try clear hcz11_4
          try clear hcz11_5
          try clear hcz11_6
          try clear hcz11_7
          try clear hcz11_8
          try clear hcz11_9
          try clear hcz12_0
          try clear hcz12_1
          try clear hcz12_10
          try clear hcz12_11
          try clear hcz12_12
          try clear hcz12_13
          try clear hcz12_14
          try clear hcz12_15
          try clear hcz12_16
          try clear hcz12_17
          try clear hcz12_18
          try clear hcz12_19
          try clear hcz12_2
          try clear hcz12_20
          try clear hcz12_21
          try clear hcz12_22
          try clear hcz12_23
          try clear hcz12_24
          try clear hcz12_25
          try clear hcz12_26
          try clear hcz12_27
          try clear hcz12_28
          try clear hcz12_29
          try clear hcz12_3
          try clear hcz12_30
          try clear hcz12_31
          try clear hcz12_32
          try clear hcz12_33
          try clear hcz12_4
          try clear hcz12_5
          try clear hcz12_6
          try clear hcz12_7
          try clear hcz12_8
          try clear hcz12_9
          try clear hcz6_0
          try clear hcz6_1
          try clear hcz6_10
          try clear hcz6_11
          try clear hcz6_12
          try clear hcz6_13
          try clear hcz6_14
          try clear hcz6_15
          try clear hcz6_16
          try clear hcz6_17
          try clear hcz6_18
          try clear hcz6_19
          try clear hcz6_2
          try clear hcz6_20
          try clear hcz6_21
          try clear hcz6_22
          try clear hcz6_23
          try clear hcz6_24
          try clear hcz6_25
          try clear hcz6_26
          try clear hcz6_27
          try clear hcz6_28
          try clear hcz6_29
          try clear hcz6_3
          try clear hcz6_30
          try clear hcz6_31
          try clear hcz6_32
          try clear hcz6_33
          try clear hcz6_4
          try clear hcz6_5
          try clear hcz6_6
          try clear hcz6_7
          try clear hcz6_8
          try clear hcz6_9
          try clear hfz10_0
          try clear hfz10_1
          try clear hfz10_10
          try clear hfz10_11
          try clear hfz10_12
          try clear hfz10_13
          try clear hfz10_14
          try clear hfz10_15
          try clear hfz10_16
          try clear hfz10_17
          try clear hfz10_18
          try clear hfz10_19
          try clear hfz10_2
          try clear hfz10_20
          try clear hfz10_21
          try clear hfz10_22
          try clear hfz10_23
          try clear hfz10_24
          try clear hfz10_25
          try clear hfz10_26
          try clear hfz10_27
          try clear hfz10_28
          try clear hfz10_29
          try clear hfz10_3
          try clear hfz10_30
          try clear hfz10_31
          try clear hfz10_32
          try clear hfz10_33
          try clear hfz10_4
          try clear hfz10_5
          try clear hfz10_6
          try clear hfz10_7
          try clear hfz10_8
          try clear hfz10_9
          try clear hfz11_0
          try clear hfz11_1
          try clear hfz11_10
          try clear hfz11_11
          try clear hfz11_12
          try clear hfz11_13
          try clear hfz11_14
          try clear hfz11_15
          try clear hfz11_16
          try clear hfz11_17
          try clear hfz11_18
          try clear hfz11_19
          try clear hfz11_2
          try clear hfz11_20
          try clear hfz11_21
          try clear hfz11_22
          try clear hfz11_23
          try clear hfz11_24
          try clear hfz11_25
          try clear hfz11_26
          try clear hfz11_27
          try clear hfz11_28
          try clear hfz11_29
          try clear hfz11_3
          try clear hfz11_30
          try clear hfz11_31
          try clear hfz11_32
          try clear hfz11_33
          try clear hfz11_4
          try clear hfz11_5
          try clear hfz11_6
          try clear hfz11_7
          try clear hfz11_8
          try clear hfz11_9
          try clear hfz12_0
          try clear hfz12_1
          try clear hfz12_10
          try clear hfz12_11
          try clear hfz12_12
          try clear hfz12_13
          try clear hfz12_14
          try clear hfz12_15
          try clear hfz12_16
          try clear hfz12_17
          try clear hfz12_18
          try clear hfz12_19
          try clear hfz12_2
          try clear hfz12_20
          try clear hfz12_21
          try clear hfz12_22
          try clear hfz12_23
          try clear hfz12_24
          try clear hfz12_25
          try clear hfz12_26
          try clear hfz12_27
          try clear hfz12_28
          try clear hfz12_29
          try clear hfz12_3
          try clear hfz12_30
          try clear hfz12_31
          try clear hfz12_32
          try clear hfz12_33
          try clear hfz12_4
          try clear hfz12_5
          try clear hfz12_6
          try clear hfz12_7
          try clear hfz12_8
          try clear hfz12_9
          try clear hfz6_0
          try clear hfz6_1
          try clear hfz6_10
          try clear hfz6_11
          try clear hfz6_12
          try clear hfz6_13
          try clear hfz6_14
          try clear hfz6_15
          try clear hfz6_16
          try clear hfz6_17
          try clear hfz6_18
          try clear hfz6_19
          try clear hfz6_2
          try clear hfz6_20
          try clear hfz6_21
          try clear hfz6_22
          try clear hfz6_23
          try clear hfz6_24
          try clear hfz6_25
          try clear hfz6_26
          try clear hfz6_27
          try clear hfz6_28
          try clear hfz6_29
          try clear hfz6_3
          try clear hfz6_30
          try clear hfz6_31
          try clear hfz6_32
          try clear hfz6_33
          try clear hfz6_4
          try clear hfz6_5
          try clear hfz6_6
          try clear hfz6_7
          try clear hfz6_8
          try clear hfz6_9
          try clear p2
          obtain ⟨x3_2, rfl, HA, HK2, BK110, HB⟩ := hrel
          cases gk with
          | zero => exact absurd HA.out (by simp [purflingref08_Right.l0])
          | succ k2 =>
            have H := HA.out
            clear HA
            simp only [purflingref08_Right.l0] at H
            by_cases c14 : x3_2 < (l0_31.length : Int)
            · rw [if_pos c14] at H
              have c14b0 : decide (x3_2 < (l0_31.length : Int)) = true := decide_eq_true c14
              clear c14
              by_cases c15 : 0 ≤ x3_2
              · rw [if_pos c15] at H
                have c15b0 : decide (0 ≤ x3_2) = true := decide_eq_true c15
                clear c15
                replace H := Option.bind_eq_some_iff.mp H
                obtain ⟨t114, A160, H⟩ := H
                replace H : (if t114 = true then (purflingref08_Right.l0 k2 (wrap64 (x3_2 + 1)) a0_0 l0_1 a0_2 a0_3 a0_4 a0_5 a0_6 a0_7 a0_8 a0_9 a0_10 a0_11 a0_12 a0_13 a0_14 a0_15 a0_16 a0_17 a0_18 a0_19 a0_20 a0_21 a0_22 a0_23 a0_24 a0_25 a0_26 a0_27 a0_28 a0_29 a0_30 l0_31 a0_32 a0_33) else (some false)) = some r := H
                have A16 := Aside0.mk A160
                clear A160
                by_cases c17 : t114 = true
                · subst c17
                  have H1 : (purflingref08_Right.l0 k2 (wrap64 (x3_2 + 1)) a0_0 l0_1 a0_2 a0_3 a0_4 a0_5 a0_6 a0_7 a0_8 a0_9 a0_10 a0_11 a0_12 a0_13 a0_14 a0_15 a0_16 a0_17 a0_18 a0_19 a0_20 a0_21 a0_22 a0_23 a0_24 a0_25 a0_26 a0_27 a0_28 a0_29 a0_30 l0_31 a0_32 a0_33) = some r := by rw [if_pos rfl] at H; exact H
                  clear H
                  have H := H1
                  clear H1
                  have H' := Aside0.mk H
                  clear H
                  have hcz18_0 : wr.cell? ⟨gb110, 0, none⟩ = some (.int .i64 a0_0) := (blk_cell BK110.out 0).trans rfl
                  have hcz18_1 : wr.cell? ⟨gb110, 1, none⟩ = some (.slice A0_1 l0_1.length c0_1) := (blk_cell BK110.out 1).trans rfl
                  have hcz18_2 : wr.cell? ⟨gb110, 2, none⟩ = some (.int .i64 a0_2) := (blk_cell BK110.out 2).trans rfl
                  have hcz18_3 : wr.cell? ⟨gb110, 3, none⟩ = some (.int .i64 a0_3) := (blk_cell BK110.out 3).trans rfl
                  have hcz18_4 : wr.cell? ⟨gb110, 4, none⟩ = some (.int .i64 a0_4) := (blk_cell BK110.out 4).trans rfl
                  have hcz18_5 : wr.cell? ⟨gb110, 5, none⟩ = some (.int .i64 a0_5) := (blk_cell BK110.out 5).trans rfl
                  have hcz18_6 : wr.cell? ⟨gb110, 6, none⟩ = some (.int .i64 a0_6) := (blk_cell BK110.out 6).trans rfl
                  have hcz18_7 : wr.cell? ⟨gb110, 7, none⟩ = some (.int .i64 a0_7) := (blk_cell BK110.out 7).trans rfl
                  have hcz18_8 : wr.cell? ⟨gb110, 8, none⟩ = some (.int .i64 a0_8) := (blk_cell BK110.out 8).trans rfl
                  have hcz18_9 : wr.cell? ⟨gb110, 9, none⟩ = some (.int .i64 a0_9) := (blk_cell BK110.out 9).trans rfl
                  have hcz18_10 : wr.cell? ⟨gb110, 10, none⟩ = some (.int .i64 a0_10) := (blk_cell BK110.out 10).trans rfl
                  have hcz18_11 : wr.cell? ⟨gb110, 11, none⟩ = some (.int .i64 a0_11) := (blk_cell BK110.out 11).trans rfl
                  have hcz18_12 : wr.cell? ⟨gb110, 12, none⟩ = some (.int .u32 a0_12) := (blk_cell BK110.out 12).trans rfl
                  have hcz18_13 : wr.cell? ⟨gb110, 13, none⟩ = some (.int .i64 a0_13) := (blk_cell BK110.out 13).trans rfl
                  have hcz18_14 : wr.cell? ⟨gb110, 14, none⟩ = some (.int .i64 a0_14) := (blk_cell BK110.out 14).trans rfl
                  have hcz18_15 : wr.cell? ⟨gb110, 15, none⟩ = some (.int .u32 a0_15) := (blk_cell BK110.out 15).trans rfl
                  have hcz18_16 : wr.cell? ⟨gb110, 16, none⟩ = some (.int .i64 a0_16) := (blk_cell BK110.out 16).trans rfl
                  have hcz18_17 : wr.cell? ⟨gb110, 17, none⟩ = some (.int .i64 a0_17) := (blk_cell BK110.out 17).trans rfl
                  have hcz18_18 : wr.cell? ⟨gb110, 18, none⟩ = some (.int .u32 a0_18) := (blk_cell BK110.out 18).trans rfl
                  have hcz18_19 : wr.cell? ⟨gb110, 19, none⟩ = some (.int .i64 a0_19) := (blk_cell BK110.out 19).trans rfl
                  have hcz18_20 : wr.cell? ⟨gb110, 20, none⟩ = some (.int .i64 a0_20) := (blk_cell BK110.out 20).trans rfl
                  have hcz18_21 : wr.cell? ⟨gb110, 21, none⟩ = some (.int .u32 a0_21) := (blk_cell BK110.out 21).trans rfl
                  have hcz18_22 : wr.cell? ⟨gb110, 22, none⟩ = some (.int .i64 a0_22) := (blk_cell BK110.out 22).trans rfl
                  have hcz18_23 : wr.cell? ⟨gb110, 23, none⟩ = some (.int .i64 a0_23) := (blk_cell BK110.out 23).trans rfl
                  have hcz18_24 : wr.cell? ⟨gb110, 24, none⟩ = some (.int .i64 a0_24) := (blk_cell BK110.out 24).trans rfl
                  have hcz18_25 : wr.cell? ⟨gb110, 25, none⟩ = some (.bool a0_25) := (blk_cell BK110.out 25).trans rfl
                  have hcz18_26 : wr.cell? ⟨gb110, 26, none⟩ = some (.bool a0_26) := (blk_cell BK110.out 26).trans rfl
                  have hcz18_27 : wr.cell? ⟨gb110, 27, none⟩ = some (.int .i64 a0_27) := (blk_cell BK110.out 27).trans rfl
                  have hcz18_28 : wr.cell? ⟨gb110, 28, none⟩ = some (.int .i64 a0_28) := (blk_cell BK110.out 28).trans rfl
                  have hcz18_29 : wr.cell? ⟨gb110, 29, none⟩ = some (.bool a0_29) := (blk_cell BK110.out 29).trans rfl
                  have hcz18_30 : wr.cell? ⟨gb110, 30, none⟩ = some (.bool a0_30) := (blk_cell BK110.out 30).trans rfl
                  have hcz18_31 : wr.cell? ⟨gb110, 31, none⟩ = some (.slice A0_31 l0_31.length c0_31) := (blk_cell BK110.out 31).trans rfl
                  have hcz18_32 : wr.cell? ⟨gb110, 32, none⟩ = some (.int .i64 a0_32) := (blk_cell BK110.out 32).trans rfl
                  have hcz18_33 : wr.cell? ⟨gb110, 33, none⟩ = some (.int .i64 a0_33) := (blk_cell BK110.out 33).trans rfl
                  have hfz18_0 := blk_frozen BK110.out 0
                  have hfz18_1 := blk_frozen BK110.out 1
                  have hfz18_2 := blk_frozen BK110.out 2
                  have hfz18_3 := blk_frozen BK110.out 3
                  have hfz18_4 := blk_frozen BK110.out 4
                  have hfz18_5 := blk_frozen BK110.out 5
                  have hfz18_6 := blk_frozen BK110.out 6
                  have hfz18_7 := blk_frozen BK110.out 7
                  have hfz18_8 := blk_frozen BK110.out 8
                  have hfz18_9 := blk_frozen BK110.out 9
                  have hfz18_10 := blk_frozen BK110.out 10
                  have hfz18_11 := blk_frozen BK110.out 11
                  have hfz18_12 := blk_frozen BK110.out 12
                  have hfz18_13 := blk_frozen BK110.out 13
                  have hfz18_14 := blk_frozen BK110.out 14
                  have hfz18_15 := blk_frozen BK110.out 15
                  have hfz18_16 := blk_frozen BK110.out 16
                  have hfz18_17 := blk_frozen BK110.out 17
                  have hfz18_18 := blk_frozen BK110.out 18
                  have hfz18_19 := blk_frozen BK110.out 19
                  have hfz18_20 := blk_frozen BK110.out 20
                  have hfz18_21 := blk_frozen BK110.out 21
                  have hfz18_22 := blk_frozen BK110.out 22
                  have hfz18_23 := blk_frozen BK110.out 23
                  have hfz18_24 := blk_frozen BK110.out 24
                  have hfz18_25 := blk_frozen BK110.out 25
                  have hfz18_26 := blk_frozen BK110.out 26
                  have hfz18_27 := blk_frozen BK110.out 27
                  have hfz18_28 := blk_frozen BK110.out 28
                  have hfz18_29 := blk_frozen BK110.out 29
                  have hfz18_30 := blk_frozen BK110.out 30
                  have hfz18_31 := blk_frozen BK110.out 31
                  have hfz18_32 := blk_frozen BK110.out 32
                  have hfz18_33 := blk_frozen BK110.out 33
                  have p113 : 0 ≤ (x3_2 : Int) := of_decide_eq_true (by first | (with_reducible assumption) | assumption)
                  have q113 : x3_2 < (l0_31.length : Int) := of_decide_eq_true (by first | (with_reducible assumption) | assumption)
                  obtain ⟨ad113, e113, hx113_0⟩ := Kd.at_int HR0_31.out x3_2 p113 q113
                  cases e113
                  replace hx113_0 := (HB.out.cell (World.block_lt_of_cell? w _ hx113_0)).trans hx113_0
                  replace p113 := eq_true p113
                  replace q113 := eq_true q113
                  go_wp2_with (first | ((with_reducible refine gate_callee (f := 27) rfl ?_); refine goesL_ (some 37) rfl rfl Try.func27 (by kernel_rfl) rfl #[.int .i64 (rd l0_31 x3_2)] rfl (by (try simp only [List.map_toArray, List.map_cons, List.map_nil]); first | done | rfl | (simp only [List.length_drop, List.length_take]; rfl)) ?_; (with_reducible refine (purflingref08_length.calls (rd l0_31 x3_2) true _ A16.out).mono ?_); rintro e w' ⟨rfl, ⟨nd, rfl⟩⟩; refine ⟨_, rfl, ?_⟩))
                  go_roundg k2
                  case measure => have := HJ1.out; have := HK2.out; omega
                  case rel => exact ⟨(wrap64 (x3_2 + 1)), (by first | rfl | (simp; done) | (simp [*]; done)), H', ⟨by have := HJ1.out; have := HK2.out; omega⟩, ⟨by (with_reducible repeat (first | refine blk_drewN ?_ _ | refine blk_drew ?_ | refine blk_alloc ?_ _)); exact BK110.out⟩, ⟨by repeat (first | (with_reducible first | exact HB.out | apply below_alloc | apply pw_below_drewN | apply below_drew1 | refine below_set ?_ GE110.out) | exact HB.out)⟩⟩
                · replace c17 := Bool.eq_false_iff.mpr c17
                  subst c17
                  have H1 : (some false) = some r := by rw [if_neg (show ¬ (false = true) by decide)] at H; exact H
                  clear H
                  have H := H1
                  clear H1
                  obtain rfl := Option.some.inj H
                  have hcz19_0 : wr.cell? ⟨gb110, 0, none⟩ = some (.int .i64 a0_0) := (blk_cell BK110.out 0).trans rfl
                  have hcz19_1 : wr.cell? ⟨gb110, 1, none⟩ = some (.slice A0_1 l0_1.length c0_1) := (blk_cell BK110.out 1).trans rfl
                  have hcz19_2 : wr.cell? ⟨gb110, 2, none⟩ = some (.int .i64 a0_2) := (blk_cell BK110.out 2).trans rfl
                  have hcz19_3 : wr.cell? ⟨gb110, 3, none⟩ = some (.int .i64 a0_3) := (blk_cell BK110.out 3).trans rfl
                  have hcz19_4 : wr.cell? ⟨gb110, 4, none⟩ = some (.int .i64 a0_4) := (blk_cell BK110.out 4).trans rfl
                  have hcz19_5 : wr.cell? ⟨gb110, 5, none⟩ = some (.int .i64 a0_5) := (blk_cell BK110.out 5).trans rfl
                  have hcz19_6 : wr.cell? ⟨gb110, 6, none⟩ = some (.int .i64 a0_6) := (blk_cell BK110.out 6).trans rfl
                  have hcz19_7 : wr.cell? ⟨gb110, 7, none⟩ = some (.int .i64 a0_7) := (blk_cell BK110.out 7).trans rfl
                  have hcz19_8 : wr.cell? ⟨gb110, 8, none⟩ = some (.int .i64 a0_8) := (blk_cell BK110.out 8).trans rfl
                  have hcz19_9 : wr.cell? ⟨gb110, 9, none⟩ = some (.int .i64 a0_9) := (blk_cell BK110.out 9).trans rfl
                  have hcz19_10 : wr.cell? ⟨gb110, 10, none⟩ = some (.int .i64 a0_10) := (blk_cell BK110.out 10).trans rfl
                  have hcz19_11 : wr.cell? ⟨gb110, 11, none⟩ = some (.int .i64 a0_11) := (blk_cell BK110.out 11).trans rfl
                  have hcz19_12 : wr.cell? ⟨gb110, 12, none⟩ = some (.int .u32 a0_12) := (blk_cell BK110.out 12).trans rfl
                  have hcz19_13 : wr.cell? ⟨gb110, 13, none⟩ = some (.int .i64 a0_13) := (blk_cell BK110.out 13).trans rfl
                  have hcz19_14 : wr.cell? ⟨gb110, 14, none⟩ = some (.int .i64 a0_14) := (blk_cell BK110.out 14).trans rfl
                  have hcz19_15 : wr.cell? ⟨gb110, 15, none⟩ = some (.int .u32 a0_15) := (blk_cell BK110.out 15).trans rfl
                  have hcz19_16 : wr.cell? ⟨gb110, 16, none⟩ = some (.int .i64 a0_16) := (blk_cell BK110.out 16).trans rfl
                  have hcz19_17 : wr.cell? ⟨gb110, 17, none⟩ = some (.int .i64 a0_17) := (blk_cell BK110.out 17).trans rfl
                  have hcz19_18 : wr.cell? ⟨gb110, 18, none⟩ = some (.int .u32 a0_18) := (blk_cell BK110.out 18).trans rfl
                  have hcz19_19 : wr.cell? ⟨gb110, 19, none⟩ = some (.int .i64 a0_19) := (blk_cell BK110.out 19).trans rfl
                  have hcz19_20 : wr.cell? ⟨gb110, 20, none⟩ = some (.int .i64 a0_20) := (blk_cell BK110.out 20).trans rfl
                  have hcz19_21 : wr.cell? ⟨gb110, 21, none⟩ = some (.int .u32 a0_21) := (blk_cell BK110.out 21).trans rfl
                  have hcz19_22 : wr.cell? ⟨gb110, 22, none⟩ = some (.int .i64 a0_22) := (blk_cell BK110.out 22).trans rfl
                  have hcz19_23 : wr.cell? ⟨gb110, 23, none⟩ = some (.int .i64 a0_23) := (blk_cell BK110.out 23).trans rfl
                  have hcz19_24 : wr.cell? ⟨gb110, 24, none⟩ = some (.int .i64 a0_24) := (blk_cell BK110.out 24).trans rfl
                  have hcz19_25 : wr.cell? ⟨gb110, 25, none⟩ = some (.bool a0_25) := (blk_cell BK110.out 25).trans rfl
                  have hcz19_26 : wr.cell? ⟨gb110, 26, none⟩ = some (.bool a0_26) := (blk_cell BK110.out 26).trans rfl
                  have hcz19_27 : wr.cell? ⟨gb110, 27, none⟩ = some (.int .i64 a0_27) := (blk_cell BK110.out 27).trans rfl
                  have hcz19_28 : wr.cell? ⟨gb110, 28, none⟩ = some (.int .i64 a0_28) := (blk_cell BK110.out 28).trans rfl
                  have hcz19_29 : wr.cell? ⟨gb110, 29, none⟩ = some (.bool a0_29) := (blk_cell BK110.out 29).trans rfl
                  have hcz19_30 : wr.cell? ⟨gb110, 30, none⟩ = some (.bool a0_30) := (blk_cell BK110.out 30).trans rfl
                  have hcz19_31 : wr.cell? ⟨gb110, 31, none⟩ = some (.slice A0_31 l0_31.length c0_31) := (blk_cell BK110.out 31).trans rfl
                  have hcz19_32 : wr.cell? ⟨gb110, 32, none⟩ = some (.int .i64 a0_32) := (blk_cell BK110.out 32).trans rfl
                  have hcz19_33 : wr.cell? ⟨gb110, 33, none⟩ = some (.int .i64 a0_33) := (blk_cell BK110.out 33).trans rfl
                  have hfz19_0 := blk_frozen BK110.out 0
                  have hfz19_1 := blk_frozen BK110.out 1
                  have hfz19_2 := blk_frozen BK110.out 2
                  have hfz19_3 := blk_frozen BK110.out 3
                  have hfz19_4 := blk_frozen BK110.out 4
                  have hfz19_5 := blk_frozen BK110.out 5
                  have hfz19_6 := blk_frozen BK110.out 6
                  have hfz19_7 := blk_frozen BK110.out 7
                  have hfz19_8 := blk_frozen BK110.out 8
                  have hfz19_9 := blk_frozen BK110.out 9
                  have hfz19_10 := blk_frozen BK110.out 10
                  have hfz19_11 := blk_frozen BK110.out 11
                  have hfz19_12 := blk_frozen BK110.out 12
                  have hfz19_13 := blk_frozen BK110.out 13
                  have hfz19_14 := blk_frozen BK110.out 14
                  have hfz19_15 := blk_frozen BK110.out 15
                  have hfz19_16 := blk_frozen BK110.out 16
                  have hfz19_17 := blk_frozen BK110.out 17
                  have hfz19_18 := blk_frozen BK110.out 18
                  have hfz19_19 := blk_frozen BK110.out 19
                  have hfz19_20 := blk_frozen BK110.out 20
                  have hfz19_21 := blk_frozen BK110.out 21
                  have hfz19_22 := blk_frozen BK110.out 22
                  have hfz19_23 := blk_frozen BK110.out 23
                  have hfz19_24 := blk_frozen BK110.out 24
                  have hfz19_25 := blk_frozen BK110.out 25
                  have hfz19_26 := blk_frozen BK110.out 26
                  have hfz19_27 := blk_frozen BK110.out 27
                  have hfz19_28 := blk_frozen BK110.out 28
                  have hfz19_29 := blk_frozen BK110.out 29
                  have hfz19_30 := blk_frozen BK110.out 30
                  have hfz19_31 := blk_frozen BK110.out 31
                  have hfz19_32 := blk_frozen BK110.out 32
                  have hfz19_33 := blk_frozen BK110.out 33
                  have p113 : 0 ≤ (x3_2 : Int) := of_decide_eq_true (by first | (with_reducible assumption) | assumption)
                  have q113 : x3_2 < (l0_31.length : Int) := of_decide_eq_true (by first | (with_reducible assumption) | assumption)
                  obtain ⟨ad113, e113, hx113_0⟩ := Kd.at_int HR0_31.out x3_2 p113 q113
                  cases e113
                  replace hx113_0 := (HB.out.cell (World.block_lt_of_cell? w _ hx113_0)).trans hx113_0
                  replace p113 := eq_true p113
                  replace q113 := eq_true q113
                  go_wp2_with (first | ((with_reducible refine gate_callee (f := 27) rfl ?_); refine goesL_ (some 37) rfl rfl Try.func27 (by kernel_rfl) rfl #[.int .i64 (rd l0_31 x3_2)] rfl (by (try simp only [List.map_toArray, List.map_cons, List.map_nil]); first | done | rfl | (simp only [List.length_drop, List.length_take]; rfl)) ?_; (with_reducible refine (purflingref08_length.calls (rd l0_31 x3_2) false _ A16.out).mono ?_); rintro e w' ⟨rfl, ⟨nd, rfl⟩⟩; refine ⟨_, rfl, ?_⟩))
                  go_ret
                  exact ⟨by first | rfl | (simp [errW_none, errW_some] <;> rfl) | (simp [*, errW_none, errW_some] <;> rfl), by repeat (first | (with_reducible first | exact HB.out | apply below_alloc | apply pw_below_drewN | apply below_drew1 | refine below_set ?_ GE110.out) | exact HB.out)⟩
              · rw [if_neg c15] at H
                exact absurd H (by simp)
            · rw [if_neg c14] at H
              have c14b0 : decide (x3_2 < (l0_31.length : Int)) = false := decide_eq_false c14
              clear c14
              obtain rfl := Option.some.inj H
              have hcz20_0 : wr.cell? ⟨gb110, 0, none⟩ = some (.int .i64 a0_0) := (blk_cell BK110.out 0).trans rfl
              have hcz20_1 : wr.cell? ⟨gb110, 1, none⟩ = some (.slice A0_1 l0_1.length c0_1) := (blk_cell BK110.out 1).trans rfl
              have hcz20_2 : wr.cell? ⟨gb110, 2, none⟩ = some (.int .i64 a0_2) := (blk_cell BK110.out 2).trans rfl
              have hcz20_3 : wr.cell? ⟨gb110, 3, none⟩ = some (.int .i64 a0_3) := (blk_cell BK110.out 3).trans rfl
              have hcz20_4 : wr.cell? ⟨gb110, 4, none⟩ = some (.int .i64 a0_4) := (blk_cell BK110.out 4).trans rfl
              have hcz20_5 : wr.cell? ⟨gb110, 5, none⟩ = some (.int .i64 a0_5) := (blk_cell BK110.out 5).trans rfl
              have hcz20_6 : wr.cell? ⟨gb110, 6, none⟩ = some (.int .i64 a0_6) := (blk_cell BK110.out 6).trans rfl
              have hcz20_7 : wr.cell? ⟨gb110, 7, none⟩ = some (.int .i64 a0_7) := (blk_cell BK110.out 7).trans rfl
              have hcz20_8 : wr.cell? ⟨gb110, 8, none⟩ = some (.int .i64 a0_8) := (blk_cell BK110.out 8).trans rfl
              have hcz20_9 : wr.cell? ⟨gb110, 9, none⟩ = some (.int .i64 a0_9) := (blk_cell BK110.out 9).trans rfl
              have hcz20_10 : wr.cell? ⟨gb110, 10, none⟩ = some (.int .i64 a0_10) := (blk_cell BK110.out 10).trans rfl
              have hcz20_11 : wr.cell? ⟨gb110, 11, none⟩ = some (.int .i64 a0_11) := (blk_cell BK110.out 11).trans rfl
              have hcz20_12 : wr.cell? ⟨gb110, 12, none⟩ = some (.int .u32 a0_12) := (blk_cell BK110.out 12).trans rfl
              have hcz20_13 : wr.cell? ⟨gb110, 13, none⟩ = some (.int .i64 a0_13) := (blk_cell BK110.out 13).trans rfl
              have hcz20_14 : wr.cell? ⟨gb110, 14, none⟩ = some (.int .i64 a0_14) := (blk_cell BK110.out 14).trans rfl
              have hcz20_15 : wr.cell? ⟨gb110, 15, none⟩ = some (.int .u32 a0_15) := (blk_cell BK110.out 15).trans rfl
              have hcz20_16 : wr.cell? ⟨gb110, 16, none⟩ = some (.int .i64 a0_16) := (blk_cell BK110.out 16).trans rfl
              have hcz20_17 : wr.cell? ⟨gb110, 17, none⟩ = some (.int .i64 a0_17) := (blk_cell BK110.out 17).trans rfl
              have hcz20_18 : wr.cell? ⟨gb110, 18, none⟩ = some (.int .u32 a0_18) := (blk_cell BK110.out 18).trans rfl
              have hcz20_19 : wr.cell? ⟨gb110, 19, none⟩ = some (.int .i64 a0_19) := (blk_cell BK110.out 19).trans rfl
              have hcz20_20 : wr.cell? ⟨gb110, 20, none⟩ = some (.int .i64 a0_20) := (blk_cell BK110.out 20).trans rfl
              have hcz20_21 : wr.cell? ⟨gb110, 21, none⟩ = some (.int .u32 a0_21) := (blk_cell BK110.out 21).trans rfl
              have hcz20_22 : wr.cell? ⟨gb110, 22, none⟩ = some (.int .i64 a0_22) := (blk_cell BK110.out 22).trans rfl
              have hcz20_23 : wr.cell? ⟨gb110, 23, none⟩ = some (.int .i64 a0_23) := (blk_cell BK110.out 23).trans rfl
              have hcz20_24 : wr.cell? ⟨gb110, 24, none⟩ = some (.int .i64 a0_24) := (blk_cell BK110.out 24).trans rfl
              have hcz20_25 : wr.cell? ⟨gb110, 25, none⟩ = some (.bool a0_25) := (blk_cell BK110.out 25).trans rfl
              have hcz20_26 : wr.cell? ⟨gb110, 26, none⟩ = some (.bool a0_26) := (blk_cell BK110.out 26).trans rfl
              have hcz20_27 : wr.cell? ⟨gb110, 27, none⟩ = some (.int .i64 a0_27) := (blk_cell BK110.out 27).trans rfl
              have hcz20_28 : wr.cell? ⟨gb110, 28, none⟩ = some (.int .i64 a0_28) := (blk_cell BK110.out 28).trans rfl
              have hcz20_29 : wr.cell? ⟨gb110, 29, none⟩ = some (.bool a0_29) := (blk_cell BK110.out 29).trans rfl
              have hcz20_30 : wr.cell? ⟨gb110, 30, none⟩ = some (.bool a0_30) := (blk_cell BK110.out 30).trans rfl
              have hcz20_31 : wr.cell? ⟨gb110, 31, none⟩ = some (.slice A0_31 l0_31.length c0_31) := (blk_cell BK110.out 31).trans rfl
              have hcz20_32 : wr.cell? ⟨gb110, 32, none⟩ = some (.int .i64 a0_32) := (blk_cell BK110.out 32).trans rfl
              have hcz20_33 : wr.cell? ⟨gb110, 33, none⟩ = some (.int .i64 a0_33) := (blk_cell BK110.out 33).trans rfl
              have hfz20_0 := blk_frozen BK110.out 0
              have hfz20_1 := blk_frozen BK110.out 1
              have hfz20_2 := blk_frozen BK110.out 2
              have hfz20_3 := blk_frozen BK110.out 3
              have hfz20_4 := blk_frozen BK110.out 4
              have hfz20_5 := blk_frozen BK110.out 5
              have hfz20_6 := blk_frozen BK110.out 6
              have hfz20_7 := blk_frozen BK110.out 7
              have hfz20_8 := blk_frozen BK110.out 8
              have hfz20_9 := blk_frozen BK110.out 9
              have hfz20_10 := blk_frozen BK110.out 10
              have hfz20_11 := blk_frozen BK110.out 11
              have hfz20_12 := blk_frozen BK110.out 12
              have hfz20_13 := blk_frozen BK110.out 13
              have hfz20_14 := blk_frozen BK110.out 14
              have hfz20_15 := blk_frozen BK110.out 15
              have hfz20_16 := blk_frozen BK110.out 16
              have hfz20_17 := blk_frozen BK110.out 17
              have hfz20_18 := blk_frozen BK110.out 18
              have hfz20_19 := blk_frozen BK110.out 19
              have hfz20_20 := blk_frozen BK110.out 20
              have hfz20_21 := blk_frozen BK110.out 21
              have hfz20_22 := blk_frozen BK110.out 22
              have hfz20_23 := blk_frozen BK110.out 23
              have hfz20_24 := blk_frozen BK110.out 24
              have hfz20_25 := blk_frozen BK110.out 25
              have hfz20_26 := blk_frozen BK110.out 26
              have hfz20_27 := blk_frozen BK110.out 27
              have hfz20_28 := blk_frozen BK110.out 28
              have hfz20_29 := blk_frozen BK110.out 29
              have hfz20_30 := blk_frozen BK110.out 30
              have hfz20_31 := blk_frozen BK110.out 31
              have hfz20_32 := blk_frozen BK110.out 32
              have hfz20_33 := blk_frozen BK110.out 33
              go_wp2
              go_ret
              exact ⟨by first | rfl | (simp [errW_none, errW_some] <;> rfl) | (simp [*, errW_none, errW_some] <;> rfl), by repeat (first | (with_reducible first | exact HB.out | apply below_alloc | apply pw_below_drewN | apply below_drew1 | refine below_set ?_ GE110.out) | exact HB.out)⟩

end Go.Proofs.Yteckkphbgfmolaa.K
