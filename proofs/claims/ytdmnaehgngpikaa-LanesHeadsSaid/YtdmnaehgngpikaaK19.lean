-- PRINTED by print.py (a twelfth state) out of the translation. Not trusted: Lean checks it.
import Derived.Test.YtdmnaehgngpikaaLaC
import Derived.Test.YtdmnaehgngpikaaLb2
import Derived.Test.YtdmnaehgngpikaaK0
import Derived.Test.YtdmnaehgngpikaaK10
namespace Go.Proofs.Ytdmnaehgngpikaa.K
open Go.RowKit Go.Proofs.YtdmnaehgngpikaaW.PrintWords Go.Proofs.YtdmnaehgngpikaaW.PrintLast Go.Proofs.YtdmnaehgngpikaaW.PrintMore
attribute [local go_sem] max2_int min2_int max_two min_two max_three min_three max_four min_four   -- for this text's walks alone
set_option linter.unusedVariables false
set_option linter.unusedSimpArgs false
/-! ### purflinglaw06_LanesHeads: function 5 -/
mutual
def purflinglaw06_LanesHeads.l0 : Nat → List (S48) → Int → Bool → List (S35) → Int → Int → Int → Option (Bool)
 | 0, _, _, _, _, _, _, _ => none
 | k + 1, x0, x1, x5, x6, x8, x9, x10 => if x10 ≥ 0 then (if 0 ≤ x1 then (if x1 < (x0.length : Int) then (if 0 ≤ x10 then (if x10 < (((rd_T48 x0 x1).f1).length : Int) then (if 0 ≤ (rd ((rd_T48 x0 x1).f1) x10) then (if (rd ((rd_T48 x0 x1).f1) x10) < (x0.length : Int) then (if ((rd_T48 x0 (rd ((rd_T48 x0 x1).f1) x10)).f0) = 6 then (if ((rd_T48 x0 (rd ((rd_T48 x0 x1).f1) x10)).f0) = 8 then (purflinglaw06_LanesHeads.l0 k x0 x1 x5 x6 (rd ((rd_T48 x0 x1).f1) x10) (rd ((rd_T48 x0 x1).f1) x10) (wrap64 (x10 - 1))) else (purflinglaw06_LanesHeads.l0 k x0 x1 x5 x6 (rd ((rd_T48 x0 x1).f1) x10) x9 (wrap64 (x10 - 1)))) else (if ((rd_T48 x0 (rd ((rd_T48 x0 x1).f1) x10)).f0) = 8 then (purflinglaw06_LanesHeads.l0 k x0 x1 x5 x6 x8 (rd ((rd_T48 x0 x1).f1) x10) (wrap64 (x10 - 1))) else (purflinglaw06_LanesHeads.l0 k x0 x1 x5 x6 x8 x9 (wrap64 (x10 - 1))))) else (none)) else (none)) else (none)) else (none)) else (none)) else (none)) else (purflinglaw06_LanesHeads.l1 k x5 x6 x8 x9 1)
def purflinglaw06_LanesHeads.l1 : Nat → Bool → List (S35) → Int → Int → Int → Option (Bool)
 | 0, _, _, _, _, _ => none
 | k + 1, x5, x6, x8, x9, x12 => if x12 < (x6.length : Int) then (if 0 ≤ x12 then (if ((rd_T35 x6 x12).f1) = x8 then (if x8 ≥ 0 then (if 0 ≤ (wrap64 (x12 - 1)) then (if (wrap64 (x12 - 1)) < (x6.length : Int) then (if ((rd_T35 x6 (wrap64 (x12 - 1))).f1) = x8 then (if ((rd_T35 x6 (wrap64 (x12 - 1))).f1) = x9 then (if x9 ≥ 0 then (if ((rd_T35 x6 x12).f1) = x9 then (purflinglaw06_LanesHeads.l1 k x5 x6 x8 x9 (wrap64 (x12 + 1))) else (some false)) else (purflinglaw06_LanesHeads.l1 k x5 x6 x8 x9 (wrap64 (x12 + 1)))) else (purflinglaw06_LanesHeads.l1 k x5 x6 x8 x9 (wrap64 (x12 + 1)))) else (some false)) else (none)) else (none)) else (if 0 ≤ (wrap64 (x12 - 1)) then (if (wrap64 (x12 - 1)) < (x6.length : Int) then (if ((rd_T35 x6 (wrap64 (x12 - 1))).f1) = x9 then (if x9 ≥ 0 then (if ((rd_T35 x6 x12).f1) = x9 then (purflinglaw06_LanesHeads.l1 k x5 x6 x8 x9 (wrap64 (x12 + 1))) else (some false)) else (purflinglaw06_LanesHeads.l1 k x5 x6 x8 x9 (wrap64 (x12 + 1)))) else (purflinglaw06_LanesHeads.l1 k x5 x6 x8 x9 (wrap64 (x12 + 1)))) else (none)) else (none))) else (if 0 ≤ (wrap64 (x12 - 1)) then (if (wrap64 (x12 - 1)) < (x6.length : Int) then (if ((rd_T35 x6 (wrap64 (x12 - 1))).f1) = x9 then (if x9 ≥ 0 then (if ((rd_T35 x6 x12).f1) = x9 then (purflinglaw06_LanesHeads.l1 k x5 x6 x8 x9 (wrap64 (x12 + 1))) else (some false)) else (purflinglaw06_LanesHeads.l1 k x5 x6 x8 x9 (wrap64 (x12 + 1)))) else (purflinglaw06_LanesHeads.l1 k x5 x6 x8 x9 (wrap64 (x12 + 1)))) else (none)) else (none))) else (none)) else (some x5)
end
def purflinglaw06_LanesHeads.f (k : Nat) (l0 : List (S48)) (a1 : Int) : Option (Bool) := (purflinglaw06_shown.f).bind fun t338 => ((purflinglaw04_Cut.f k l0).bind fun t339 => ((lanes_Rows.f t339 a1).bind fun bt342 => (if bt342.2 = 0 then (if 0 ≤ a1 then (if a1 < (t339.length : Int) then (purflinglaw06_LanesHeads.l0 k t339 a1 t338 bt342.1 (-1) (-1) (wrap64 ((((rd_T48 t339 a1).f1).length : Int) - 1))) else (none)) else (none)) else (some t338))))
theorem purflinglaw06_LanesHeads.mono_l : ∀ k, (∀ y0 y1 y2 y3 y4 y5 y6, LeO (purflinglaw06_LanesHeads.l0 k y0 y1 y2 y3 y4 y5 y6) (purflinglaw06_LanesHeads.l0 (k + 1) y0 y1 y2 y3 y4 y5 y6)) ∧ (∀ y0 y1 y2 y3 y4, LeO (purflinglaw06_LanesHeads.l1 k y0 y1 y2 y3 y4) (purflinglaw06_LanesHeads.l1 (k + 1) y0 y1 y2 y3 y4))
 | 0 => ⟨fun _ _ _ _ _ _ _ r h => by simp [purflinglaw06_LanesHeads.l0] at h, fun _ _ _ _ _ r h => by simp [purflinglaw06_LanesHeads.l1] at h⟩
 | k + 1 => by
  obtain ⟨ih0, ih1⟩ := purflinglaw06_LanesHeads.mono_l k
  refine ⟨?_, ?_⟩
  · intro y0 y1 y2 y3 y4 y5 y6
    unfold purflinglaw06_LanesHeads.l0
    repeat' first
    | (with_reducible exact ih0 _ _ _ _ _ _ _)
    | (with_reducible exact ih1 _ _ _ _ _)
    | (with_reducible exact purflinglaw04_Cut.mono _ _)
    | (with_reducible exact LeO.refl _)
    | (with_reducible exact LeO.none _)
    | (with_reducible refine LeO.ite ?_ ?_)
    | (with_reducible refine LeO.bind ?_ (fun _ => ?_))
    | exact ih0 _ _ _ _ _ _ _
    | exact ih1 _ _ _ _ _
    | exact purflinglaw04_Cut.mono _ _
    | exact LeO.none _
    | refine LeO.ite ?_ ?_
    | refine LeO.bind ?_ (fun _ => ?_)
  · intro y0 y1 y2 y3 y4
    unfold purflinglaw06_LanesHeads.l1
    repeat' first
    | (with_reducible exact ih0 _ _ _ _ _ _ _)
    | (with_reducible exact ih1 _ _ _ _ _)
    | (with_reducible exact purflinglaw04_Cut.mono _ _)
    | (with_reducible exact LeO.refl _)
    | (with_reducible exact LeO.none _)
    | (with_reducible refine LeO.ite ?_ ?_)
    | (with_reducible refine LeO.bind ?_ (fun _ => ?_))
    | exact ih0 _ _ _ _ _ _ _
    | exact ih1 _ _ _ _ _
    | exact purflinglaw04_Cut.mono _ _
    | exact LeO.none _
    | refine LeO.ite ?_ ?_
    | refine LeO.bind ?_ (fun _ => ?_)
theorem purflinglaw06_LanesHeads.mono : ∀ a0 a1 k, LeO (purflinglaw06_LanesHeads.f k a0 a1) (purflinglaw06_LanesHeads.f (k + 1) a0 a1) := by
 intro a0 a1 k
 obtain ⟨ih0, ih1⟩ := purflinglaw06_LanesHeads.mono_l k
 unfold purflinglaw06_LanesHeads.f
 repeat' first
  | (with_reducible exact ih0 _ _ _ _ _ _ _)
  | (with_reducible exact ih1 _ _ _ _ _)
  | (with_reducible exact purflinglaw04_Cut.mono _ _)
  | (with_reducible exact LeO.refl _)
  | (with_reducible exact LeO.none _)
  | (with_reducible refine LeO.ite ?_ ?_)
  | (with_reducible refine LeO.bind ?_ (fun _ => ?_))
  | exact ih0 _ _ _ _ _ _ _
  | exact ih1 _ _ _ _ _
  | exact purflinglaw04_Cut.mono _ _
  | exact LeO.none _
  | refine LeO.ite ?_ ?_
  | refine LeO.bind ?_ (fun _ => ?_)
set_option maxHeartbeats 8000000 in
set_option maxRecDepth 100000 in
theorem purflinglaw06_LanesHeads.calls (k : Nat) (A0 : Option Addr) (c0 : Nat) (l0 : List (S48)) (a1 : Int) (r : Bool) (w : World) (hr0 : Kd.C k48 w A0 l0.length l0) (hc0 : l0.length ≤ c0) (h : purflinglaw06_LanesHeads.f k l0 a1 = some r) :
 Calls Try.prog 5 #[.slice A0 l0.length c0, .int .i64 a1] w fun e w' => e = .returned (.bool r) ∧ Below w.heap.size w w' := by
 have HR0 := Aside0.mk hr0
 have HC0 := Aside0.mk hc0
 clear hr0 hc0
 have HB := Aside0.mk (Below.refl w.heap.size w)
 have H : ((purflinglaw06_shown.f).bind fun t338 => ((purflinglaw04_Cut.f k l0).bind fun t339 => ((lanes_Rows.f t339 a1).bind fun bt342 => (if bt342.2 = 0 then (if 0 ≤ a1 then (if a1 < (t339.length : Int) then (purflinglaw06_LanesHeads.l0 k t339 a1 t338 bt342.1 (-1) (-1) (wrap64 ((((rd_T48 t339 a1).f1).length : Int) - 1))) else (none)) else (none)) else (some t338))))) = some r := h
 clear h
 replace H := Option.bind_eq_some_iff.mp H
 obtain ⟨t338, A30, H⟩ := H
 replace H : ((purflinglaw04_Cut.f k l0).bind fun t339 => ((lanes_Rows.f t339 a1).bind fun bt342 => (if bt342.2 = 0 then (if 0 ≤ a1 then (if a1 < (t339.length : Int) then (purflinglaw06_LanesHeads.l0 k t339 a1 t338 bt342.1 (-1) (-1) (wrap64 ((((rd_T48 t339 a1).f1).length : Int) - 1))) else (none)) else (none)) else (some t338)))) = some r := H
 have A3 := Aside0.mk A30
 clear A30
 replace H := Option.bind_eq_some_iff.mp H
 obtain ⟨t339, A40, H⟩ := H
 replace H : ((lanes_Rows.f t339 a1).bind fun bt342 => (if bt342.2 = 0 then (if 0 ≤ a1 then (if a1 < (t339.length : Int) then (purflinglaw06_LanesHeads.l0 k t339 a1 t338 bt342.1 (-1) (-1) (wrap64 ((((rd_T48 t339 a1).f1).length : Int) - 1))) else (none)) else (none)) else (some t338))) = some r := H
 have A4 := Aside0.mk A40
 clear A40
 replace H := Option.bind_eq_some_iff.mp H
 obtain ⟨⟨t342, t343⟩, A50, H⟩ := H
 replace H : (if t343 = 0 then (if 0 ≤ a1 then (if a1 < (t339.length : Int) then (purflinglaw06_LanesHeads.l0 k t339 a1 t338 t342 (-1) (-1) (wrap64 ((((rd_T48 t339 a1).f1).length : Int) - 1))) else (none)) else (none)) else (some t338)) = some r := H
 have A5 := Aside0.mk A50
 clear A50
 by_cases c6 : t343 = 0
 · rw [if_pos c6] at H
   have c6b0 : (t343 == 0) = true := beq_iff_eq.mpr c6
   have c6b1 : (t343 != 0) = false := bne_eq_false_iff_eq.mpr c6
   clear c6
   by_cases c7 : 0 ≤ a1
   · rw [if_pos c7] at H
     have c7b0 : decide (0 ≤ a1) = true := decide_eq_true c7
     clear c7
     by_cases c8 : a1 < (t339.length : Int)
     · rw [if_pos c8] at H
       have c8b0 : decide (a1 < (t339.length : Int)) = true := decide_eq_true c8
       clear c8
       have H' := Aside0.mk H
       clear H
       go_enter Try.func5, Try.ntmps5
       go_wp2_with (first | ((with_reducible refine gate_callee (f := 10) rfl ?_); refine goesL_ (some 13) rfl rfl Try.func10 (by kernel_rfl) rfl #[] rfl (by (try simp only [List.map_toArray, List.map_cons, List.map_nil]); first | done | rfl | (simp only [List.length_drop, List.length_take]; rfl)) ?_; (with_reducible refine (purflinglaw06_shown.calls  t338 _ A3.out).mono ?_); rintro e w9 ⟨rfl, hb⟩; refine ⟨_, rfl, ?_⟩; have n0_ := Aside0.mk (below_step (by repeat (first | (with_reducible first | exact HB.out | apply below_alloc | apply pw_below_drewN | apply below_drew1) | exact HB.out)) hb); clear HB; have HB := n0_; clear n0_; (try clear hb); (try clear hb2); (try clear hk); (try clear hi)) | ((with_reducible refine gate_callee (f := 11) rfl ?_); refine goesL_ (some 15) rfl rfl Try.func11 (by kernel_rfl) rfl #[.slice A0 l0.length c0] rfl (by (try simp only [List.map_toArray, List.map_cons, List.map_nil]); first | done | rfl | (simp only [List.length_drop, List.length_take]; rfl)) ?_; (with_reducible refine (purflinglaw04_Cut.calls k (fun k_ => k_ < w.heap.size) _ _ l0 t339 _ ?side1 A4.out).mono ?_); (case side1 => exact Kd.V_mk HC0.out (Kd.F_below (Kd.C_F k48_heap HR0.out) (by repeat (first | (with_reducible first | exact HB.out | apply below_alloc | apply pw_below_drewN | apply below_drew1) | exact HB.out)))); rintro e w10 ⟨v340, rfl, ho0, hb⟩; refine ⟨_, rfl, ?_⟩; have n0_ := Aside0.mk (Kd.N_lower (Kd.N_mono (ok' := fun k_ => True) ho0 (fun k_ hk_ => trivial)) (below_size (by repeat (first | (with_reducible first | exact HB.out | apply below_alloc | apply pw_below_drewN | apply below_drew1) | exact HB.out)))); have n1_ := Aside0.mk (below_step (by repeat (first | (with_reducible first | exact HB.out | apply below_alloc | apply pw_below_drewN | apply below_drew1) | exact HB.out)) hb); clear HB; have HO341 := n0_; have HB := n1_; clear n0_ n1_; (try clear hb); (try clear hb2); (try clear hk); (try clear hi); (try clear ho0); obtain ⟨Ao11, co11, eo11⟩ := Kd.N_slice HO341.out; subst eo11) | ((with_reducible refine gate_callee (f := 16) rfl ?_); refine goesL_ (some 19) rfl rfl Try.func16 (by kernel_rfl) rfl #[.slice Ao11 t339.length co11, .int .i64 a1] rfl (by (try simp only [List.map_toArray, List.map_cons, List.map_nil]); first | done | rfl | (simp only [List.length_drop, List.length_take]; rfl)) ?_; (with_reducible refine (lanes_Rows.calls _ _ t339 a1 t342 t343 _ ?side1 ?side2 A5.out).mono ?_); (case side1 => repeat (first | exact (Kd.N_reads' HO341.out).2.2 | (with_reducible refine Kd.C_alloc ?_ _) | (with_reducible refine Kd.C_drewN ?_ _) | (with_reducible refine Kd.C_drew ?_))); (case side2 => exact (Kd.N_reads' HO341.out).2.1); rintro e w12 ⟨v344, rfl, ho0, hb⟩; refine ⟨_, rfl, ?_⟩; have n0_ := Aside0.mk (Kd.N_elder' (by (with_reducible repeat (first | apply Kd.N_alloc | apply Kd.N_drewN | apply Kd.N_drew)); exact HO341.out) (Kd.R_base ho0) hb); have n1_ := Aside0.mk (Kd.R_lower ho0 (below_size (by repeat (first | (with_reducible first | exact HB.out | apply below_alloc | apply pw_below_drewN | apply below_drew1) | exact HB.out)))); have n2_ := Aside0.mk (below_step (by repeat (first | (with_reducible first | exact HB.out | apply below_alloc | apply pw_below_drewN | apply below_drew1) | exact HB.out)) hb); clear HO341; clear HB; have HO341 := n0_; have HO345 := n1_; have HB := n2_; clear n0_ n1_ n2_; (try clear hb); (try clear hb2); (try clear hk); (try clear hi); (try clear ho0); have p346 : 0 ≤ (a1 : Int) := of_decide_eq_true (by first | (with_reducible assumption) | assumption); have q346 : a1 < (t339.length : Int) := of_decide_eq_true (by first | (with_reducible assumption) | assumption); obtain ⟨ad346, A346_1, c346_1, A346_31, c346_31, e346, hx346_0, hx346_1, hx346_2, hx346_3, hx346_4, hx346_5, hx346_6, hx346_7, hx346_8, hx346_9, hx346_10, hx346_11, hx346_12, hx346_13, hx346_14, hx346_15, hx346_16, hx346_17, hx346_18, hx346_19, hx346_20, hx346_21, hx346_22, hx346_23, hx346_24, hx346_25, hx346_26, hx346_27, hx346_28, hx346_29, hx346_30, hx346_31, hx346_32, hx346_33, hl346_1, hi346_1, hl346_31, hi346_31⟩ := at_T48 (Kd.N_reads' HO341.out).2.2 a1 p346 q346; cases e346; obtain ⟨ce346, hce346, hMe346, hcc346⟩ := Kd.N_get HO341.out z48 a1 p346 (by first | exact q346 | exact of_decide_eq_true (by first | (with_reducible assumption) | assumption) | (have e_ := (Kd.N_reads' HO341.out).1; omega)); obtain ⟨ua346_1, uc346_1, ua346_31, uc346_31, rfl, ul346_1, ge346_1, ul346_31, ge346_31⟩ := k48_openF hMe346; have hv346_1 := hcc346 1 _ rfl; rw [add_field _ _ 1 (by omega)] at hv346_1; replace hv346_1 := Option.some.inj (hv346_1.symm.trans hx346_1); injection hv346_1 with hva_ hvn_ hvc_; rw [hva_] at ge346_1; rw [hvc_] at ul346_1; have HL346_1 := Aside0.mk (show Kd.V (Kd.int .i64) 3 _ w.heap.size _ _ ((rd_T48 t339 a1).f1) from Kd.V_mk ul346_1 ge346_1); clear hva_ hvn_ hvc_ ge346_1 ul346_1; have hv346_31 := hcc346 31 _ rfl; rw [add_field _ _ 31 (by omega)] at hv346_31; replace hv346_31 := Option.some.inj (hv346_31.symm.trans hx346_31); injection hv346_31 with hva_ hvn_ hvc_; rw [hva_] at ge346_31; rw [hvc_] at ul346_31; have HL346_31 := Aside0.mk (show Kd.V (Kd.int .i64) 2 _ w.heap.size _ _ ((rd_T48 t339 a1).f3) from Kd.V_mk ul346_31 ge346_31); clear hva_ hvn_ hvc_ ge346_31 ul346_31; clear hcc346 hce346; have HR346_1 := Aside0.mk hi346_1; have HC346_1 := Aside0.mk hl346_1; clear hi346_1 hl346_1; have HR346_31 := Aside0.mk hi346_31; have HC346_31 := Aside0.mk hl346_31; clear hi346_31 hl346_31; replace p346 := eq_true p346; replace q346 := eq_true q346))
       go_loopg [8, 9, 10] k (fun kq v8 v9 v10 w' => ∃ (x8_1 : Int) (x9_1 : Int) (x10_1 : Int), v8 = .int .i64 x8_1 ∧ v9 = .int .i64 x9_1 ∧ v10 = .int .i64 x10_1 ∧ Aside0 (purflinglaw06_LanesHeads.l0 kq t339 a1 t338 t342 x8_1 x9_1 x10_1 = some r) ∧ Aside0 (kq ≤ k) ∧ Aside0 (Kd.N k48 48 w' w.heap.size (fun k_ => some k_ ≠ (v344 : Value).ownBlock) (.slice (some ad346) t339.length co11) t339) ∧ Aside0 (Kd.R k35 35 w' w.heap.size (fun _ => True) v344 t342) ∧ Aside0 (Kd.C (Kd.int .i64) w' A346_1 ((rd_T48 t339 a1).f1).length ((rd_T48 t339 a1).f1)) ∧ Aside0 (Kd.C (Kd.int .i64) w' A346_31 ((rd_T48 t339 a1).f3).length ((rd_T48 t339 a1).f3)) ∧ Aside0 (Below w.heap.size w w'))
       case atStart => exact ⟨((-1)), ((-1)), (wrap64 ((((rd_T48 t339 a1).f1).length : Int) - 1)), (by first | rfl | (simp; done) | (simp [*]; done)), (by first | rfl | (simp; done) | (simp [*]; done)), (by first | rfl | (simp; done) | (simp [*]; done)), H', ⟨Nat.le_refl _⟩, ⟨by (with_reducible repeat (first | apply Kd.N_alloc | apply Kd.N_drewN | apply Kd.N_drew)); exact Kd.N_mono HO341.out (fun _ hk => hk.2)⟩, ⟨by (with_reducible repeat (first | apply Kd.R_alloc | apply Kd.R_drewN | apply Kd.R_drew)); exact HO345.out⟩, ⟨by repeat (first | (with_reducible exact HR346_1.out) | (with_reducible refine Kd.C_alloc ?_ _) | (with_reducible refine Kd.C_drewN ?_ _) | (with_reducible refine Kd.C_drew ?_) | exact HR346_1.out)⟩, ⟨by repeat (first | (with_reducible exact HR346_31.out) | (with_reducible refine Kd.C_alloc ?_ _) | (with_reducible refine Kd.C_drewN ?_ _) | (with_reducible refine Kd.C_drew ?_) | exact HR346_31.out)⟩, ⟨by repeat (first | (with_reducible first | exact HB.out | apply below_alloc | apply pw_below_drewN | apply below_drew1) | exact HB.out)⟩⟩
       case round =>
        clear H'
        try clear c1
        try clear p2
        try clear c3
        try clear p3
        try clear q3
        try clear hx3
        try clear c5
        try clear c6
        try clear c6b0
        try clear c6b1
        try clear p6
        try clear c7
        try clear c7b0
        try clear c8
        try clear c8b0
        try clear c10
        try clear c11
        try clear hx346_0
        try clear hx346_1
        try clear hx346_10
        try clear hx346_11
        try clear hx346_12
        try clear hx346_13
        try clear hx346_14
        try clear hx346_15
        try clear hx346_16
        try clear hx346_17
        try clear hx346_18
        try clear hx346_19
        try clear hx346_2
        try clear hx346_20
        try clear hx346_21
        try clear hx346_22
        try clear hx346_23
        try clear hx346_24
        try clear hx346_25
        try clear hx346_26
        try clear hx346_27
        try clear hx346_28
        try clear hx346_29
        try clear hx346_3
        try clear hx346_30
        try clear hx346_31
        try clear hx346_32
        try clear hx346_33
        try clear hx346_4
        try clear hx346_5
        try clear hx346_6
        try clear hx346_7
        try clear hx346_8
        try clear hx346_9
        try clear p346
        try clear q346
        obtain ⟨x8_1, x9_1, x10_1, rfl, rfl, rfl, HA, HK1, HO_0, HO_6, HR346_1, HR346_31, HB⟩ := hrel
        cases gk with
        | zero => exact absurd HA.out (by simp [purflinglaw06_LanesHeads.l0])
        | succ k1 =>
         have H := HA.out
         clear HA
         simp only [purflinglaw06_LanesHeads.l0] at H
         by_cases c13 : x10_1 ≥ 0
         · rw [if_pos c13] at H
           have c13b0 : decide (0 ≤ x10_1) = true := decide_eq_true c13
           clear c13
           by_cases c14 : 0 ≤ a1
           · rw [if_pos c14] at H
             have c14b0 : decide (0 ≤ a1) = true := decide_eq_true c14
             clear c14
             by_cases c15 : a1 < (t339.length : Int)
             · rw [if_pos c15] at H
               have c15b0 : decide (a1 < (t339.length : Int)) = true := decide_eq_true c15
               clear c15
               by_cases c16 : 0 ≤ x10_1
               · rw [if_pos c16] at H
                 have c16b0 : decide (0 ≤ x10_1) = true := decide_eq_true c16
                 clear c16
                 by_cases c17 : x10_1 < (((rd_T48 t339 a1).f1).length : Int)
                 · rw [if_pos c17] at H
                   have c17b0 : decide (x10_1 < (((rd_T48 t339 a1).f1).length : Int)) = true := decide_eq_true c17
                   clear c17
                   by_cases c18 : 0 ≤ (rd ((rd_T48 t339 a1).f1) x10_1)
                   · rw [if_pos c18] at H
                     have c18b0 : decide (0 ≤ (rd ((rd_T48 t339 a1).f1) x10_1)) = true := decide_eq_true c18
                     clear c18
                     by_cases c19 : (rd ((rd_T48 t339 a1).f1) x10_1) < (t339.length : Int)
                     · rw [if_pos c19] at H
                       have c19b0 : decide ((rd ((rd_T48 t339 a1).f1) x10_1) < (t339.length : Int)) = true := decide_eq_true c19
                       clear c19
                       by_cases c20 : ((rd_T48 t339 (rd ((rd_T48 t339 a1).f1) x10_1)).f0) = 6
                       · rw [if_pos c20] at H
                         have c20b0 : (((rd_T48 t339 (rd ((rd_T48 t339 a1).f1) x10_1)).f0) == 6) = true := beq_iff_eq.mpr c20
                         have c20b1 : (((rd_T48 t339 (rd ((rd_T48 t339 a1).f1) x10_1)).f0) != 6) = false := bne_eq_false_iff_eq.mpr c20
                         clear c20
                         by_cases c21 : ((rd_T48 t339 (rd ((rd_T48 t339 a1).f1) x10_1)).f0) = 8
                         · rw [if_pos c21] at H
                           have c21b0 : (((rd_T48 t339 (rd ((rd_T48 t339 a1).f1) x10_1)).f0) == 8) = true := beq_iff_eq.mpr c21
                           have c21b1 : (((rd_T48 t339 (rd ((rd_T48 t339 a1).f1) x10_1)).f0) != 8) = false := bne_eq_false_iff_eq.mpr c21
                           clear c21
                           have H' := Aside0.mk H
                           clear H
                           have p347 : 0 ≤ (a1 : Int) := of_decide_eq_true (by first | (with_reducible assumption) | assumption)
                           have q347 : a1 < (t339.length : Int) := of_decide_eq_true (by first | (with_reducible assumption) | assumption)
                           obtain ⟨ad347, A347_1, c347_1, A347_31, c347_31, e347, hx347_0, hx347_1, hx347_2, hx347_3, hx347_4, hx347_5, hx347_6, hx347_7, hx347_8, hx347_9, hx347_10, hx347_11, hx347_12, hx347_13, hx347_14, hx347_15, hx347_16, hx347_17, hx347_18, hx347_19, hx347_20, hx347_21, hx347_22, hx347_23, hx347_24, hx347_25, hx347_26, hx347_27, hx347_28, hx347_29, hx347_30, hx347_31, hx347_32, hx347_33, hl347_1, hi347_1, hl347_31, hi347_31⟩ := at_T48 (Kd.N_reads' HO_0.out).2.2 a1 p347 q347
                           obtain rfl : ad346 = ad347 := (by injection e347)
                           obtain ⟨ce347, hce347, hMe347, hcc347⟩ := Kd.N_get HO_0.out z48 a1 p347 (by first | exact q347 | exact of_decide_eq_true (by first | (with_reducible assumption) | assumption) | (have e_ := (Kd.N_reads' HO_0.out).1; omega))
                           obtain ⟨ua347_1, uc347_1, ua347_31, uc347_31, rfl, ul347_1, ge347_1, ul347_31, ge347_31⟩ := k48_openF hMe347
                           have hv347_1 := hcc347 1 _ rfl
                           rw [add_field _ _ 1 (by omega)] at hv347_1
                           replace hv347_1 := Option.some.inj (hv347_1.symm.trans hx347_1)
                           injection hv347_1 with hva_ hvn_ hvc_
                           rw [hva_] at ge347_1
                           rw [hvc_] at ul347_1
                           have HL347_1 := Aside0.mk (show Kd.V (Kd.int .i64) 3 _ w.heap.size _ _ ((rd_T48 t339 a1).f1) from Kd.V_mk ul347_1 ge347_1)
                           clear hva_ hvn_ hvc_ ge347_1 ul347_1
                           have hv347_31 := hcc347 31 _ rfl
                           rw [add_field _ _ 31 (by omega)] at hv347_31
                           replace hv347_31 := Option.some.inj (hv347_31.symm.trans hx347_31)
                           injection hv347_31 with hva_ hvn_ hvc_
                           rw [hva_] at ge347_31
                           rw [hvc_] at ul347_31
                           have HL347_31 := Aside0.mk (show Kd.V (Kd.int .i64) 2 _ w.heap.size _ _ ((rd_T48 t339 a1).f3) from Kd.V_mk ul347_31 ge347_31)
                           clear hva_ hvn_ hvc_ ge347_31 ul347_31
                           clear hcc347 hce347
                           have HR347_1 := Aside0.mk hi347_1
                           have HC347_1 := Aside0.mk hl347_1
                           clear hi347_1 hl347_1
                           have HR347_31 := Aside0.mk hi347_31
                           have HC347_31 := Aside0.mk hl347_31
                           clear hi347_31 hl347_31
                           replace p347 := eq_true p347
                           replace q347 := eq_true q347
                           have p348 : 0 ≤ (x10_1 : Int) := of_decide_eq_true (by first | (with_reducible assumption) | assumption)
                           have q348 : x10_1 < (((rd_T48 t339 a1).f1).length : Int) := of_decide_eq_true (by first | (with_reducible assumption) | assumption)
                           obtain ⟨ad348, e348, hx348_0⟩ := Kd.at_int (by repeat (first | (with_reducible exact HR347_1.out) | (with_reducible refine Kd.C_alloc ?_ _) | (with_reducible refine Kd.C_drewN ?_ _) | (with_reducible refine Kd.C_drew ?_) | exact HR347_1.out)) x10_1 p348 q348
                           cases e348
                           replace p348 := eq_true p348
                           replace q348 := eq_true q348
                           have p349 : 0 ≤ ((rd ((rd_T48 t339 a1).f1) x10_1) : Int) := of_decide_eq_true (by first | (with_reducible assumption) | assumption)
                           have q349 : (rd ((rd_T48 t339 a1).f1) x10_1) < (t339.length : Int) := of_decide_eq_true (by first | (with_reducible assumption) | assumption)
                           obtain ⟨ad349, A349_1, c349_1, A349_31, c349_31, e349, hx349_0, hx349_1, hx349_2, hx349_3, hx349_4, hx349_5, hx349_6, hx349_7, hx349_8, hx349_9, hx349_10, hx349_11, hx349_12, hx349_13, hx349_14, hx349_15, hx349_16, hx349_17, hx349_18, hx349_19, hx349_20, hx349_21, hx349_22, hx349_23, hx349_24, hx349_25, hx349_26, hx349_27, hx349_28, hx349_29, hx349_30, hx349_31, hx349_32, hx349_33, hl349_1, hi349_1, hl349_31, hi349_31⟩ := at_T48 (Kd.N_reads' HO_0.out).2.2 (rd ((rd_T48 t339 a1).f1) x10_1) p349 q349
                           obtain rfl : ad346 = ad349 := (by injection e349)
                           obtain ⟨ce349, hce349, hMe349, hcc349⟩ := Kd.N_get HO_0.out z48 (rd ((rd_T48 t339 a1).f1) x10_1) p349 (by first | exact q349 | exact of_decide_eq_true (by first | (with_reducible assumption) | assumption) | (have e_ := (Kd.N_reads' HO_0.out).1; omega))
                           obtain ⟨ua349_1, uc349_1, ua349_31, uc349_31, rfl, ul349_1, ge349_1, ul349_31, ge349_31⟩ := k48_openF hMe349
                           have hv349_1 := hcc349 1 _ rfl
                           rw [add_field _ _ 1 (by omega)] at hv349_1
                           replace hv349_1 := Option.some.inj (hv349_1.symm.trans hx349_1)
                           injection hv349_1 with hva_ hvn_ hvc_
                           rw [hva_] at ge349_1
                           rw [hvc_] at ul349_1
                           have HL349_1 := Aside0.mk (show Kd.V (Kd.int .i64) 3 _ w.heap.size _ _ ((rd_T48 t339 (rd ((rd_T48 t339 a1).f1) x10_1)).f1) from Kd.V_mk ul349_1 ge349_1)
                           clear hva_ hvn_ hvc_ ge349_1 ul349_1
                           have hv349_31 := hcc349 31 _ rfl
                           rw [add_field _ _ 31 (by omega)] at hv349_31
                           replace hv349_31 := Option.some.inj (hv349_31.symm.trans hx349_31)
                           injection hv349_31 with hva_ hvn_ hvc_
                           rw [hva_] at ge349_31
                           rw [hvc_] at ul349_31
                           have HL349_31 := Aside0.mk (show Kd.V (Kd.int .i64) 2 _ w.heap.size _ _ ((rd_T48 t339 (rd ((rd_T48 t339 a1).f1) x10_1)).f3) from Kd.V_mk ul349_31 ge349_31)
                           clear hva_ hvn_ hvc_ ge349_31 ul349_31
                           clear hcc349 hce349
                           have HR349_1 := Aside0.mk hi349_1
                           have HC349_1 := Aside0.mk hl349_1
                           clear hi349_1 hl349_1
                           have HR349_31 := Aside0.mk hi349_31
                           have HC349_31 := Aside0.mk hl349_31
                           clear hi349_31 hl349_31
                           replace p349 := eq_true p349
                           replace q349 := eq_true q349
                           have p350 : 0 ≤ ((rd ((rd_T48 t339 a1).f1) x10_1) : Int) := of_decide_eq_true (by first | (with_reducible assumption) | assumption)
                           have q350 : (rd ((rd_T48 t339 a1).f1) x10_1) < (t339.length : Int) := of_decide_eq_true (by first | (with_reducible assumption) | assumption)
                           obtain ⟨ad350, A350_1, c350_1, A350_31, c350_31, e350, hx350_0, hx350_1, hx350_2, hx350_3, hx350_4, hx350_5, hx350_6, hx350_7, hx350_8, hx350_9, hx350_10, hx350_11, hx350_12, hx350_13, hx350_14, hx350_15, hx350_16, hx350_17, hx350_18, hx350_19, hx350_20, hx350_21, hx350_22, hx350_23, hx350_24, hx350_25, hx350_26, hx350_27, hx350_28, hx350_29, hx350_30, hx350_31, hx350_32, hx350_33, hl350_1, hi350_1, hl350_31, hi350_31⟩ := at_T48 (Kd.N_reads' HO_0.out).2.2 (rd ((rd_T48 t339 a1).f1) x10_1) p350 q350
                           obtain rfl : ad346 = ad350 := (by injection e350)
                           obtain ⟨ce350, hce350, hMe350, hcc350⟩ := Kd.N_get HO_0.out z48 (rd ((rd_T48 t339 a1).f1) x10_1) p350 (by first | exact q350 | exact of_decide_eq_true (by first | (with_reducible assumption) | assumption) | (have e_ := (Kd.N_reads' HO_0.out).1; omega))
                           obtain ⟨ua350_1, uc350_1, ua350_31, uc350_31, rfl, ul350_1, ge350_1, ul350_31, ge350_31⟩ := k48_openF hMe350
                           have hv350_1 := hcc350 1 _ rfl
                           rw [add_field _ _ 1 (by omega)] at hv350_1
                           replace hv350_1 := Option.some.inj (hv350_1.symm.trans hx350_1)
                           injection hv350_1 with hva_ hvn_ hvc_
                           rw [hva_] at ge350_1
                           rw [hvc_] at ul350_1
                           have HL350_1 := Aside0.mk (show Kd.V (Kd.int .i64) 3 _ w.heap.size _ _ ((rd_T48 t339 (rd ((rd_T48 t339 a1).f1) x10_1)).f1) from Kd.V_mk ul350_1 ge350_1)
                           clear hva_ hvn_ hvc_ ge350_1 ul350_1
                           have hv350_31 := hcc350 31 _ rfl
                           rw [add_field _ _ 31 (by omega)] at hv350_31
                           replace hv350_31 := Option.some.inj (hv350_31.symm.trans hx350_31)
                           injection hv350_31 with hva_ hvn_ hvc_
                           rw [hva_] at ge350_31
                           rw [hvc_] at ul350_31
                           have HL350_31 := Aside0.mk (show Kd.V (Kd.int .i64) 2 _ w.heap.size _ _ ((rd_T48 t339 (rd ((rd_T48 t339 a1).f1) x10_1)).f3) from Kd.V_mk ul350_31 ge350_31)
                           clear hva_ hvn_ hvc_ ge350_31 ul350_31
                           clear hcc350 hce350
                           have HR350_1 := Aside0.mk hi350_1
                           have HC350_1 := Aside0.mk hl350_1
                           clear hi350_1 hl350_1
                           have HR350_31 := Aside0.mk hi350_31
                           have HC350_31 := Aside0.mk hl350_31
                           clear hi350_31 hl350_31
                           replace p350 := eq_true p350
                           replace q350 := eq_true q350
                           have ea_ := Option.some.inj (hx349_1.symm.trans hx350_1)
                           injection ea_ with ea_ en_ ec_
                           subst ea_
                           subst ec_
                           clear en_
                           have ea_ := Option.some.inj (hx349_31.symm.trans hx350_31)
                           injection ea_ with ea_ en_ ec_
                           subst ea_
                           subst ec_
                           clear en_
                           go_wp2
                           go_roundg k1
                           case measure => have := HK1.out; omega
                           case rel => exact ⟨(rd ((rd_T48 t339 a1).f1) x10_1), (rd ((rd_T48 t339 a1).f1) x10_1), (wrap64 (x10_1 - 1)), (by first | rfl | (simp; done) | (simp [*]; done)), (by first | rfl | (simp; done) | (simp [*]; done)), (by first | rfl | (simp; done) | (simp [*]; done)), H', ⟨by have := HK1.out; omega⟩, ⟨by (with_reducible repeat (first | apply Kd.N_alloc | apply Kd.N_drewN | apply Kd.N_drew)); exact HO_0.out⟩, ⟨by (with_reducible repeat (first | apply Kd.R_alloc | apply Kd.R_drewN | apply Kd.R_drew)); exact HO_6.out⟩, ⟨by repeat (first | (with_reducible exact HR346_1.out) | (with_reducible refine Kd.C_alloc ?_ _) | (with_reducible refine Kd.C_drewN ?_ _) | (with_reducible refine Kd.C_drew ?_) | exact HR346_1.out)⟩, ⟨by repeat (first | (with_reducible exact HR346_31.out) | (with_reducible refine Kd.C_alloc ?_ _) | (with_reducible refine Kd.C_drewN ?_ _) | (with_reducible refine Kd.C_drew ?_) | exact HR346_31.out)⟩, ⟨by repeat (first | (with_reducible first | exact HB.out | apply below_alloc | apply pw_below_drewN | apply below_drew1) | exact HB.out)⟩⟩
                         · rw [if_neg c21] at H
                           have c21b0 : (((rd_T48 t339 (rd ((rd_T48 t339 a1).f1) x10_1)).f0) == 8) = false := beq_eq_false_iff_ne.mpr c21
                           have c21b1 : (((rd_T48 t339 (rd ((rd_T48 t339 a1).f1) x10_1)).f0) != 8) = true := bne_iff_ne.mpr c21
                           have H' := Aside0.mk H
                           clear H
                           have p347 : 0 ≤ (a1 : Int) := of_decide_eq_true (by first | (with_reducible assumption) | assumption)
                           have q347 : a1 < (t339.length : Int) := of_decide_eq_true (by first | (with_reducible assumption) | assumption)
                           obtain ⟨ad347, A347_1, c347_1, A347_31, c347_31, e347, hx347_0, hx347_1, hx347_2, hx347_3, hx347_4, hx347_5, hx347_6, hx347_7, hx347_8, hx347_9, hx347_10, hx347_11, hx347_12, hx347_13, hx347_14, hx347_15, hx347_16, hx347_17, hx347_18, hx347_19, hx347_20, hx347_21, hx347_22, hx347_23, hx347_24, hx347_25, hx347_26, hx347_27, hx347_28, hx347_29, hx347_30, hx347_31, hx347_32, hx347_33, hl347_1, hi347_1, hl347_31, hi347_31⟩ := at_T48 (Kd.N_reads' HO_0.out).2.2 a1 p347 q347
                           obtain rfl : ad346 = ad347 := (by injection e347)
                           obtain ⟨ce347, hce347, hMe347, hcc347⟩ := Kd.N_get HO_0.out z48 a1 p347 (by first | exact q347 | exact of_decide_eq_true (by first | (with_reducible assumption) | assumption) | (have e_ := (Kd.N_reads' HO_0.out).1; omega))
                           obtain ⟨ua347_1, uc347_1, ua347_31, uc347_31, rfl, ul347_1, ge347_1, ul347_31, ge347_31⟩ := k48_openF hMe347
                           have hv347_1 := hcc347 1 _ rfl
                           rw [add_field _ _ 1 (by omega)] at hv347_1
                           replace hv347_1 := Option.some.inj (hv347_1.symm.trans hx347_1)
                           injection hv347_1 with hva_ hvn_ hvc_
                           rw [hva_] at ge347_1
                           rw [hvc_] at ul347_1
                           have HL347_1 := Aside0.mk (show Kd.V (Kd.int .i64) 3 _ w.heap.size _ _ ((rd_T48 t339 a1).f1) from Kd.V_mk ul347_1 ge347_1)
                           clear hva_ hvn_ hvc_ ge347_1 ul347_1
                           have hv347_31 := hcc347 31 _ rfl
                           rw [add_field _ _ 31 (by omega)] at hv347_31
                           replace hv347_31 := Option.some.inj (hv347_31.symm.trans hx347_31)
                           injection hv347_31 with hva_ hvn_ hvc_
                           rw [hva_] at ge347_31
                           rw [hvc_] at ul347_31
                           have HL347_31 := Aside0.mk (show Kd.V (Kd.int .i64) 2 _ w.heap.size _ _ ((rd_T48 t339 a1).f3) from Kd.V_mk ul347_31 ge347_31)
                           clear hva_ hvn_ hvc_ ge347_31 ul347_31
                           clear hcc347 hce347
                           have HR347_1 := Aside0.mk hi347_1
                           have HC347_1 := Aside0.mk hl347_1
                           clear hi347_1 hl347_1
                           have HR347_31 := Aside0.mk hi347_31
                           have HC347_31 := Aside0.mk hl347_31
                           clear hi347_31 hl347_31
                           replace p347 := eq_true p347
                           replace q347 := eq_true q347
                           have p348 : 0 ≤ (x10_1 : Int) := of_decide_eq_true (by first | (with_reducible assumption) | assumption)
                           have q348 : x10_1 < (((rd_T48 t339 a1).f1).length : Int) := of_decide_eq_true (by first | (with_reducible assumption) | assumption)
                           obtain ⟨ad348, e348, hx348_0⟩ := Kd.at_int (by repeat (first | (with_reducible exact HR347_1.out) | (with_reducible refine Kd.C_alloc ?_ _) | (with_reducible refine Kd.C_drewN ?_ _) | (with_reducible refine Kd.C_drew ?_) | exact HR347_1.out)) x10_1 p348 q348
                           cases e348
                           replace p348 := eq_true p348
                           replace q348 := eq_true q348
                           have p349 : 0 ≤ ((rd ((rd_T48 t339 a1).f1) x10_1) : Int) := of_decide_eq_true (by first | (with_reducible assumption) | assumption)
                           have q349 : (rd ((rd_T48 t339 a1).f1) x10_1) < (t339.length : Int) := of_decide_eq_true (by first | (with_reducible assumption) | assumption)
                           obtain ⟨ad349, A349_1, c349_1, A349_31, c349_31, e349, hx349_0, hx349_1, hx349_2, hx349_3, hx349_4, hx349_5, hx349_6, hx349_7, hx349_8, hx349_9, hx349_10, hx349_11, hx349_12, hx349_13, hx349_14, hx349_15, hx349_16, hx349_17, hx349_18, hx349_19, hx349_20, hx349_21, hx349_22, hx349_23, hx349_24, hx349_25, hx349_26, hx349_27, hx349_28, hx349_29, hx349_30, hx349_31, hx349_32, hx349_33, hl349_1, hi349_1, hl349_31, hi349_31⟩ := at_T48 (Kd.N_reads' HO_0.out).2.2 (rd ((rd_T48 t339 a1).f1) x10_1) p349 q349
                           obtain rfl : ad346 = ad349 := (by injection e349)
                           obtain ⟨ce349, hce349, hMe349, hcc349⟩ := Kd.N_get HO_0.out z48 (rd ((rd_T48 t339 a1).f1) x10_1) p349 (by first | exact q349 | exact of_decide_eq_true (by first | (with_reducible assumption) | assumption) | (have e_ := (Kd.N_reads' HO_0.out).1; omega))
                           obtain ⟨ua349_1, uc349_1, ua349_31, uc349_31, rfl, ul349_1, ge349_1, ul349_31, ge349_31⟩ := k48_openF hMe349
                           have hv349_1 := hcc349 1 _ rfl
                           rw [add_field _ _ 1 (by omega)] at hv349_1
                           replace hv349_1 := Option.some.inj (hv349_1.symm.trans hx349_1)
                           injection hv349_1 with hva_ hvn_ hvc_
                           rw [hva_] at ge349_1
                           rw [hvc_] at ul349_1
                           have HL349_1 := Aside0.mk (show Kd.V (Kd.int .i64) 3 _ w.heap.size _ _ ((rd_T48 t339 (rd ((rd_T48 t339 a1).f1) x10_1)).f1) from Kd.V_mk ul349_1 ge349_1)
                           clear hva_ hvn_ hvc_ ge349_1 ul349_1
                           have hv349_31 := hcc349 31 _ rfl
                           rw [add_field _ _ 31 (by omega)] at hv349_31
                           replace hv349_31 := Option.some.inj (hv349_31.symm.trans hx349_31)
                           injection hv349_31 with hva_ hvn_ hvc_
                           rw [hva_] at ge349_31
                           rw [hvc_] at ul349_31
                           have HL349_31 := Aside0.mk (show Kd.V (Kd.int .i64) 2 _ w.heap.size _ _ ((rd_T48 t339 (rd ((rd_T48 t339 a1).f1) x10_1)).f3) from Kd.V_mk ul349_31 ge349_31)
                           clear hva_ hvn_ hvc_ ge349_31 ul349_31
                           clear hcc349 hce349
                           have HR349_1 := Aside0.mk hi349_1
                           have HC349_1 := Aside0.mk hl349_1
                           clear hi349_1 hl349_1
                           have HR349_31 := Aside0.mk hi349_31
                           have HC349_31 := Aside0.mk hl349_31
                           clear hi349_31 hl349_31
                           replace p349 := eq_true p349
                           replace q349 := eq_true q349
                           have p350 : 0 ≤ ((rd ((rd_T48 t339 a1).f1) x10_1) : Int) := of_decide_eq_true (by first | (with_reducible assumption) | assumption)
                           have q350 : (rd ((rd_T48 t339 a1).f1) x10_1) < (t339.length : Int) := of_decide_eq_true (by first | (with_reducible assumption) | assumption)
                           obtain ⟨ad350, A350_1, c350_1, A350_31, c350_31, e350, hx350_0, hx350_1, hx350_2, hx350_3, hx350_4, hx350_5, hx350_6, hx350_7, hx350_8, hx350_9, hx350_10, hx350_11, hx350_12, hx350_13, hx350_14, hx350_15, hx350_16, hx350_17, hx350_18, hx350_19, hx350_20, hx350_21, hx350_22, hx350_23, hx350_24, hx350_25, hx350_26, hx350_27, hx350_28, hx350_29, hx350_30, hx350_31, hx350_32, hx350_33, hl350_1, hi350_1, hl350_31, hi350_31⟩ := at_T48 (Kd.N_reads' HO_0.out).2.2 (rd ((rd_T48 t339 a1).f1) x10_1) p350 q350
                           obtain rfl : ad346 = ad350 := (by injection e350)
                           obtain ⟨ce350, hce350, hMe350, hcc350⟩ := Kd.N_get HO_0.out z48 (rd ((rd_T48 t339 a1).f1) x10_1) p350 (by first | exact q350 | exact of_decide_eq_true (by first | (with_reducible assumption) | assumption) | (have e_ := (Kd.N_reads' HO_0.out).1; omega))
                           obtain ⟨ua350_1, uc350_1, ua350_31, uc350_31, rfl, ul350_1, ge350_1, ul350_31, ge350_31⟩ := k48_openF hMe350
                           have hv350_1 := hcc350 1 _ rfl
                           rw [add_field _ _ 1 (by omega)] at hv350_1
                           replace hv350_1 := Option.some.inj (hv350_1.symm.trans hx350_1)
                           injection hv350_1 with hva_ hvn_ hvc_
                           rw [hva_] at ge350_1
                           rw [hvc_] at ul350_1
                           have HL350_1 := Aside0.mk (show Kd.V (Kd.int .i64) 3 _ w.heap.size _ _ ((rd_T48 t339 (rd ((rd_T48 t339 a1).f1) x10_1)).f1) from Kd.V_mk ul350_1 ge350_1)
                           clear hva_ hvn_ hvc_ ge350_1 ul350_1
                           have hv350_31 := hcc350 31 _ rfl
                           rw [add_field _ _ 31 (by omega)] at hv350_31
                           replace hv350_31 := Option.some.inj (hv350_31.symm.trans hx350_31)
                           injection hv350_31 with hva_ hvn_ hvc_
                           rw [hva_] at ge350_31
                           rw [hvc_] at ul350_31
                           have HL350_31 := Aside0.mk (show Kd.V (Kd.int .i64) 2 _ w.heap.size _ _ ((rd_T48 t339 (rd ((rd_T48 t339 a1).f1) x10_1)).f3) from Kd.V_mk ul350_31 ge350_31)
                           clear hva_ hvn_ hvc_ ge350_31 ul350_31
                           clear hcc350 hce350
                           have HR350_1 := Aside0.mk hi350_1
                           have HC350_1 := Aside0.mk hl350_1
                           clear hi350_1 hl350_1
                           have HR350_31 := Aside0.mk hi350_31
                           have HC350_31 := Aside0.mk hl350_31
                           clear hi350_31 hl350_31
                           replace p350 := eq_true p350
                           replace q350 := eq_true q350
                           have ea_ := Option.some.inj (hx349_1.symm.trans hx350_1)
                           injection ea_ with ea_ en_ ec_
                           subst ea_
                           subst ec_
                           clear en_
                           have ea_ := Option.some.inj (hx349_31.symm.trans hx350_31)
                           injection ea_ with ea_ en_ ec_
                           subst ea_
                           subst ec_
                           clear en_
                           go_wp2
                           go_roundg k1
                           case measure => have := HK1.out; omega
                           case rel => exact ⟨(rd ((rd_T48 t339 a1).f1) x10_1), (x9_1), (wrap64 (x10_1 - 1)), (by first | rfl | (simp; done) | (simp [*]; done)), (by first | rfl | (simp; done) | (simp [*]; done)), (by first | rfl | (simp; done) | (simp [*]; done)), H', ⟨by have := HK1.out; omega⟩, ⟨by (with_reducible repeat (first | apply Kd.N_alloc | apply Kd.N_drewN | apply Kd.N_drew)); exact HO_0.out⟩, ⟨by (with_reducible repeat (first | apply Kd.R_alloc | apply Kd.R_drewN | apply Kd.R_drew)); exact HO_6.out⟩, ⟨by repeat (first | (with_reducible exact HR346_1.out) | (with_reducible refine Kd.C_alloc ?_ _) | (with_reducible refine Kd.C_drewN ?_ _) | (with_reducible refine Kd.C_drew ?_) | exact HR346_1.out)⟩, ⟨by repeat (first | (with_reducible exact HR346_31.out) | (with_reducible refine Kd.C_alloc ?_ _) | (with_reducible refine Kd.C_drewN ?_ _) | (with_reducible refine Kd.C_drew ?_) | exact HR346_31.out)⟩, ⟨by repeat (first | (with_reducible first | exact HB.out | apply below_alloc | apply pw_below_drewN | apply below_drew1) | exact HB.out)⟩⟩
                       · rw [if_neg c20] at H
                         have c20b0 : (((rd_T48 t339 (rd ((rd_T48 t339 a1).f1) x10_1)).f0) == 6) = false := beq_eq_false_iff_ne.mpr c20
                         have c20b1 : (((rd_T48 t339 (rd ((rd_T48 t339 a1).f1) x10_1)).f0) != 6) = true := bne_iff_ne.mpr c20
                         by_cases c22 : ((rd_T48 t339 (rd ((rd_T48 t339 a1).f1) x10_1)).f0) = 8
                         · rw [if_pos c22] at H
                           have c22b0 : (((rd_T48 t339 (rd ((rd_T48 t339 a1).f1) x10_1)).f0) == 8) = true := beq_iff_eq.mpr c22
                           have c22b1 : (((rd_T48 t339 (rd ((rd_T48 t339 a1).f1) x10_1)).f0) != 8) = false := bne_eq_false_iff_eq.mpr c22
                           clear c22
                           have H' := Aside0.mk H
                           clear H
                           have p347 : 0 ≤ (a1 : Int) := of_decide_eq_true (by first | (with_reducible assumption) | assumption)
                           have q347 : a1 < (t339.length : Int) := of_decide_eq_true (by first | (with_reducible assumption) | assumption)
                           obtain ⟨ad347, A347_1, c347_1, A347_31, c347_31, e347, hx347_0, hx347_1, hx347_2, hx347_3, hx347_4, hx347_5, hx347_6, hx347_7, hx347_8, hx347_9, hx347_10, hx347_11, hx347_12, hx347_13, hx347_14, hx347_15, hx347_16, hx347_17, hx347_18, hx347_19, hx347_20, hx347_21, hx347_22, hx347_23, hx347_24, hx347_25, hx347_26, hx347_27, hx347_28, hx347_29, hx347_30, hx347_31, hx347_32, hx347_33, hl347_1, hi347_1, hl347_31, hi347_31⟩ := at_T48 (Kd.N_reads' HO_0.out).2.2 a1 p347 q347
                           obtain rfl : ad346 = ad347 := (by injection e347)
                           obtain ⟨ce347, hce347, hMe347, hcc347⟩ := Kd.N_get HO_0.out z48 a1 p347 (by first | exact q347 | exact of_decide_eq_true (by first | (with_reducible assumption) | assumption) | (have e_ := (Kd.N_reads' HO_0.out).1; omega))
                           obtain ⟨ua347_1, uc347_1, ua347_31, uc347_31, rfl, ul347_1, ge347_1, ul347_31, ge347_31⟩ := k48_openF hMe347
                           have hv347_1 := hcc347 1 _ rfl
                           rw [add_field _ _ 1 (by omega)] at hv347_1
                           replace hv347_1 := Option.some.inj (hv347_1.symm.trans hx347_1)
                           injection hv347_1 with hva_ hvn_ hvc_
                           rw [hva_] at ge347_1
                           rw [hvc_] at ul347_1
                           have HL347_1 := Aside0.mk (show Kd.V (Kd.int .i64) 3 _ w.heap.size _ _ ((rd_T48 t339 a1).f1) from Kd.V_mk ul347_1 ge347_1)
                           clear hva_ hvn_ hvc_ ge347_1 ul347_1
                           have hv347_31 := hcc347 31 _ rfl
                           rw [add_field _ _ 31 (by omega)] at hv347_31
                           replace hv347_31 := Option.some.inj (hv347_31.symm.trans hx347_31)
                           injection hv347_31 with hva_ hvn_ hvc_
                           rw [hva_] at ge347_31
                           rw [hvc_] at ul347_31
                           have HL347_31 := Aside0.mk (show Kd.V (Kd.int .i64) 2 _ w.heap.size _ _ ((rd_T48 t339 a1).f3) from Kd.V_mk ul347_31 ge347_31)
                           clear hva_ hvn_ hvc_ ge347_31 ul347_31
                           clear hcc347 hce347
                           have HR347_1 := Aside0.mk hi347_1
                           have HC347_1 := Aside0.mk hl347_1
                           clear hi347_1 hl347_1
                           have HR347_31 := Aside0.mk hi347_31
                           have HC347_31 := Aside0.mk hl347_31
                           clear hi347_31 hl347_31
                           replace p347 := eq_true p347
                           replace q347 := eq_true q347
                           have p348 : 0 ≤ (x10_1 : Int) := of_decide_eq_true (by first | (with_reducible assumption) | assumption)
                           have q348 : x10_1 < (((rd_T48 t339 a1).f1).length : Int) := of_decide_eq_true (by first | (with_reducible assumption) | assumption)
                           obtain ⟨ad348, e348, hx348_0⟩ := Kd.at_int (by repeat (first | (with_reducible exact HR347_1.out) | (with_reducible refine Kd.C_alloc ?_ _) | (with_reducible refine Kd.C_drewN ?_ _) | (with_reducible refine Kd.C_drew ?_) | exact HR347_1.out)) x10_1 p348 q348
                           cases e348
                           replace p348 := eq_true p348
                           replace q348 := eq_true q348
                           have p349 : 0 ≤ ((rd ((rd_T48 t339 a1).f1) x10_1) : Int) := of_decide_eq_true (by first | (with_reducible assumption) | assumption)
                           have q349 : (rd ((rd_T48 t339 a1).f1) x10_1) < (t339.length : Int) := of_decide_eq_true (by first | (with_reducible assumption) | assumption)
                           obtain ⟨ad349, A349_1, c349_1, A349_31, c349_31, e349, hx349_0, hx349_1, hx349_2, hx349_3, hx349_4, hx349_5, hx349_6, hx349_7, hx349_8, hx349_9, hx349_10, hx349_11, hx349_12, hx349_13, hx349_14, hx349_15, hx349_16, hx349_17, hx349_18, hx349_19, hx349_20, hx349_21, hx349_22, hx349_23, hx349_24, hx349_25, hx349_26, hx349_27, hx349_28, hx349_29, hx349_30, hx349_31, hx349_32, hx349_33, hl349_1, hi349_1, hl349_31, hi349_31⟩ := at_T48 (Kd.N_reads' HO_0.out).2.2 (rd ((rd_T48 t339 a1).f1) x10_1) p349 q349
                           obtain rfl : ad346 = ad349 := (by injection e349)
                           obtain ⟨ce349, hce349, hMe349, hcc349⟩ := Kd.N_get HO_0.out z48 (rd ((rd_T48 t339 a1).f1) x10_1) p349 (by first | exact q349 | exact of_decide_eq_true (by first | (with_reducible assumption) | assumption) | (have e_ := (Kd.N_reads' HO_0.out).1; omega))
                           obtain ⟨ua349_1, uc349_1, ua349_31, uc349_31, rfl, ul349_1, ge349_1, ul349_31, ge349_31⟩ := k48_openF hMe349
                           have hv349_1 := hcc349 1 _ rfl
                           rw [add_field _ _ 1 (by omega)] at hv349_1
                           replace hv349_1 := Option.some.inj (hv349_1.symm.trans hx349_1)
                           injection hv349_1 with hva_ hvn_ hvc_
                           rw [hva_] at ge349_1
                           rw [hvc_] at ul349_1
                           have HL349_1 := Aside0.mk (show Kd.V (Kd.int .i64) 3 _ w.heap.size _ _ ((rd_T48 t339 (rd ((rd_T48 t339 a1).f1) x10_1)).f1) from Kd.V_mk ul349_1 ge349_1)
                           clear hva_ hvn_ hvc_ ge349_1 ul349_1
                           have hv349_31 := hcc349 31 _ rfl
                           rw [add_field _ _ 31 (by omega)] at hv349_31
                           replace hv349_31 := Option.some.inj (hv349_31.symm.trans hx349_31)
                           injection hv349_31 with hva_ hvn_ hvc_
                           rw [hva_] at ge349_31
                           rw [hvc_] at ul349_31
                           have HL349_31 := Aside0.mk (show Kd.V (Kd.int .i64) 2 _ w.heap.size _ _ ((rd_T48 t339 (rd ((rd_T48 t339 a1).f1) x10_1)).f3) from Kd.V_mk ul349_31 ge349_31)
                           clear hva_ hvn_ hvc_ ge349_31 ul349_31
                           clear hcc349 hce349
                           have HR349_1 := Aside0.mk hi349_1
                           have HC349_1 := Aside0.mk hl349_1
                           clear hi349_1 hl349_1
                           have HR349_31 := Aside0.mk hi349_31
                           have HC349_31 := Aside0.mk hl349_31
                           clear hi349_31 hl349_31
                           replace p349 := eq_true p349
                           replace q349 := eq_true q349
                           have p351 : 0 ≤ ((rd ((rd_T48 t339 a1).f1) x10_1) : Int) := of_decide_eq_true (by first | (with_reducible assumption) | assumption)
                           have q351 : (rd ((rd_T48 t339 a1).f1) x10_1) < (t339.length : Int) := of_decide_eq_true (by first | (with_reducible assumption) | assumption)
                           obtain ⟨ad351, A351_1, c351_1, A351_31, c351_31, e351, hx351_0, hx351_1, hx351_2, hx351_3, hx351_4, hx351_5, hx351_6, hx351_7, hx351_8, hx351_9, hx351_10, hx351_11, hx351_12, hx351_13, hx351_14, hx351_15, hx351_16, hx351_17, hx351_18, hx351_19, hx351_20, hx351_21, hx351_22, hx351_23, hx351_24, hx351_25, hx351_26, hx351_27, hx351_28, hx351_29, hx351_30, hx351_31, hx351_32, hx351_33, hl351_1, hi351_1, hl351_31, hi351_31⟩ := at_T48 (Kd.N_reads' HO_0.out).2.2 (rd ((rd_T48 t339 a1).f1) x10_1) p351 q351
                           obtain rfl : ad346 = ad351 := (by injection e351)
                           obtain ⟨ce351, hce351, hMe351, hcc351⟩ := Kd.N_get HO_0.out z48 (rd ((rd_T48 t339 a1).f1) x10_1) p351 (by first | exact q351 | exact of_decide_eq_true (by first | (with_reducible assumption) | assumption) | (have e_ := (Kd.N_reads' HO_0.out).1; omega))
                           obtain ⟨ua351_1, uc351_1, ua351_31, uc351_31, rfl, ul351_1, ge351_1, ul351_31, ge351_31⟩ := k48_openF hMe351
                           have hv351_1 := hcc351 1 _ rfl
                           rw [add_field _ _ 1 (by omega)] at hv351_1
                           replace hv351_1 := Option.some.inj (hv351_1.symm.trans hx351_1)
                           injection hv351_1 with hva_ hvn_ hvc_
                           rw [hva_] at ge351_1
                           rw [hvc_] at ul351_1
                           have HL351_1 := Aside0.mk (show Kd.V (Kd.int .i64) 3 _ w.heap.size _ _ ((rd_T48 t339 (rd ((rd_T48 t339 a1).f1) x10_1)).f1) from Kd.V_mk ul351_1 ge351_1)
                           clear hva_ hvn_ hvc_ ge351_1 ul351_1
                           have hv351_31 := hcc351 31 _ rfl
                           rw [add_field _ _ 31 (by omega)] at hv351_31
                           replace hv351_31 := Option.some.inj (hv351_31.symm.trans hx351_31)
                           injection hv351_31 with hva_ hvn_ hvc_
                           rw [hva_] at ge351_31
                           rw [hvc_] at ul351_31
                           have HL351_31 := Aside0.mk (show Kd.V (Kd.int .i64) 2 _ w.heap.size _ _ ((rd_T48 t339 (rd ((rd_T48 t339 a1).f1) x10_1)).f3) from Kd.V_mk ul351_31 ge351_31)
                           clear hva_ hvn_ hvc_ ge351_31 ul351_31
                           clear hcc351 hce351
                           have HR351_1 := Aside0.mk hi351_1
                           have HC351_1 := Aside0.mk hl351_1
                           clear hi351_1 hl351_1
                           have HR351_31 := Aside0.mk hi351_31
                           have HC351_31 := Aside0.mk hl351_31
                           clear hi351_31 hl351_31
                           replace p351 := eq_true p351
                           replace q351 := eq_true q351
                           have ea_ := Option.some.inj (hx349_1.symm.trans hx351_1)
                           injection ea_ with ea_ en_ ec_
                           subst ea_
                           subst ec_
                           clear en_
                           have ea_ := Option.some.inj (hx349_31.symm.trans hx351_31)
                           injection ea_ with ea_ en_ ec_
                           subst ea_
                           subst ec_
                           clear en_
                           go_wp2
                           go_roundg k1
                           case measure => have := HK1.out; omega
                           case rel => exact ⟨(x8_1), (rd ((rd_T48 t339 a1).f1) x10_1), (wrap64 (x10_1 - 1)), (by first | rfl | (simp; done) | (simp [*]; done)), (by first | rfl | (simp; done) | (simp [*]; done)), (by first | rfl | (simp; done) | (simp [*]; done)), H', ⟨by have := HK1.out; omega⟩, ⟨by (with_reducible repeat (first | apply Kd.N_alloc | apply Kd.N_drewN | apply Kd.N_drew)); exact HO_0.out⟩, ⟨by (with_reducible repeat (first | apply Kd.R_alloc | apply Kd.R_drewN | apply Kd.R_drew)); exact HO_6.out⟩, ⟨by repeat (first | (with_reducible exact HR346_1.out) | (with_reducible refine Kd.C_alloc ?_ _) | (with_reducible refine Kd.C_drewN ?_ _) | (with_reducible refine Kd.C_drew ?_) | exact HR346_1.out)⟩, ⟨by repeat (first | (with_reducible exact HR346_31.out) | (with_reducible refine Kd.C_alloc ?_ _) | (with_reducible refine Kd.C_drewN ?_ _) | (with_reducible refine Kd.C_drew ?_) | exact HR346_31.out)⟩, ⟨by repeat (first | (with_reducible first | exact HB.out | apply below_alloc | apply pw_below_drewN | apply below_drew1) | exact HB.out)⟩⟩
                         · rw [if_neg c22] at H
                           have c22b0 : (((rd_T48 t339 (rd ((rd_T48 t339 a1).f1) x10_1)).f0) == 8) = false := beq_eq_false_iff_ne.mpr c22
                           have c22b1 : (((rd_T48 t339 (rd ((rd_T48 t339 a1).f1) x10_1)).f0) != 8) = true := bne_iff_ne.mpr c22
                           have H' := Aside0.mk H
                           clear H
                           have p347 : 0 ≤ (a1 : Int) := of_decide_eq_true (by first | (with_reducible assumption) | assumption)
                           have q347 : a1 < (t339.length : Int) := of_decide_eq_true (by first | (with_reducible assumption) | assumption)
                           obtain ⟨ad347, A347_1, c347_1, A347_31, c347_31, e347, hx347_0, hx347_1, hx347_2, hx347_3, hx347_4, hx347_5, hx347_6, hx347_7, hx347_8, hx347_9, hx347_10, hx347_11, hx347_12, hx347_13, hx347_14, hx347_15, hx347_16, hx347_17, hx347_18, hx347_19, hx347_20, hx347_21, hx347_22, hx347_23, hx347_24, hx347_25, hx347_26, hx347_27, hx347_28, hx347_29, hx347_30, hx347_31, hx347_32, hx347_33, hl347_1, hi347_1, hl347_31, hi347_31⟩ := at_T48 (Kd.N_reads' HO_0.out).2.2 a1 p347 q347
                           obtain rfl : ad346 = ad347 := (by injection e347)
                           obtain ⟨ce347, hce347, hMe347, hcc347⟩ := Kd.N_get HO_0.out z48 a1 p347 (by first | exact q347 | exact of_decide_eq_true (by first | (with_reducible assumption) | assumption) | (have e_ := (Kd.N_reads' HO_0.out).1; omega))
                           obtain ⟨ua347_1, uc347_1, ua347_31, uc347_31, rfl, ul347_1, ge347_1, ul347_31, ge347_31⟩ := k48_openF hMe347
                           have hv347_1 := hcc347 1 _ rfl
                           rw [add_field _ _ 1 (by omega)] at hv347_1
                           replace hv347_1 := Option.some.inj (hv347_1.symm.trans hx347_1)
                           injection hv347_1 with hva_ hvn_ hvc_
                           rw [hva_] at ge347_1
                           rw [hvc_] at ul347_1
                           have HL347_1 := Aside0.mk (show Kd.V (Kd.int .i64) 3 _ w.heap.size _ _ ((rd_T48 t339 a1).f1) from Kd.V_mk ul347_1 ge347_1)
                           clear hva_ hvn_ hvc_ ge347_1 ul347_1
                           have hv347_31 := hcc347 31 _ rfl
                           rw [add_field _ _ 31 (by omega)] at hv347_31
                           replace hv347_31 := Option.some.inj (hv347_31.symm.trans hx347_31)
                           injection hv347_31 with hva_ hvn_ hvc_
                           rw [hva_] at ge347_31
                           rw [hvc_] at ul347_31
                           have HL347_31 := Aside0.mk (show Kd.V (Kd.int .i64) 2 _ w.heap.size _ _ ((rd_T48 t339 a1).f3) from Kd.V_mk ul347_31 ge347_31)
                           clear hva_ hvn_ hvc_ ge347_31 ul347_31
                           clear hcc347 hce347
                           have HR347_1 := Aside0.mk hi347_1
                           have HC347_1 := Aside0.mk hl347_1
                           clear hi347_1 hl347_1
                           have HR347_31 := Aside0.mk hi347_31
                           have HC347_31 := Aside0.mk hl347_31
                           clear hi347_31 hl347_31
                           replace p347 := eq_true p347
                           replace q347 := eq_true q347
                           have p348 : 0 ≤ (x10_1 : Int) := of_decide_eq_true (by first | (with_reducible assumption) | assumption)
                           have q348 : x10_1 < (((rd_T48 t339 a1).f1).length : Int) := of_decide_eq_true (by first | (with_reducible assumption) | assumption)
                           obtain ⟨ad348, e348, hx348_0⟩ := Kd.at_int (by repeat (first | (with_reducible exact HR347_1.out) | (with_reducible refine Kd.C_alloc ?_ _) | (with_reducible refine Kd.C_drewN ?_ _) | (with_reducible refine Kd.C_drew ?_) | exact HR347_1.out)) x10_1 p348 q348
                           cases e348
                           replace p348 := eq_true p348
                           replace q348 := eq_true q348
                           have p349 : 0 ≤ ((rd ((rd_T48 t339 a1).f1) x10_1) : Int) := of_decide_eq_true (by first | (with_reducible assumption) | assumption)
                           have q349 : (rd ((rd_T48 t339 a1).f1) x10_1) < (t339.length : Int) := of_decide_eq_true (by first | (with_reducible assumption) | assumption)
                           obtain ⟨ad349, A349_1, c349_1, A349_31, c349_31, e349, hx349_0, hx349_1, hx349_2, hx349_3, hx349_4, hx349_5, hx349_6, hx349_7, hx349_8, hx349_9, hx349_10, hx349_11, hx349_12, hx349_13, hx349_14, hx349_15, hx349_16, hx349_17, hx349_18, hx349_19, hx349_20, hx349_21, hx349_22, hx349_23, hx349_24, hx349_25, hx349_26, hx349_27, hx349_28, hx349_29, hx349_30, hx349_31, hx349_32, hx349_33, hl349_1, hi349_1, hl349_31, hi349_31⟩ := at_T48 (Kd.N_reads' HO_0.out).2.2 (rd ((rd_T48 t339 a1).f1) x10_1) p349 q349
                           obtain rfl : ad346 = ad349 := (by injection e349)
                           obtain ⟨ce349, hce349, hMe349, hcc349⟩ := Kd.N_get HO_0.out z48 (rd ((rd_T48 t339 a1).f1) x10_1) p349 (by first | exact q349 | exact of_decide_eq_true (by first | (with_reducible assumption) | assumption) | (have e_ := (Kd.N_reads' HO_0.out).1; omega))
                           obtain ⟨ua349_1, uc349_1, ua349_31, uc349_31, rfl, ul349_1, ge349_1, ul349_31, ge349_31⟩ := k48_openF hMe349
                           have hv349_1 := hcc349 1 _ rfl
                           rw [add_field _ _ 1 (by omega)] at hv349_1
                           replace hv349_1 := Option.some.inj (hv349_1.symm.trans hx349_1)
                           injection hv349_1 with hva_ hvn_ hvc_
                           rw [hva_] at ge349_1
                           rw [hvc_] at ul349_1
                           have HL349_1 := Aside0.mk (show Kd.V (Kd.int .i64) 3 _ w.heap.size _ _ ((rd_T48 t339 (rd ((rd_T48 t339 a1).f1) x10_1)).f1) from Kd.V_mk ul349_1 ge349_1)
                           clear hva_ hvn_ hvc_ ge349_1 ul349_1
                           have hv349_31 := hcc349 31 _ rfl
                           rw [add_field _ _ 31 (by omega)] at hv349_31
                           replace hv349_31 := Option.some.inj (hv349_31.symm.trans hx349_31)
                           injection hv349_31 with hva_ hvn_ hvc_
                           rw [hva_] at ge349_31
                           rw [hvc_] at ul349_31
                           have HL349_31 := Aside0.mk (show Kd.V (Kd.int .i64) 2 _ w.heap.size _ _ ((rd_T48 t339 (rd ((rd_T48 t339 a1).f1) x10_1)).f3) from Kd.V_mk ul349_31 ge349_31)
                           clear hva_ hvn_ hvc_ ge349_31 ul349_31
                           clear hcc349 hce349
                           have HR349_1 := Aside0.mk hi349_1
                           have HC349_1 := Aside0.mk hl349_1
                           clear hi349_1 hl349_1
                           have HR349_31 := Aside0.mk hi349_31
                           have HC349_31 := Aside0.mk hl349_31
                           clear hi349_31 hl349_31
                           replace p349 := eq_true p349
                           replace q349 := eq_true q349
                           have p351 : 0 ≤ ((rd ((rd_T48 t339 a1).f1) x10_1) : Int) := of_decide_eq_true (by first | (with_reducible assumption) | assumption)
                           have q351 : (rd ((rd_T48 t339 a1).f1) x10_1) < (t339.length : Int) := of_decide_eq_true (by first | (with_reducible assumption) | assumption)
                           obtain ⟨ad351, A351_1, c351_1, A351_31, c351_31, e351, hx351_0, hx351_1, hx351_2, hx351_3, hx351_4, hx351_5, hx351_6, hx351_7, hx351_8, hx351_9, hx351_10, hx351_11, hx351_12, hx351_13, hx351_14, hx351_15, hx351_16, hx351_17, hx351_18, hx351_19, hx351_20, hx351_21, hx351_22, hx351_23, hx351_24, hx351_25, hx351_26, hx351_27, hx351_28, hx351_29, hx351_30, hx351_31, hx351_32, hx351_33, hl351_1, hi351_1, hl351_31, hi351_31⟩ := at_T48 (Kd.N_reads' HO_0.out).2.2 (rd ((rd_T48 t339 a1).f1) x10_1) p351 q351
                           obtain rfl : ad346 = ad351 := (by injection e351)
                           obtain ⟨ce351, hce351, hMe351, hcc351⟩ := Kd.N_get HO_0.out z48 (rd ((rd_T48 t339 a1).f1) x10_1) p351 (by first | exact q351 | exact of_decide_eq_true (by first | (with_reducible assumption) | assumption) | (have e_ := (Kd.N_reads' HO_0.out).1; omega))
                           obtain ⟨ua351_1, uc351_1, ua351_31, uc351_31, rfl, ul351_1, ge351_1, ul351_31, ge351_31⟩ := k48_openF hMe351
                           have hv351_1 := hcc351 1 _ rfl
                           rw [add_field _ _ 1 (by omega)] at hv351_1
                           replace hv351_1 := Option.some.inj (hv351_1.symm.trans hx351_1)
                           injection hv351_1 with hva_ hvn_ hvc_
                           rw [hva_] at ge351_1
                           rw [hvc_] at ul351_1
                           have HL351_1 := Aside0.mk (show Kd.V (Kd.int .i64) 3 _ w.heap.size _ _ ((rd_T48 t339 (rd ((rd_T48 t339 a1).f1) x10_1)).f1) from Kd.V_mk ul351_1 ge351_1)
                           clear hva_ hvn_ hvc_ ge351_1 ul351_1
                           have hv351_31 := hcc351 31 _ rfl
                           rw [add_field _ _ 31 (by omega)] at hv351_31
                           replace hv351_31 := Option.some.inj (hv351_31.symm.trans hx351_31)
                           injection hv351_31 with hva_ hvn_ hvc_
                           rw [hva_] at ge351_31
                           rw [hvc_] at ul351_31
                           have HL351_31 := Aside0.mk (show Kd.V (Kd.int .i64) 2 _ w.heap.size _ _ ((rd_T48 t339 (rd ((rd_T48 t339 a1).f1) x10_1)).f3) from Kd.V_mk ul351_31 ge351_31)
                           clear hva_ hvn_ hvc_ ge351_31 ul351_31
                           clear hcc351 hce351
                           have HR351_1 := Aside0.mk hi351_1
                           have HC351_1 := Aside0.mk hl351_1
                           clear hi351_1 hl351_1
                           have HR351_31 := Aside0.mk hi351_31
                           have HC351_31 := Aside0.mk hl351_31
                           clear hi351_31 hl351_31
                           replace p351 := eq_true p351
                           replace q351 := eq_true q351
                           have ea_ := Option.some.inj (hx349_1.symm.trans hx351_1)
                           injection ea_ with ea_ en_ ec_
                           subst ea_
                           subst ec_
                           clear en_
                           have ea_ := Option.some.inj (hx349_31.symm.trans hx351_31)
                           injection ea_ with ea_ en_ ec_
                           subst ea_
                           subst ec_
                           clear en_
                           go_wp2
                           go_roundg k1
                           case measure => have := HK1.out; omega
                           case rel => exact ⟨(x8_1), (x9_1), (wrap64 (x10_1 - 1)), (by first | rfl | (simp; done) | (simp [*]; done)), (by first | rfl | (simp; done) | (simp [*]; done)), (by first | rfl | (simp; done) | (simp [*]; done)), H', ⟨by have := HK1.out; omega⟩, ⟨by (with_reducible repeat (first | apply Kd.N_alloc | apply Kd.N_drewN | apply Kd.N_drew)); exact HO_0.out⟩, ⟨by (with_reducible repeat (first | apply Kd.R_alloc | apply Kd.R_drewN | apply Kd.R_drew)); exact HO_6.out⟩, ⟨by repeat (first | (with_reducible exact HR346_1.out) | (with_reducible refine Kd.C_alloc ?_ _) | (with_reducible refine Kd.C_drewN ?_ _) | (with_reducible refine Kd.C_drew ?_) | exact HR346_1.out)⟩, ⟨by repeat (first | (with_reducible exact HR346_31.out) | (with_reducible refine Kd.C_alloc ?_ _) | (with_reducible refine Kd.C_drewN ?_ _) | (with_reducible refine Kd.C_drew ?_) | exact HR346_31.out)⟩, ⟨by repeat (first | (with_reducible first | exact HB.out | apply below_alloc | apply pw_below_drewN | apply below_drew1) | exact HB.out)⟩⟩
                     · rw [if_neg c19] at H
                       exact absurd H (by simp)
                   · rw [if_neg c18] at H
                     exact absurd H (by simp)
                 · rw [if_neg c17] at H
                   exact absurd H (by simp)
               · rw [if_neg c16] at H
                 exact absurd H (by simp)
             · rw [if_neg c15] at H
               exact absurd H (by simp)
           · rw [if_neg c14] at H
             exact absurd H (by simp)
         · rw [if_neg c13] at H
           have c13b0 : decide (0 ≤ x10_1) = false := decide_eq_false c13
           clear c13
           have H' := Aside0.mk H
           clear H
           go_wp2
           go_loopg [12] k1 (fun kq v12 w' => ∃ (x12_2 : Int), v12 = .int .i64 x12_2 ∧ Aside0 (purflinglaw06_LanesHeads.l1 kq t338 t342 x8_1 x9_1 x12_2 = some r) ∧ Aside0 (kq ≤ k1) ∧ Aside0 (Kd.R k35 35 w' w.heap.size (fun _ => True) v344 t342) ∧ Aside0 (Kd.C (Kd.int .i64) w' A346_1 ((rd_T48 t339 a1).f1).length ((rd_T48 t339 a1).f1)) ∧ Aside0 (Kd.C (Kd.int .i64) w' A346_31 ((rd_T48 t339 a1).f3).length ((rd_T48 t339 a1).f3)) ∧ Aside0 (Below w.heap.size w w'))
           case atStart => exact ⟨(1), (by first | rfl | (simp; done) | (simp [*]; done)), H', ⟨Nat.le_refl _⟩, ⟨by (with_reducible repeat (first | apply Kd.R_alloc | apply Kd.R_drewN | apply Kd.R_drew)); exact HO_6.out⟩, ⟨by repeat (first | (with_reducible exact HR346_1.out) | (with_reducible refine Kd.C_alloc ?_ _) | (with_reducible refine Kd.C_drewN ?_ _) | (with_reducible refine Kd.C_drew ?_) | exact HR346_1.out)⟩, ⟨by repeat (first | (with_reducible exact HR346_31.out) | (with_reducible refine Kd.C_alloc ?_ _) | (with_reducible refine Kd.C_drewN ?_ _) | (with_reducible refine Kd.C_drew ?_) | exact HR346_31.out)⟩, ⟨by repeat (first | (with_reducible first | exact HB.out | apply below_alloc | apply pw_below_drewN | apply below_drew1) | exact HB.out)⟩⟩
           case round =>
            clear H'
            try clear c1
            try clear c2
            try clear p2
            try clear c3
            try clear p3
            try clear q3
            try clear hx3
            try clear c5
            try clear c6
            try clear c6b0
            try clear c6b1
            try clear p6
            try clear c7
            try clear c7b0
            try clear c8
            try clear c8b0
            try clear c10
            try clear c11
            try clear c13
            try clear c13b0
            try clear c14
            try clear c14b0
            try clear c15
            try clear c15b0
            try clear c16
            try clear c16b0
            try clear c17
            try clear c17b0
            try clear c18
            try clear c18b0
            try clear c19
            try clear c19b0
            try clear c20
            try clear c20b0
            try clear c20b1
            try clear c21
            try clear c21b0
            try clear c21b1
            try clear c22
            try clear c22b0
            try clear c22b1
            try clear hx346_0
            try clear hx346_1
            try clear hx346_10
            try clear hx346_11
            try clear hx346_12
            try clear hx346_13
            try clear hx346_14
            try clear hx346_15
            try clear hx346_16
            try clear hx346_17
            try clear hx346_18
            try clear hx346_19
            try clear hx346_2
            try clear hx346_20
            try clear hx346_21
            try clear hx346_22
            try clear hx346_23
            try clear hx346_24
            try clear hx346_25
            try clear hx346_26
            try clear hx346_27
            try clear hx346_28
            try clear hx346_29
            try clear hx346_3
            try clear hx346_30
            try clear hx346_31
            try clear hx346_32
            try clear hx346_33
            try clear hx346_4
            try clear hx346_5
            try clear hx346_6
            try clear hx346_7
            try clear hx346_8
            try clear hx346_9
            try clear hx347_0
            try clear hx347_1
            try clear hx347_10
            try clear hx347_11
            try clear hx347_12
            try clear hx347_13
            try clear hx347_14
            try clear hx347_15
            try clear hx347_16
            try clear hx347_17
            try clear hx347_18
            try clear hx347_19
            try clear hx347_2
            try clear hx347_20
            try clear hx347_21
            try clear hx347_22
            try clear hx347_23
            try clear hx347_24
            try clear hx347_25
            try clear hx347_26
            try clear hx347_27
            try clear hx347_28
            try clear hx347_29
            try clear hx347_3
            try clear hx347_30
            try clear hx347_31
            try clear hx347_32
            try clear hx347_33
            try clear hx347_4
            try clear hx347_5
            try clear hx347_6
            try clear hx347_7
            try clear hx347_8
            try clear hx347_9
            try clear hx348_0
            try clear hx349_0
            try clear hx349_1
            try clear hx349_10
            try clear hx349_11
            try clear hx349_12
            try clear hx349_13
            try clear hx349_14
            try clear hx349_15
            try clear hx349_16
            try clear hx349_17
            try clear hx349_18
            try clear hx349_19
            try clear hx349_2
            try clear hx349_20
            try clear hx349_21
            try clear hx349_22
            try clear hx349_23
            try clear hx349_24
            try clear hx349_25
            try clear hx349_26
            try clear hx349_27
            try clear hx349_28
            try clear hx349_29
            try clear hx349_3
            try clear hx349_30
            try clear hx349_31
            try clear hx349_32
            try clear hx349_33
            try clear hx349_4
            try clear hx349_5
            try clear hx349_6
            try clear hx349_7
            try clear hx349_8
            try clear hx349_9
            try clear hx350_0
            try clear hx350_1
            try clear hx350_10
            try clear hx350_11
            try clear hx350_12
            try clear hx350_13
            try clear hx350_14
            try clear hx350_15
            try clear hx350_16
            try clear hx350_17
            try clear hx350_18
            try clear hx350_19
            try clear hx350_2
            try clear hx350_20
            try clear hx350_21
            try clear hx350_22
            try clear hx350_23
            try clear hx350_24
            try clear hx350_25
            try clear hx350_26
            try clear hx350_27
            try clear hx350_28
            try clear hx350_29
            try clear hx350_3
            try clear hx350_30
            try clear hx350_31
            try clear hx350_32
            try clear hx350_33
            try clear hx350_4
            try clear hx350_5
            try clear hx350_6
            try clear hx350_7
            try clear hx350_8
            try clear hx350_9
            try clear hx351_0
            try clear hx351_1
            try clear hx351_10
            try clear hx351_11
            try clear hx351_12
            try clear hx351_13
            try clear hx351_14
            try clear hx351_15
            try clear hx351_16
            try clear hx351_17
            try clear hx351_18
            try clear hx351_19
            try clear hx351_2
            try clear hx351_20
            try clear hx351_21
            try clear hx351_22
            try clear hx351_23
            try clear hx351_24
            try clear hx351_25
            try clear hx351_26
            try clear hx351_27
            try clear hx351_28
            try clear hx351_29
            try clear hx351_3
            try clear hx351_30
            try clear hx351_31
            try clear hx351_32
            try clear hx351_33
            try clear hx351_4
            try clear hx351_5
            try clear hx351_6
            try clear hx351_7
            try clear hx351_8
            try clear hx351_9
            try clear p2
            try clear p3
            try clear p346
            try clear p347
            try clear p348
            try clear p349
            try clear p350
            try clear p351
            try clear p6
            try clear q3
            try clear q346
            try clear q347
            try clear q348
            try clear q349
            try clear q350
            try clear q351
            obtain ⟨x12_2, rfl, HA, HK2, HO_6, HR346_1, HR346_31, HB⟩ := hrel
            cases gk with
            | zero => exact absurd HA.out (by simp [purflinglaw06_LanesHeads.l1])
            | succ k2 =>
             have H := HA.out
             clear HA
             simp only [purflinglaw06_LanesHeads.l1] at H
             by_cases c23 : x12_2 < (t342.length : Int)
             · rw [if_pos c23] at H
               have c23b0 : decide (x12_2 < (t342.length : Int)) = true := decide_eq_true c23
               clear c23
               by_cases c24 : 0 ≤ x12_2
               · rw [if_pos c24] at H
                 have c24b0 : decide (0 ≤ x12_2) = true := decide_eq_true c24
                 clear c24
                 by_cases c25 : ((rd_T35 t342 x12_2).f1) = x8_1
                 · rw [if_pos c25] at H
                   have c25b0 : (((rd_T35 t342 x12_2).f1) == x8_1) = true := beq_iff_eq.mpr c25
                   have c25b1 : (((rd_T35 t342 x12_2).f1) != x8_1) = false := bne_eq_false_iff_eq.mpr c25
                   clear c25
                   by_cases c26 : x8_1 ≥ 0
                   · rw [if_pos c26] at H
                     have c26b0 : decide (0 ≤ x8_1) = true := decide_eq_true c26
                     clear c26
                     obtain ⟨ji27, hji27⟩ : ∃ j_ : Int, (wrap64 (x12_2 - 1)) = j_ := ⟨_, rfl⟩
                     replace H : (if 0 ≤ (ji27) then (if (ji27) < (t342.length : Int) then (if ((rd_T35 t342 (ji27)).f1) = x8_1 then (if ((rd_T35 t342 (ji27)).f1) = x9_1 then (if x9_1 ≥ 0 then (if ((rd_T35 t342 x12_2).f1) = x9_1 then (purflinglaw06_LanesHeads.l1 k2 t338 t342 x8_1 x9_1 (wrap64 (x12_2 + 1))) else (some false)) else (purflinglaw06_LanesHeads.l1 k2 t338 t342 x8_1 x9_1 (wrap64 (x12_2 + 1)))) else (purflinglaw06_LanesHeads.l1 k2 t338 t342 x8_1 x9_1 (wrap64 (x12_2 + 1)))) else (some false)) else (none)) else (none)) = some r := by first | (rw [hji27] at H; exact H) | (simp only [hji27] at H ⊢; exact H)
                     have hji27w : (IntKind.i64.wrap (x12_2 - 1)) = ji27 := (i64_w _).trans hji27
                     by_cases c28 : 0 ≤ (ji27)
                     · rw [if_pos c28] at H
                       have c28b0 : decide (0 ≤ (ji27)) = true := decide_eq_true c28
                       clear c28
                       by_cases c29 : (ji27) < (t342.length : Int)
                       · rw [if_pos c29] at H
                         have c29b0 : decide ((ji27) < (t342.length : Int)) = true := decide_eq_true c29
                         clear c29
                         by_cases c30 : ((rd_T35 t342 (ji27)).f1) = x8_1
                         · rw [if_pos c30] at H
                           have c30b0 : (((rd_T35 t342 (ji27)).f1) == x8_1) = true := beq_iff_eq.mpr c30
                           have c30b1 : (((rd_T35 t342 (ji27)).f1) != x8_1) = false := bne_eq_false_iff_eq.mpr c30
                           clear c30
                           by_cases c31 : ((rd_T35 t342 (ji27)).f1) = x9_1
                           · rw [if_pos c31] at H
                             have c31b0 : (((rd_T35 t342 (ji27)).f1) == x9_1) = true := beq_iff_eq.mpr c31
                             have c31b1 : (((rd_T35 t342 (ji27)).f1) != x9_1) = false := bne_eq_false_iff_eq.mpr c31
                             clear c31
                             by_cases c32 : x9_1 ≥ 0
                             · rw [if_pos c32] at H
                               have c32b0 : decide (0 ≤ x9_1) = true := decide_eq_true c32
                               clear c32
                               by_cases c33 : ((rd_T35 t342 x12_2).f1) = x9_1
                               · rw [if_pos c33] at H
                                 have c33b0 : (((rd_T35 t342 x12_2).f1) == x9_1) = true := beq_iff_eq.mpr c33
                                 have c33b1 : (((rd_T35 t342 x12_2).f1) != x9_1) = false := bne_eq_false_iff_eq.mpr c33
                                 clear c33
                                 have H' := Aside0.mk H
                                 clear H
                                 obtain ⟨Ao34, co34, eo34⟩ := Kd.R_slice HO_6.out
                                 subst eo34
                                 have p352 : 0 ≤ (x12_2 : Int) := of_decide_eq_true (by first | (with_reducible assumption) | assumption)
                                 have q352 : x12_2 < (t342.length : Int) := of_decide_eq_true (by first | (with_reducible assumption) | assumption)
                                 obtain ⟨ad352, e352, hx352_0, hx352_1⟩ := at_T35 (Kd.R_reads' HO_6.out).2.2 x12_2 p352 q352
                                 cases e352
                                 replace p352 := eq_true p352
                                 replace q352 := eq_true q352
                                 have p353 : 0 ≤ ((ji27) : Int) := of_decide_eq_true (by first | (with_reducible assumption) | assumption)
                                 have q353 : (ji27) < (t342.length : Int) := of_decide_eq_true (by first | (with_reducible assumption) | assumption)
                                 obtain ⟨ad353, e353, hx353_0, hx353_1⟩ := at_T35 (Kd.R_reads' HO_6.out).2.2 (ji27) p353 q353
                                 obtain rfl : ad352 = ad353 := (by injection e353)
                                 replace p353 := eq_true p353
                                 replace q353 := eq_true q353
                                 have p354 : 0 ≤ ((ji27) : Int) := of_decide_eq_true (by first | (with_reducible assumption) | assumption)
                                 have q354 : (ji27) < (t342.length : Int) := of_decide_eq_true (by first | (with_reducible assumption) | assumption)
                                 obtain ⟨ad354, e354, hx354_0, hx354_1⟩ := at_T35 (Kd.R_reads' HO_6.out).2.2 (ji27) p354 q354
                                 obtain rfl : ad352 = ad354 := (by injection e354)
                                 replace p354 := eq_true p354
                                 replace q354 := eq_true q354
                                 have p355 : 0 ≤ (x12_2 : Int) := of_decide_eq_true (by first | (with_reducible assumption) | assumption)
                                 have q355 : x12_2 < (t342.length : Int) := of_decide_eq_true (by first | (with_reducible assumption) | assumption)
                                 obtain ⟨ad355, e355, hx355_0, hx355_1⟩ := at_T35 (Kd.R_reads' HO_6.out).2.2 x12_2 p355 q355
                                 obtain rfl : ad352 = ad355 := (by injection e355)
                                 replace p355 := eq_true p355
                                 replace q355 := eq_true q355
                                 go_wp2
                                 go_roundg k2
                                 case measure => have := HK1.out; have := HK2.out; omega
                                 case rel => exact ⟨(wrap64 (x12_2 + 1)), (by first | rfl | (simp; done) | (simp [*]; done)), H', ⟨by have := HK1.out; have := HK2.out; omega⟩, ⟨by (with_reducible repeat (first | apply Kd.R_alloc | apply Kd.R_drewN | apply Kd.R_drew)); exact HO_6.out⟩, ⟨by repeat (first | (with_reducible exact HR346_1.out) | (with_reducible refine Kd.C_alloc ?_ _) | (with_reducible refine Kd.C_drewN ?_ _) | (with_reducible refine Kd.C_drew ?_) | exact HR346_1.out)⟩, ⟨by repeat (first | (with_reducible exact HR346_31.out) | (with_reducible refine Kd.C_alloc ?_ _) | (with_reducible refine Kd.C_drewN ?_ _) | (with_reducible refine Kd.C_drew ?_) | exact HR346_31.out)⟩, ⟨by repeat (first | (with_reducible first | exact HB.out | apply below_alloc | apply pw_below_drewN | apply below_drew1) | exact HB.out)⟩⟩
                               · rw [if_neg c33] at H
                                 have c33b0 : (((rd_T35 t342 x12_2).f1) == x9_1) = false := beq_eq_false_iff_ne.mpr c33
                                 have c33b1 : (((rd_T35 t342 x12_2).f1) != x9_1) = true := bne_iff_ne.mpr c33
                                 obtain rfl := Option.some.inj H
                                 obtain ⟨Ao35, co35, eo35⟩ := Kd.R_slice HO_6.out
                                 subst eo35
                                 have p352 : 0 ≤ (x12_2 : Int) := of_decide_eq_true (by first | (with_reducible assumption) | assumption)
                                 have q352 : x12_2 < (t342.length : Int) := of_decide_eq_true (by first | (with_reducible assumption) | assumption)
                                 obtain ⟨ad352, e352, hx352_0, hx352_1⟩ := at_T35 (Kd.R_reads' HO_6.out).2.2 x12_2 p352 q352
                                 cases e352
                                 replace p352 := eq_true p352
                                 replace q352 := eq_true q352
                                 have p353 : 0 ≤ ((ji27) : Int) := of_decide_eq_true (by first | (with_reducible assumption) | assumption)
                                 have q353 : (ji27) < (t342.length : Int) := of_decide_eq_true (by first | (with_reducible assumption) | assumption)
                                 obtain ⟨ad353, e353, hx353_0, hx353_1⟩ := at_T35 (Kd.R_reads' HO_6.out).2.2 (ji27) p353 q353
                                 obtain rfl : ad352 = ad353 := (by injection e353)
                                 replace p353 := eq_true p353
                                 replace q353 := eq_true q353
                                 have p354 : 0 ≤ ((ji27) : Int) := of_decide_eq_true (by first | (with_reducible assumption) | assumption)
                                 have q354 : (ji27) < (t342.length : Int) := of_decide_eq_true (by first | (with_reducible assumption) | assumption)
                                 obtain ⟨ad354, e354, hx354_0, hx354_1⟩ := at_T35 (Kd.R_reads' HO_6.out).2.2 (ji27) p354 q354
                                 obtain rfl : ad352 = ad354 := (by injection e354)
                                 replace p354 := eq_true p354
                                 replace q354 := eq_true q354
                                 have p355 : 0 ≤ (x12_2 : Int) := of_decide_eq_true (by first | (with_reducible assumption) | assumption)
                                 have q355 : x12_2 < (t342.length : Int) := of_decide_eq_true (by first | (with_reducible assumption) | assumption)
                                 obtain ⟨ad355, e355, hx355_0, hx355_1⟩ := at_T35 (Kd.R_reads' HO_6.out).2.2 x12_2 p355 q355
                                 obtain rfl : ad352 = ad355 := (by injection e355)
                                 replace p355 := eq_true p355
                                 replace q355 := eq_true q355
                                 go_wp2
                                 go_ret
                                 exact ⟨by first | rfl | (simp [errW_none, errW_some] <;> rfl) | (simp only [← hji27]; first | rfl | (simp [errW_none, errW_some] <;> rfl)) | (simp [*, errW_none, errW_some] <;> rfl), by repeat (first | (with_reducible first | exact HB.out | apply below_alloc | apply pw_below_drewN | apply below_drew1) | exact HB.out)⟩
                             · rw [if_neg c32] at H
                               have c32b0 : decide (0 ≤ x9_1) = false := decide_eq_false c32
                               clear c32
                               have H' := Aside0.mk H
                               clear H
                               obtain ⟨Ao36, co36, eo36⟩ := Kd.R_slice HO_6.out
                               subst eo36
                               have p352 : 0 ≤ (x12_2 : Int) := of_decide_eq_true (by first | (with_reducible assumption) | assumption)
                               have q352 : x12_2 < (t342.length : Int) := of_decide_eq_true (by first | (with_reducible assumption) | assumption)
                               obtain ⟨ad352, e352, hx352_0, hx352_1⟩ := at_T35 (Kd.R_reads' HO_6.out).2.2 x12_2 p352 q352
                               cases e352
                               replace p352 := eq_true p352
                               replace q352 := eq_true q352
                               have p353 : 0 ≤ ((ji27) : Int) := of_decide_eq_true (by first | (with_reducible assumption) | assumption)
                               have q353 : (ji27) < (t342.length : Int) := of_decide_eq_true (by first | (with_reducible assumption) | assumption)
                               obtain ⟨ad353, e353, hx353_0, hx353_1⟩ := at_T35 (Kd.R_reads' HO_6.out).2.2 (ji27) p353 q353
                               obtain rfl : ad352 = ad353 := (by injection e353)
                               replace p353 := eq_true p353
                               replace q353 := eq_true q353
                               have p354 : 0 ≤ ((ji27) : Int) := of_decide_eq_true (by first | (with_reducible assumption) | assumption)
                               have q354 : (ji27) < (t342.length : Int) := of_decide_eq_true (by first | (with_reducible assumption) | assumption)
                               obtain ⟨ad354, e354, hx354_0, hx354_1⟩ := at_T35 (Kd.R_reads' HO_6.out).2.2 (ji27) p354 q354
                               obtain rfl : ad352 = ad354 := (by injection e354)
                               replace p354 := eq_true p354
                               replace q354 := eq_true q354
                               go_wp2
                               go_roundg k2
                               case measure => have := HK1.out; have := HK2.out; omega
                               case rel => exact ⟨(wrap64 (x12_2 + 1)), (by first | rfl | (simp; done) | (simp [*]; done)), H', ⟨by have := HK1.out; have := HK2.out; omega⟩, ⟨by (with_reducible repeat (first | apply Kd.R_alloc | apply Kd.R_drewN | apply Kd.R_drew)); exact HO_6.out⟩, ⟨by repeat (first | (with_reducible exact HR346_1.out) | (with_reducible refine Kd.C_alloc ?_ _) | (with_reducible refine Kd.C_drewN ?_ _) | (with_reducible refine Kd.C_drew ?_) | exact HR346_1.out)⟩, ⟨by repeat (first | (with_reducible exact HR346_31.out) | (with_reducible refine Kd.C_alloc ?_ _) | (with_reducible refine Kd.C_drewN ?_ _) | (with_reducible refine Kd.C_drew ?_) | exact HR346_31.out)⟩, ⟨by repeat (first | (with_reducible first | exact HB.out | apply below_alloc | apply pw_below_drewN | apply below_drew1) | exact HB.out)⟩⟩
                           · rw [if_neg c31] at H
                             have c31b0 : (((rd_T35 t342 (ji27)).f1) == x9_1) = false := beq_eq_false_iff_ne.mpr c31
                             have c31b1 : (((rd_T35 t342 (ji27)).f1) != x9_1) = true := bne_iff_ne.mpr c31
                             have H' := Aside0.mk H
                             clear H
                             obtain ⟨Ao37, co37, eo37⟩ := Kd.R_slice HO_6.out
                             subst eo37
                             have p352 : 0 ≤ (x12_2 : Int) := of_decide_eq_true (by first | (with_reducible assumption) | assumption)
                             have q352 : x12_2 < (t342.length : Int) := of_decide_eq_true (by first | (with_reducible assumption) | assumption)
                             obtain ⟨ad352, e352, hx352_0, hx352_1⟩ := at_T35 (Kd.R_reads' HO_6.out).2.2 x12_2 p352 q352
                             cases e352
                             replace p352 := eq_true p352
                             replace q352 := eq_true q352
                             have p353 : 0 ≤ ((ji27) : Int) := of_decide_eq_true (by first | (with_reducible assumption) | assumption)
                             have q353 : (ji27) < (t342.length : Int) := of_decide_eq_true (by first | (with_reducible assumption) | assumption)
                             obtain ⟨ad353, e353, hx353_0, hx353_1⟩ := at_T35 (Kd.R_reads' HO_6.out).2.2 (ji27) p353 q353
                             obtain rfl : ad352 = ad353 := (by injection e353)
                             replace p353 := eq_true p353
                             replace q353 := eq_true q353
                             have p354 : 0 ≤ ((ji27) : Int) := of_decide_eq_true (by first | (with_reducible assumption) | assumption)
                             have q354 : (ji27) < (t342.length : Int) := of_decide_eq_true (by first | (with_reducible assumption) | assumption)
                             obtain ⟨ad354, e354, hx354_0, hx354_1⟩ := at_T35 (Kd.R_reads' HO_6.out).2.2 (ji27) p354 q354
                             obtain rfl : ad352 = ad354 := (by injection e354)
                             replace p354 := eq_true p354
                             replace q354 := eq_true q354
                             go_wp2
                             go_roundg k2
                             case measure => have := HK1.out; have := HK2.out; omega
                             case rel => exact ⟨(wrap64 (x12_2 + 1)), (by first | rfl | (simp; done) | (simp [*]; done)), H', ⟨by have := HK1.out; have := HK2.out; omega⟩, ⟨by (with_reducible repeat (first | apply Kd.R_alloc | apply Kd.R_drewN | apply Kd.R_drew)); exact HO_6.out⟩, ⟨by repeat (first | (with_reducible exact HR346_1.out) | (with_reducible refine Kd.C_alloc ?_ _) | (with_reducible refine Kd.C_drewN ?_ _) | (with_reducible refine Kd.C_drew ?_) | exact HR346_1.out)⟩, ⟨by repeat (first | (with_reducible exact HR346_31.out) | (with_reducible refine Kd.C_alloc ?_ _) | (with_reducible refine Kd.C_drewN ?_ _) | (with_reducible refine Kd.C_drew ?_) | exact HR346_31.out)⟩, ⟨by repeat (first | (with_reducible first | exact HB.out | apply below_alloc | apply pw_below_drewN | apply below_drew1) | exact HB.out)⟩⟩
                         · rw [if_neg c30] at H
                           have c30b0 : (((rd_T35 t342 (ji27)).f1) == x8_1) = false := beq_eq_false_iff_ne.mpr c30
                           have c30b1 : (((rd_T35 t342 (ji27)).f1) != x8_1) = true := bne_iff_ne.mpr c30
                           obtain rfl := Option.some.inj H
                           obtain ⟨Ao38, co38, eo38⟩ := Kd.R_slice HO_6.out
                           subst eo38
                           have p352 : 0 ≤ (x12_2 : Int) := of_decide_eq_true (by first | (with_reducible assumption) | assumption)
                           have q352 : x12_2 < (t342.length : Int) := of_decide_eq_true (by first | (with_reducible assumption) | assumption)
                           obtain ⟨ad352, e352, hx352_0, hx352_1⟩ := at_T35 (Kd.R_reads' HO_6.out).2.2 x12_2 p352 q352
                           cases e352
                           replace p352 := eq_true p352
                           replace q352 := eq_true q352
                           have p353 : 0 ≤ ((ji27) : Int) := of_decide_eq_true (by first | (with_reducible assumption) | assumption)
                           have q353 : (ji27) < (t342.length : Int) := of_decide_eq_true (by first | (with_reducible assumption) | assumption)
                           obtain ⟨ad353, e353, hx353_0, hx353_1⟩ := at_T35 (Kd.R_reads' HO_6.out).2.2 (ji27) p353 q353
                           obtain rfl : ad352 = ad353 := (by injection e353)
                           replace p353 := eq_true p353
                           replace q353 := eq_true q353
                           go_wp2
                           go_ret
                           exact ⟨by first | rfl | (simp [errW_none, errW_some] <;> rfl) | (simp only [← hji27]; first | rfl | (simp [errW_none, errW_some] <;> rfl)) | (simp [*, errW_none, errW_some] <;> rfl), by repeat (first | (with_reducible first | exact HB.out | apply below_alloc | apply pw_below_drewN | apply below_drew1) | exact HB.out)⟩
                       · rw [if_neg c29] at H
                         exact absurd H (by simp)
                     · rw [if_neg c28] at H
                       exact absurd H (by simp)
                   · rw [if_neg c26] at H
                     have c26b0 : decide (0 ≤ x8_1) = false := decide_eq_false c26
                     clear c26
                     obtain ⟨ji39, hji39⟩ : ∃ j_ : Int, (wrap64 (x12_2 - 1)) = j_ := ⟨_, rfl⟩
                     replace H : (if 0 ≤ (ji39) then (if (ji39) < (t342.length : Int) then (if ((rd_T35 t342 (ji39)).f1) = x9_1 then (if x9_1 ≥ 0 then (if ((rd_T35 t342 x12_2).f1) = x9_1 then (purflinglaw06_LanesHeads.l1 k2 t338 t342 x8_1 x9_1 (wrap64 (x12_2 + 1))) else (some false)) else (purflinglaw06_LanesHeads.l1 k2 t338 t342 x8_1 x9_1 (wrap64 (x12_2 + 1)))) else (purflinglaw06_LanesHeads.l1 k2 t338 t342 x8_1 x9_1 (wrap64 (x12_2 + 1)))) else (none)) else (none)) = some r := by first | (rw [hji39] at H; exact H) | (simp only [hji39] at H ⊢; exact H)
                     have hji39w : (IntKind.i64.wrap (x12_2 - 1)) = ji39 := (i64_w _).trans hji39
                     by_cases c40 : 0 ≤ (ji39)
                     · rw [if_pos c40] at H
                       have c40b0 : decide (0 ≤ (ji39)) = true := decide_eq_true c40
                       clear c40
                       by_cases c41 : (ji39) < (t342.length : Int)
                       · rw [if_pos c41] at H
                         have c41b0 : decide ((ji39) < (t342.length : Int)) = true := decide_eq_true c41
                         clear c41
                         by_cases c42 : ((rd_T35 t342 (ji39)).f1) = x9_1
                         · rw [if_pos c42] at H
                           have c42b0 : (((rd_T35 t342 (ji39)).f1) == x9_1) = true := beq_iff_eq.mpr c42
                           have c42b1 : (((rd_T35 t342 (ji39)).f1) != x9_1) = false := bne_eq_false_iff_eq.mpr c42
                           clear c42
                           by_cases c43 : x9_1 ≥ 0
                           · rw [if_pos c43] at H
                             have c43b0 : decide (0 ≤ x9_1) = true := decide_eq_true c43
                             clear c43
                             by_cases c44 : ((rd_T35 t342 x12_2).f1) = x9_1
                             · rw [if_pos c44] at H
                               have c44b0 : (((rd_T35 t342 x12_2).f1) == x9_1) = true := beq_iff_eq.mpr c44
                               have c44b1 : (((rd_T35 t342 x12_2).f1) != x9_1) = false := bne_eq_false_iff_eq.mpr c44
                               clear c44
                               have H' := Aside0.mk H
                               clear H
                               obtain ⟨Ao45, co45, eo45⟩ := Kd.R_slice HO_6.out
                               subst eo45
                               have p352 : 0 ≤ (x12_2 : Int) := of_decide_eq_true (by first | (with_reducible assumption) | assumption)
                               have q352 : x12_2 < (t342.length : Int) := of_decide_eq_true (by first | (with_reducible assumption) | assumption)
                               obtain ⟨ad352, e352, hx352_0, hx352_1⟩ := at_T35 (Kd.R_reads' HO_6.out).2.2 x12_2 p352 q352
                               cases e352
                               replace p352 := eq_true p352
                               replace q352 := eq_true q352
                               have p356 : 0 ≤ ((ji39) : Int) := of_decide_eq_true (by first | (with_reducible assumption) | assumption)
                               have q356 : (ji39) < (t342.length : Int) := of_decide_eq_true (by first | (with_reducible assumption) | assumption)
                               obtain ⟨ad356, e356, hx356_0, hx356_1⟩ := at_T35 (Kd.R_reads' HO_6.out).2.2 (ji39) p356 q356
                               obtain rfl : ad352 = ad356 := (by injection e356)
                               replace p356 := eq_true p356
                               replace q356 := eq_true q356
                               have p357 : 0 ≤ (x12_2 : Int) := of_decide_eq_true (by first | (with_reducible assumption) | assumption)
                               have q357 : x12_2 < (t342.length : Int) := of_decide_eq_true (by first | (with_reducible assumption) | assumption)
                               obtain ⟨ad357, e357, hx357_0, hx357_1⟩ := at_T35 (Kd.R_reads' HO_6.out).2.2 x12_2 p357 q357
                               obtain rfl : ad352 = ad357 := (by injection e357)
                               replace p357 := eq_true p357
                               replace q357 := eq_true q357
                               go_wp2
                               go_roundg k2
                               case measure => have := HK1.out; have := HK2.out; omega
                               case rel => exact ⟨(wrap64 (x12_2 + 1)), (by first | rfl | (simp; done) | (simp [*]; done)), H', ⟨by have := HK1.out; have := HK2.out; omega⟩, ⟨by (with_reducible repeat (first | apply Kd.R_alloc | apply Kd.R_drewN | apply Kd.R_drew)); exact HO_6.out⟩, ⟨by repeat (first | (with_reducible exact HR346_1.out) | (with_reducible refine Kd.C_alloc ?_ _) | (with_reducible refine Kd.C_drewN ?_ _) | (with_reducible refine Kd.C_drew ?_) | exact HR346_1.out)⟩, ⟨by repeat (first | (with_reducible exact HR346_31.out) | (with_reducible refine Kd.C_alloc ?_ _) | (with_reducible refine Kd.C_drewN ?_ _) | (with_reducible refine Kd.C_drew ?_) | exact HR346_31.out)⟩, ⟨by repeat (first | (with_reducible first | exact HB.out | apply below_alloc | apply pw_below_drewN | apply below_drew1) | exact HB.out)⟩⟩
                             · rw [if_neg c44] at H
                               have c44b0 : (((rd_T35 t342 x12_2).f1) == x9_1) = false := beq_eq_false_iff_ne.mpr c44
                               have c44b1 : (((rd_T35 t342 x12_2).f1) != x9_1) = true := bne_iff_ne.mpr c44
                               obtain rfl := Option.some.inj H
                               obtain ⟨Ao46, co46, eo46⟩ := Kd.R_slice HO_6.out
                               subst eo46
                               have p352 : 0 ≤ (x12_2 : Int) := of_decide_eq_true (by first | (with_reducible assumption) | assumption)
                               have q352 : x12_2 < (t342.length : Int) := of_decide_eq_true (by first | (with_reducible assumption) | assumption)
                               obtain ⟨ad352, e352, hx352_0, hx352_1⟩ := at_T35 (Kd.R_reads' HO_6.out).2.2 x12_2 p352 q352
                               cases e352
                               replace p352 := eq_true p352
                               replace q352 := eq_true q352
                               have p356 : 0 ≤ ((ji39) : Int) := of_decide_eq_true (by first | (with_reducible assumption) | assumption)
                               have q356 : (ji39) < (t342.length : Int) := of_decide_eq_true (by first | (with_reducible assumption) | assumption)
                               obtain ⟨ad356, e356, hx356_0, hx356_1⟩ := at_T35 (Kd.R_reads' HO_6.out).2.2 (ji39) p356 q356
                               obtain rfl : ad352 = ad356 := (by injection e356)
                               replace p356 := eq_true p356
                               replace q356 := eq_true q356
                               have p357 : 0 ≤ (x12_2 : Int) := of_decide_eq_true (by first | (with_reducible assumption) | assumption)
                               have q357 : x12_2 < (t342.length : Int) := of_decide_eq_true (by first | (with_reducible assumption) | assumption)
                               obtain ⟨ad357, e357, hx357_0, hx357_1⟩ := at_T35 (Kd.R_reads' HO_6.out).2.2 x12_2 p357 q357
                               obtain rfl : ad352 = ad357 := (by injection e357)
                               replace p357 := eq_true p357
                               replace q357 := eq_true q357
                               go_wp2
                               go_ret
                               exact ⟨by first | rfl | (simp [errW_none, errW_some] <;> rfl) | (simp only [← hji39]; first | rfl | (simp [errW_none, errW_some] <;> rfl)) | (simp [*, errW_none, errW_some] <;> rfl), by repeat (first | (with_reducible first | exact HB.out | apply below_alloc | apply pw_below_drewN | apply below_drew1) | exact HB.out)⟩
                           · rw [if_neg c43] at H
                             have c43b0 : decide (0 ≤ x9_1) = false := decide_eq_false c43
                             clear c43
                             have H' := Aside0.mk H
                             clear H
                             obtain ⟨Ao47, co47, eo47⟩ := Kd.R_slice HO_6.out
                             subst eo47
                             have p352 : 0 ≤ (x12_2 : Int) := of_decide_eq_true (by first | (with_reducible assumption) | assumption)
                             have q352 : x12_2 < (t342.length : Int) := of_decide_eq_true (by first | (with_reducible assumption) | assumption)
                             obtain ⟨ad352, e352, hx352_0, hx352_1⟩ := at_T35 (Kd.R_reads' HO_6.out).2.2 x12_2 p352 q352
                             cases e352
                             replace p352 := eq_true p352
                             replace q352 := eq_true q352
                             have p356 : 0 ≤ ((ji39) : Int) := of_decide_eq_true (by first | (with_reducible assumption) | assumption)
                             have q356 : (ji39) < (t342.length : Int) := of_decide_eq_true (by first | (with_reducible assumption) | assumption)
                             obtain ⟨ad356, e356, hx356_0, hx356_1⟩ := at_T35 (Kd.R_reads' HO_6.out).2.2 (ji39) p356 q356
                             obtain rfl : ad352 = ad356 := (by injection e356)
                             replace p356 := eq_true p356
                             replace q356 := eq_true q356
                             go_wp2
                             go_roundg k2
                             case measure => have := HK1.out; have := HK2.out; omega
                             case rel => exact ⟨(wrap64 (x12_2 + 1)), (by first | rfl | (simp; done) | (simp [*]; done)), H', ⟨by have := HK1.out; have := HK2.out; omega⟩, ⟨by (with_reducible repeat (first | apply Kd.R_alloc | apply Kd.R_drewN | apply Kd.R_drew)); exact HO_6.out⟩, ⟨by repeat (first | (with_reducible exact HR346_1.out) | (with_reducible refine Kd.C_alloc ?_ _) | (with_reducible refine Kd.C_drewN ?_ _) | (with_reducible refine Kd.C_drew ?_) | exact HR346_1.out)⟩, ⟨by repeat (first | (with_reducible exact HR346_31.out) | (with_reducible refine Kd.C_alloc ?_ _) | (with_reducible refine Kd.C_drewN ?_ _) | (with_reducible refine Kd.C_drew ?_) | exact HR346_31.out)⟩, ⟨by repeat (first | (with_reducible first | exact HB.out | apply below_alloc | apply pw_below_drewN | apply below_drew1) | exact HB.out)⟩⟩
                         · rw [if_neg c42] at H
                           have c42b0 : (((rd_T35 t342 (ji39)).f1) == x9_1) = false := beq_eq_false_iff_ne.mpr c42
                           have c42b1 : (((rd_T35 t342 (ji39)).f1) != x9_1) = true := bne_iff_ne.mpr c42
                           have H' := Aside0.mk H
                           clear H
                           obtain ⟨Ao48, co48, eo48⟩ := Kd.R_slice HO_6.out
                           subst eo48
                           have p352 : 0 ≤ (x12_2 : Int) := of_decide_eq_true (by first | (with_reducible assumption) | assumption)
                           have q352 : x12_2 < (t342.length : Int) := of_decide_eq_true (by first | (with_reducible assumption) | assumption)
                           obtain ⟨ad352, e352, hx352_0, hx352_1⟩ := at_T35 (Kd.R_reads' HO_6.out).2.2 x12_2 p352 q352
                           cases e352
                           replace p352 := eq_true p352
                           replace q352 := eq_true q352
                           have p356 : 0 ≤ ((ji39) : Int) := of_decide_eq_true (by first | (with_reducible assumption) | assumption)
                           have q356 : (ji39) < (t342.length : Int) := of_decide_eq_true (by first | (with_reducible assumption) | assumption)
                           obtain ⟨ad356, e356, hx356_0, hx356_1⟩ := at_T35 (Kd.R_reads' HO_6.out).2.2 (ji39) p356 q356
                           obtain rfl : ad352 = ad356 := (by injection e356)
                           replace p356 := eq_true p356
                           replace q356 := eq_true q356
                           go_wp2
                           go_roundg k2
                           case measure => have := HK1.out; have := HK2.out; omega
                           case rel => exact ⟨(wrap64 (x12_2 + 1)), (by first | rfl | (simp; done) | (simp [*]; done)), H', ⟨by have := HK1.out; have := HK2.out; omega⟩, ⟨by (with_reducible repeat (first | apply Kd.R_alloc | apply Kd.R_drewN | apply Kd.R_drew)); exact HO_6.out⟩, ⟨by repeat (first | (with_reducible exact HR346_1.out) | (with_reducible refine Kd.C_alloc ?_ _) | (with_reducible refine Kd.C_drewN ?_ _) | (with_reducible refine Kd.C_drew ?_) | exact HR346_1.out)⟩, ⟨by repeat (first | (with_reducible exact HR346_31.out) | (with_reducible refine Kd.C_alloc ?_ _) | (with_reducible refine Kd.C_drewN ?_ _) | (with_reducible refine Kd.C_drew ?_) | exact HR346_31.out)⟩, ⟨by repeat (first | (with_reducible first | exact HB.out | apply below_alloc | apply pw_below_drewN | apply below_drew1) | exact HB.out)⟩⟩
                       · rw [if_neg c41] at H
                         exact absurd H (by simp)
                     · rw [if_neg c40] at H
                       exact absurd H (by simp)
                 · rw [if_neg c25] at H
                   have c25b0 : (((rd_T35 t342 x12_2).f1) == x8_1) = false := beq_eq_false_iff_ne.mpr c25
                   have c25b1 : (((rd_T35 t342 x12_2).f1) != x8_1) = true := bne_iff_ne.mpr c25
                   obtain ⟨ji49, hji49⟩ : ∃ j_ : Int, (wrap64 (x12_2 - 1)) = j_ := ⟨_, rfl⟩
                   replace H : (if 0 ≤ (ji49) then (if (ji49) < (t342.length : Int) then (if ((rd_T35 t342 (ji49)).f1) = x9_1 then (if x9_1 ≥ 0 then (if ((rd_T35 t342 x12_2).f1) = x9_1 then (purflinglaw06_LanesHeads.l1 k2 t338 t342 x8_1 x9_1 (wrap64 (x12_2 + 1))) else (some false)) else (purflinglaw06_LanesHeads.l1 k2 t338 t342 x8_1 x9_1 (wrap64 (x12_2 + 1)))) else (purflinglaw06_LanesHeads.l1 k2 t338 t342 x8_1 x9_1 (wrap64 (x12_2 + 1)))) else (none)) else (none)) = some r := by first | (rw [hji49] at H; exact H) | (simp only [hji49] at H ⊢; exact H)
                   have hji49w : (IntKind.i64.wrap (x12_2 - 1)) = ji49 := (i64_w _).trans hji49
                   by_cases c50 : 0 ≤ (ji49)
                   · rw [if_pos c50] at H
                     have c50b0 : decide (0 ≤ (ji49)) = true := decide_eq_true c50
                     clear c50
                     by_cases c51 : (ji49) < (t342.length : Int)
                     · rw [if_pos c51] at H
                       have c51b0 : decide ((ji49) < (t342.length : Int)) = true := decide_eq_true c51
                       clear c51
                       by_cases c52 : ((rd_T35 t342 (ji49)).f1) = x9_1
                       · rw [if_pos c52] at H
                         have c52b0 : (((rd_T35 t342 (ji49)).f1) == x9_1) = true := beq_iff_eq.mpr c52
                         have c52b1 : (((rd_T35 t342 (ji49)).f1) != x9_1) = false := bne_eq_false_iff_eq.mpr c52
                         clear c52
                         by_cases c53 : x9_1 ≥ 0
                         · rw [if_pos c53] at H
                           have c53b0 : decide (0 ≤ x9_1) = true := decide_eq_true c53
                           clear c53
                           by_cases c54 : ((rd_T35 t342 x12_2).f1) = x9_1
                           · rw [if_pos c54] at H
                             have c54b0 : (((rd_T35 t342 x12_2).f1) == x9_1) = true := beq_iff_eq.mpr c54
                             have c54b1 : (((rd_T35 t342 x12_2).f1) != x9_1) = false := bne_eq_false_iff_eq.mpr c54
                             clear c54
                             have H' := Aside0.mk H
                             clear H
                             obtain ⟨Ao55, co55, eo55⟩ := Kd.R_slice HO_6.out
                             subst eo55
                             have p352 : 0 ≤ (x12_2 : Int) := of_decide_eq_true (by first | (with_reducible assumption) | assumption)
                             have q352 : x12_2 < (t342.length : Int) := of_decide_eq_true (by first | (with_reducible assumption) | assumption)
                             obtain ⟨ad352, e352, hx352_0, hx352_1⟩ := at_T35 (Kd.R_reads' HO_6.out).2.2 x12_2 p352 q352
                             cases e352
                             replace p352 := eq_true p352
                             replace q352 := eq_true q352
                             have p358 : 0 ≤ ((ji49) : Int) := of_decide_eq_true (by first | (with_reducible assumption) | assumption)
                             have q358 : (ji49) < (t342.length : Int) := of_decide_eq_true (by first | (with_reducible assumption) | assumption)
                             obtain ⟨ad358, e358, hx358_0, hx358_1⟩ := at_T35 (Kd.R_reads' HO_6.out).2.2 (ji49) p358 q358
                             obtain rfl : ad352 = ad358 := (by injection e358)
                             replace p358 := eq_true p358
                             replace q358 := eq_true q358
                             have p359 : 0 ≤ (x12_2 : Int) := of_decide_eq_true (by first | (with_reducible assumption) | assumption)
                             have q359 : x12_2 < (t342.length : Int) := of_decide_eq_true (by first | (with_reducible assumption) | assumption)
                             obtain ⟨ad359, e359, hx359_0, hx359_1⟩ := at_T35 (Kd.R_reads' HO_6.out).2.2 x12_2 p359 q359
                             obtain rfl : ad352 = ad359 := (by injection e359)
                             replace p359 := eq_true p359
                             replace q359 := eq_true q359
                             go_wp2
                             go_roundg k2
                             case measure => have := HK1.out; have := HK2.out; omega
                             case rel => exact ⟨(wrap64 (x12_2 + 1)), (by first | rfl | (simp; done) | (simp [*]; done)), H', ⟨by have := HK1.out; have := HK2.out; omega⟩, ⟨by (with_reducible repeat (first | apply Kd.R_alloc | apply Kd.R_drewN | apply Kd.R_drew)); exact HO_6.out⟩, ⟨by repeat (first | (with_reducible exact HR346_1.out) | (with_reducible refine Kd.C_alloc ?_ _) | (with_reducible refine Kd.C_drewN ?_ _) | (with_reducible refine Kd.C_drew ?_) | exact HR346_1.out)⟩, ⟨by repeat (first | (with_reducible exact HR346_31.out) | (with_reducible refine Kd.C_alloc ?_ _) | (with_reducible refine Kd.C_drewN ?_ _) | (with_reducible refine Kd.C_drew ?_) | exact HR346_31.out)⟩, ⟨by repeat (first | (with_reducible first | exact HB.out | apply below_alloc | apply pw_below_drewN | apply below_drew1) | exact HB.out)⟩⟩
                           · rw [if_neg c54] at H
                             have c54b0 : (((rd_T35 t342 x12_2).f1) == x9_1) = false := beq_eq_false_iff_ne.mpr c54
                             have c54b1 : (((rd_T35 t342 x12_2).f1) != x9_1) = true := bne_iff_ne.mpr c54
                             obtain rfl := Option.some.inj H
                             obtain ⟨Ao56, co56, eo56⟩ := Kd.R_slice HO_6.out
                             subst eo56
                             have p352 : 0 ≤ (x12_2 : Int) := of_decide_eq_true (by first | (with_reducible assumption) | assumption)
                             have q352 : x12_2 < (t342.length : Int) := of_decide_eq_true (by first | (with_reducible assumption) | assumption)
                             obtain ⟨ad352, e352, hx352_0, hx352_1⟩ := at_T35 (Kd.R_reads' HO_6.out).2.2 x12_2 p352 q352
                             cases e352
                             replace p352 := eq_true p352
                             replace q352 := eq_true q352
                             have p358 : 0 ≤ ((ji49) : Int) := of_decide_eq_true (by first | (with_reducible assumption) | assumption)
                             have q358 : (ji49) < (t342.length : Int) := of_decide_eq_true (by first | (with_reducible assumption) | assumption)
                             obtain ⟨ad358, e358, hx358_0, hx358_1⟩ := at_T35 (Kd.R_reads' HO_6.out).2.2 (ji49) p358 q358
                             obtain rfl : ad352 = ad358 := (by injection e358)
                             replace p358 := eq_true p358
                             replace q358 := eq_true q358
                             have p359 : 0 ≤ (x12_2 : Int) := of_decide_eq_true (by first | (with_reducible assumption) | assumption)
                             have q359 : x12_2 < (t342.length : Int) := of_decide_eq_true (by first | (with_reducible assumption) | assumption)
                             obtain ⟨ad359, e359, hx359_0, hx359_1⟩ := at_T35 (Kd.R_reads' HO_6.out).2.2 x12_2 p359 q359
                             obtain rfl : ad352 = ad359 := (by injection e359)
                             replace p359 := eq_true p359
                             replace q359 := eq_true q359
                             go_wp2
                             go_ret
                             exact ⟨by first | rfl | (simp [errW_none, errW_some] <;> rfl) | (simp only [← hji49]; first | rfl | (simp [errW_none, errW_some] <;> rfl)) | (simp [*, errW_none, errW_some] <;> rfl), by repeat (first | (with_reducible first | exact HB.out | apply below_alloc | apply pw_below_drewN | apply below_drew1) | exact HB.out)⟩
                         · rw [if_neg c53] at H
                           have c53b0 : decide (0 ≤ x9_1) = false := decide_eq_false c53
                           clear c53
                           have H' := Aside0.mk H
                           clear H
                           obtain ⟨Ao57, co57, eo57⟩ := Kd.R_slice HO_6.out
                           subst eo57
                           have p352 : 0 ≤ (x12_2 : Int) := of_decide_eq_true (by first | (with_reducible assumption) | assumption)
                           have q352 : x12_2 < (t342.length : Int) := of_decide_eq_true (by first | (with_reducible assumption) | assumption)
                           obtain ⟨ad352, e352, hx352_0, hx352_1⟩ := at_T35 (Kd.R_reads' HO_6.out).2.2 x12_2 p352 q352
                           cases e352
                           replace p352 := eq_true p352
                           replace q352 := eq_true q352
                           have p358 : 0 ≤ ((ji49) : Int) := of_decide_eq_true (by first | (with_reducible assumption) | assumption)
                           have q358 : (ji49) < (t342.length : Int) := of_decide_eq_true (by first | (with_reducible assumption) | assumption)
                           obtain ⟨ad358, e358, hx358_0, hx358_1⟩ := at_T35 (Kd.R_reads' HO_6.out).2.2 (ji49) p358 q358
                           obtain rfl : ad352 = ad358 := (by injection e358)
                           replace p358 := eq_true p358
                           replace q358 := eq_true q358
                           go_wp2
                           go_roundg k2
                           case measure => have := HK1.out; have := HK2.out; omega
                           case rel => exact ⟨(wrap64 (x12_2 + 1)), (by first | rfl | (simp; done) | (simp [*]; done)), H', ⟨by have := HK1.out; have := HK2.out; omega⟩, ⟨by (with_reducible repeat (first | apply Kd.R_alloc | apply Kd.R_drewN | apply Kd.R_drew)); exact HO_6.out⟩, ⟨by repeat (first | (with_reducible exact HR346_1.out) | (with_reducible refine Kd.C_alloc ?_ _) | (with_reducible refine Kd.C_drewN ?_ _) | (with_reducible refine Kd.C_drew ?_) | exact HR346_1.out)⟩, ⟨by repeat (first | (with_reducible exact HR346_31.out) | (with_reducible refine Kd.C_alloc ?_ _) | (with_reducible refine Kd.C_drewN ?_ _) | (with_reducible refine Kd.C_drew ?_) | exact HR346_31.out)⟩, ⟨by repeat (first | (with_reducible first | exact HB.out | apply below_alloc | apply pw_below_drewN | apply below_drew1) | exact HB.out)⟩⟩
                       · rw [if_neg c52] at H
                         have c52b0 : (((rd_T35 t342 (ji49)).f1) == x9_1) = false := beq_eq_false_iff_ne.mpr c52
                         have c52b1 : (((rd_T35 t342 (ji49)).f1) != x9_1) = true := bne_iff_ne.mpr c52
                         have H' := Aside0.mk H
                         clear H
                         obtain ⟨Ao58, co58, eo58⟩ := Kd.R_slice HO_6.out
                         subst eo58
                         have p352 : 0 ≤ (x12_2 : Int) := of_decide_eq_true (by first | (with_reducible assumption) | assumption)
                         have q352 : x12_2 < (t342.length : Int) := of_decide_eq_true (by first | (with_reducible assumption) | assumption)
                         obtain ⟨ad352, e352, hx352_0, hx352_1⟩ := at_T35 (Kd.R_reads' HO_6.out).2.2 x12_2 p352 q352
                         cases e352
                         replace p352 := eq_true p352
                         replace q352 := eq_true q352
                         have p358 : 0 ≤ ((ji49) : Int) := of_decide_eq_true (by first | (with_reducible assumption) | assumption)
                         have q358 : (ji49) < (t342.length : Int) := of_decide_eq_true (by first | (with_reducible assumption) | assumption)
                         obtain ⟨ad358, e358, hx358_0, hx358_1⟩ := at_T35 (Kd.R_reads' HO_6.out).2.2 (ji49) p358 q358
                         obtain rfl : ad352 = ad358 := (by injection e358)
                         replace p358 := eq_true p358
                         replace q358 := eq_true q358
                         go_wp2
                         go_roundg k2
                         case measure => have := HK1.out; have := HK2.out; omega
                         case rel => exact ⟨(wrap64 (x12_2 + 1)), (by first | rfl | (simp; done) | (simp [*]; done)), H', ⟨by have := HK1.out; have := HK2.out; omega⟩, ⟨by (with_reducible repeat (first | apply Kd.R_alloc | apply Kd.R_drewN | apply Kd.R_drew)); exact HO_6.out⟩, ⟨by repeat (first | (with_reducible exact HR346_1.out) | (with_reducible refine Kd.C_alloc ?_ _) | (with_reducible refine Kd.C_drewN ?_ _) | (with_reducible refine Kd.C_drew ?_) | exact HR346_1.out)⟩, ⟨by repeat (first | (with_reducible exact HR346_31.out) | (with_reducible refine Kd.C_alloc ?_ _) | (with_reducible refine Kd.C_drewN ?_ _) | (with_reducible refine Kd.C_drew ?_) | exact HR346_31.out)⟩, ⟨by repeat (first | (with_reducible first | exact HB.out | apply below_alloc | apply pw_below_drewN | apply below_drew1) | exact HB.out)⟩⟩
                     · rw [if_neg c51] at H
                       exact absurd H (by simp)
                   · rw [if_neg c50] at H
                     exact absurd H (by simp)
               · rw [if_neg c24] at H
                 exact absurd H (by simp)
             · rw [if_neg c23] at H
               have c23b0 : decide (x12_2 < (t342.length : Int)) = false := decide_eq_false c23
               clear c23
               obtain rfl := Option.some.inj H
               obtain ⟨Ao59, co59, eo59⟩ := Kd.R_slice HO_6.out
               subst eo59
               go_wp2
               go_ret
               exact ⟨by first | rfl | (simp [errW_none, errW_some] <;> rfl) | (simp [*, errW_none, errW_some] <;> rfl), by repeat (first | (with_reducible first | exact HB.out | apply below_alloc | apply pw_below_drewN | apply below_drew1) | exact HB.out)⟩
     · rw [if_neg c8] at H
       exact absurd H (by simp)
   · rw [if_neg c7] at H
     exact absurd H (by simp)
 · rw [if_neg c6] at H
   have c6b0 : (t343 == 0) = false := beq_eq_false_iff_ne.mpr c6
   have c6b1 : (t343 != 0) = true := bne_iff_ne.mpr c6
   obtain rfl := Option.some.inj H
   go_enter Try.func5, Try.ntmps5
   go_wp2_with (first | ((with_reducible refine gate_callee (f := 10) rfl ?_); refine goesL_ (some 13) rfl rfl Try.func10 (by kernel_rfl) rfl #[] rfl (by (try simp only [List.map_toArray, List.map_cons, List.map_nil]); first | done | rfl | (simp only [List.length_drop, List.length_take]; rfl)) ?_; (with_reducible refine (purflinglaw06_shown.calls  t338 _ A3.out).mono ?_); rintro e w60 ⟨rfl, hb⟩; refine ⟨_, rfl, ?_⟩; have n0_ := Aside0.mk (below_step (by repeat (first | (with_reducible first | exact HB.out | apply below_alloc | apply pw_below_drewN | apply below_drew1) | exact HB.out)) hb); clear HB; have HB := n0_; clear n0_; (try clear hb); (try clear hb2); (try clear hk); (try clear hi)) | ((with_reducible refine gate_callee (f := 11) rfl ?_); refine goesL_ (some 15) rfl rfl Try.func11 (by kernel_rfl) rfl #[.slice A0 l0.length c0] rfl (by (try simp only [List.map_toArray, List.map_cons, List.map_nil]); first | done | rfl | (simp only [List.length_drop, List.length_take]; rfl)) ?_; (with_reducible refine (purflinglaw04_Cut.calls k (fun k_ => k_ < w.heap.size) _ _ l0 t339 _ ?side1 A4.out).mono ?_); (case side1 => exact Kd.V_mk HC0.out (Kd.F_below (Kd.C_F k48_heap HR0.out) (by repeat (first | (with_reducible first | exact HB.out | apply below_alloc | apply pw_below_drewN | apply below_drew1) | exact HB.out)))); rintro e w61 ⟨v340, rfl, ho0, hb⟩; refine ⟨_, rfl, ?_⟩; have n0_ := Aside0.mk (Kd.N_lower (Kd.N_mono (ok' := fun k_ => True) ho0 (fun k_ hk_ => trivial)) (below_size (by repeat (first | (with_reducible first | exact HB.out | apply below_alloc | apply pw_below_drewN | apply below_drew1) | exact HB.out)))); have n1_ := Aside0.mk (below_step (by repeat (first | (with_reducible first | exact HB.out | apply below_alloc | apply pw_below_drewN | apply below_drew1) | exact HB.out)) hb); clear HB; have HO341 := n0_; have HB := n1_; clear n0_ n1_; (try clear hb); (try clear hb2); (try clear hk); (try clear hi); (try clear ho0); obtain ⟨Ao62, co62, eo62⟩ := Kd.N_slice HO341.out; subst eo62) | ((with_reducible refine gate_callee (f := 16) rfl ?_); refine goesL_ (some 19) rfl rfl Try.func16 (by kernel_rfl) rfl #[.slice Ao62 t339.length co62, .int .i64 a1] rfl (by (try simp only [List.map_toArray, List.map_cons, List.map_nil]); first | done | rfl | (simp only [List.length_drop, List.length_take]; rfl)) ?_; (with_reducible refine (lanes_Rows.calls _ _ t339 a1 t342 t343 _ ?side1 ?side2 A5.out).mono ?_); (case side1 => repeat (first | exact (Kd.N_reads' HO341.out).2.2 | (with_reducible refine Kd.C_alloc ?_ _) | (with_reducible refine Kd.C_drewN ?_ _) | (with_reducible refine Kd.C_drew ?_))); (case side2 => exact (Kd.N_reads' HO341.out).2.1); rintro e w63 ⟨v344, rfl, ho0, hb⟩; refine ⟨_, rfl, ?_⟩; have n0_ := Aside0.mk (Kd.N_elder' (by (with_reducible repeat (first | apply Kd.N_alloc | apply Kd.N_drewN | apply Kd.N_drew)); exact HO341.out) (Kd.R_base ho0) hb); have n1_ := Aside0.mk (Kd.R_lower ho0 (below_size (by repeat (first | (with_reducible first | exact HB.out | apply below_alloc | apply pw_below_drewN | apply below_drew1) | exact HB.out)))); have n2_ := Aside0.mk (below_step (by repeat (first | (with_reducible first | exact HB.out | apply below_alloc | apply pw_below_drewN | apply below_drew1) | exact HB.out)) hb); clear HO341; clear HB; have HO341 := n0_; have HO345 := n1_; have HB := n2_; clear n0_ n1_ n2_; (try clear hb); (try clear hb2); (try clear hk); (try clear hi); (try clear ho0)))
   go_ret
   exact ⟨by first | rfl | (simp [errW_none, errW_some] <;> rfl) | (simp [*, errW_none, errW_some] <;> rfl), by repeat (first | (with_reducible first | exact HB.out | apply below_alloc | apply pw_below_drewN | apply below_drew1) | exact HB.out)⟩
end Go.Proofs.Ytdmnaehgngpikaa.K
