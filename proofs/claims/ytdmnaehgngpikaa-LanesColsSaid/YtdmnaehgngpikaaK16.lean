-- PRINTED by print.py (a twelfth state) out of the translation. Not trusted: Lean checks it.
import Derived.Test.YtdmnaehgngpikaaK0
import Derived.Test.YtdmnaehgngpikaaK15
namespace Go.Proofs.Ytdmnaehgngpikaa.K
open Go.RowKit Go.Proofs.YtdmnaehgngpikaaW.PrintWords Go.Proofs.YtdmnaehgngpikaaW.PrintLast Go.Proofs.YtdmnaehgngpikaaW.PrintMore
attribute [local go_sem] max2_int min2_int max_two min_two max_three min_three max_four min_four   -- for this text's walks alone
set_option linter.unusedVariables false
set_option linter.unusedSimpArgs false
/-! ### purflingref06_Check: function 13 -/
def purflingref06_Check.f (k : Nat) (l0 : List (S48)) (a1 : Int) : Option (Int) := (purflingref04_Check.f k l0).bind fun bt294 => (if bt294.2 = 0 then (if a1 < 0 then (some 2) else (if a1 ≥ (l0.length : Int) then (some 2) else (if 0 ≤ a1 then (if a1 < (l0.length : Int) then (if ((rd_T48 l0 a1).f0) = 2 then (some 0) else (some 2)) else (none)) else (none)))) else (some bt294.2))
set_option maxHeartbeats 8000000 in
set_option maxRecDepth 100000 in
theorem purflingref06_Check.calls (k : Nat) (A0 : Option Addr) (c0 : Nat) (l0 : List (S48)) (a1 : Int) (r : Int) (w : World) (hr0 : Kd.C k48 w A0 l0.length l0) (hc0 : l0.length ≤ c0) (h : purflingref06_Check.f k l0 a1 = some r) :
 Calls Try.prog 13 #[.slice A0 l0.length c0, .int .i64 a1] w fun e w' => e = .returned (.int .i64 r) ∧ Below w.heap.size w w' := by
 have HR0 := Aside0.mk hr0
 have HC0 := Aside0.mk hc0
 clear hr0 hc0
 have HB := Aside0.mk (Below.refl w.heap.size w)
 have H : ((purflingref04_Check.f k l0).bind fun bt294 => (if bt294.2 = 0 then (if a1 < 0 then (some 2) else (if a1 ≥ (l0.length : Int) then (some 2) else (if 0 ≤ a1 then (if a1 < (l0.length : Int) then (if ((rd_T48 l0 a1).f0) = 2 then (some 0) else (some 2)) else (none)) else (none)))) else (some bt294.2))) = some r := h
 clear h
 replace H := Option.bind_eq_some_iff.mp H
 obtain ⟨⟨t294, t295⟩, A30, H⟩ := H
 replace H : (if t295 = 0 then (if a1 < 0 then (some 2) else (if a1 ≥ (l0.length : Int) then (some 2) else (if 0 ≤ a1 then (if a1 < (l0.length : Int) then (if ((rd_T48 l0 a1).f0) = 2 then (some 0) else (some 2)) else (none)) else (none)))) else (some t295)) = some r := H
 have A3 := Aside0.mk A30
 clear A30
 by_cases c4 : t295 = 0
 · rw [if_pos c4] at H
   have c4b0 : (t295 == 0) = true := beq_iff_eq.mpr c4
   have c4b1 : (t295 != 0) = false := bne_eq_false_iff_eq.mpr c4
   clear c4
   by_cases c5 : a1 < 0
   · rw [if_pos c5] at H
     have c5b0 : decide (a1 < 0) = true := decide_eq_true c5
     clear c5
     obtain rfl := Option.some.inj H
     go_enter Try.func13, Try.ntmps13
     go_wp2_with (first | ((with_reducible refine gate_callee (f := 26) rfl ?_); refine goesL_ (some 9) rfl rfl Try.func26 (by kernel_rfl) rfl #[.slice A0 l0.length c0] rfl (by (try simp only [List.map_toArray, List.map_cons, List.map_nil]); first | done | rfl) ?_; (with_reducible refine (purflingref04_Check.calls k _ _ l0 t294 t295 _ ?side1 ?side2 A3.out).mono ?_); (case side1 => repeat (first | exact HR0.out | (with_reducible refine Kd.C_alloc ?_ _) | (with_reducible refine Kd.C_drewN ?_ _) | (with_reducible refine Kd.C_drew ?_))); (case side2 => exact HC0.out); rintro e w6 ⟨rfl, hb⟩; refine ⟨_, rfl, ?_⟩; have n0_ := Aside0.mk (below_step (by repeat (first | exact HB.out | apply below_alloc | apply pw_below_drewN | apply below_drew1)) hb); clear HB; have HB := n0_; clear n0_; (try clear hb); (try clear hb2); (try clear hk); (try clear hi)))
     go_ret
     exact ⟨by first | rfl | (simp [errW_none, errW_some] <;> rfl) | (simp [*, errW_none, errW_some] <;> rfl), by repeat (first | exact HB.out | apply below_alloc | apply pw_below_drewN | apply below_drew1)⟩
   · rw [if_neg c5] at H
     have c5b0 : decide (a1 < 0) = false := decide_eq_false c5
     clear c5
     by_cases c7 : a1 ≥ (l0.length : Int)
     · rw [if_pos c7] at H
       have c7b0 : decide ((l0.length : Int) ≤ a1) = true := decide_eq_true c7
       clear c7
       obtain rfl := Option.some.inj H
       go_enter Try.func13, Try.ntmps13
       go_wp2_with (first | ((with_reducible refine gate_callee (f := 26) rfl ?_); refine goesL_ (some 9) rfl rfl Try.func26 (by kernel_rfl) rfl #[.slice A0 l0.length c0] rfl (by (try simp only [List.map_toArray, List.map_cons, List.map_nil]); first | done | rfl) ?_; (with_reducible refine (purflingref04_Check.calls k _ _ l0 t294 t295 _ ?side1 ?side2 A3.out).mono ?_); (case side1 => repeat (first | exact HR0.out | (with_reducible refine Kd.C_alloc ?_ _) | (with_reducible refine Kd.C_drewN ?_ _) | (with_reducible refine Kd.C_drew ?_))); (case side2 => exact HC0.out); rintro e w8 ⟨rfl, hb⟩; refine ⟨_, rfl, ?_⟩; have n0_ := Aside0.mk (below_step (by repeat (first | exact HB.out | apply below_alloc | apply pw_below_drewN | apply below_drew1)) hb); clear HB; have HB := n0_; clear n0_; (try clear hb); (try clear hb2); (try clear hk); (try clear hi)))
       go_ret
       exact ⟨by first | rfl | (simp [errW_none, errW_some] <;> rfl) | (simp [*, errW_none, errW_some] <;> rfl), by repeat (first | exact HB.out | apply below_alloc | apply pw_below_drewN | apply below_drew1)⟩
     · rw [if_neg c7] at H
       have c7b0 : decide ((l0.length : Int) ≤ a1) = false := decide_eq_false c7
       clear c7
       by_cases c9 : 0 ≤ a1
       · rw [if_pos c9] at H
         have c9b0 : decide (0 ≤ a1) = true := decide_eq_true c9
         clear c9
         by_cases c10 : a1 < (l0.length : Int)
         · rw [if_pos c10] at H
           have c10b0 : decide (a1 < (l0.length : Int)) = true := decide_eq_true c10
           clear c10
           by_cases c11 : ((rd_T48 l0 a1).f0) = 2
           · rw [if_pos c11] at H
             have c11b0 : (((rd_T48 l0 a1).f0) == 2) = true := beq_iff_eq.mpr c11
             have c11b1 : (((rd_T48 l0 a1).f0) != 2) = false := bne_eq_false_iff_eq.mpr c11
             clear c11
             obtain rfl := Option.some.inj H
             go_enter Try.func13, Try.ntmps13
             go_wp2_with (first | ((with_reducible refine gate_callee (f := 26) rfl ?_); refine goesL_ (some 9) rfl rfl Try.func26 (by kernel_rfl) rfl #[.slice A0 l0.length c0] rfl (by (try simp only [List.map_toArray, List.map_cons, List.map_nil]); first | done | rfl) ?_; (with_reducible refine (purflingref04_Check.calls k _ _ l0 t294 t295 _ ?side1 ?side2 A3.out).mono ?_); (case side1 => repeat (first | exact HR0.out | (with_reducible refine Kd.C_alloc ?_ _) | (with_reducible refine Kd.C_drewN ?_ _) | (with_reducible refine Kd.C_drew ?_))); (case side2 => exact HC0.out); rintro e w12 ⟨rfl, hb⟩; refine ⟨_, rfl, ?_⟩; have n0_ := Aside0.mk (below_step (by repeat (first | exact HB.out | apply below_alloc | apply pw_below_drewN | apply below_drew1)) hb); clear HB; have HB := n0_; clear n0_; (try clear hb); (try clear hb2); (try clear hk); (try clear hi); have p296 : 0 ≤ (a1 : Int) := of_decide_eq_true (by first | (with_reducible assumption) | assumption); have q296 : a1 < (l0.length : Int) := of_decide_eq_true (by first | (with_reducible assumption) | assumption); obtain ⟨ad296, A296_1, c296_1, A296_31, c296_31, e296, hx296_0, hx296_1, hx296_2, hx296_3, hx296_4, hx296_5, hx296_6, hx296_7, hx296_8, hx296_9, hx296_10, hx296_11, hx296_12, hx296_13, hx296_14, hx296_15, hx296_16, hx296_17, hx296_18, hx296_19, hx296_20, hx296_21, hx296_22, hx296_23, hx296_24, hx296_25, hx296_26, hx296_27, hx296_28, hx296_29, hx296_30, hx296_31, hx296_32, hx296_33, hl296_1, hi296_1, hl296_31, hi296_31⟩ := at_T48 HR0.out a1 p296 q296; cases e296; replace hx296_0 := (HB.out.cell (World.block_lt_of_cell? w _ hx296_0)).trans hx296_0; replace hx296_1 := (HB.out.cell (World.block_lt_of_cell? w _ hx296_1)).trans hx296_1; replace hx296_2 := (HB.out.cell (World.block_lt_of_cell? w _ hx296_2)).trans hx296_2; replace hx296_3 := (HB.out.cell (World.block_lt_of_cell? w _ hx296_3)).trans hx296_3; replace hx296_4 := (HB.out.cell (World.block_lt_of_cell? w _ hx296_4)).trans hx296_4; replace hx296_5 := (HB.out.cell (World.block_lt_of_cell? w _ hx296_5)).trans hx296_5; replace hx296_6 := (HB.out.cell (World.block_lt_of_cell? w _ hx296_6)).trans hx296_6; replace hx296_7 := (HB.out.cell (World.block_lt_of_cell? w _ hx296_7)).trans hx296_7; replace hx296_8 := (HB.out.cell (World.block_lt_of_cell? w _ hx296_8)).trans hx296_8; replace hx296_9 := (HB.out.cell (World.block_lt_of_cell? w _ hx296_9)).trans hx296_9; replace hx296_10 := (HB.out.cell (World.block_lt_of_cell? w _ hx296_10)).trans hx296_10; replace hx296_11 := (HB.out.cell (World.block_lt_of_cell? w _ hx296_11)).trans hx296_11; replace hx296_12 := (HB.out.cell (World.block_lt_of_cell? w _ hx296_12)).trans hx296_12; replace hx296_13 := (HB.out.cell (World.block_lt_of_cell? w _ hx296_13)).trans hx296_13; replace hx296_14 := (HB.out.cell (World.block_lt_of_cell? w _ hx296_14)).trans hx296_14; replace hx296_15 := (HB.out.cell (World.block_lt_of_cell? w _ hx296_15)).trans hx296_15; replace hx296_16 := (HB.out.cell (World.block_lt_of_cell? w _ hx296_16)).trans hx296_16; replace hx296_17 := (HB.out.cell (World.block_lt_of_cell? w _ hx296_17)).trans hx296_17; replace hx296_18 := (HB.out.cell (World.block_lt_of_cell? w _ hx296_18)).trans hx296_18; replace hx296_19 := (HB.out.cell (World.block_lt_of_cell? w _ hx296_19)).trans hx296_19; replace hx296_20 := (HB.out.cell (World.block_lt_of_cell? w _ hx296_20)).trans hx296_20; replace hx296_21 := (HB.out.cell (World.block_lt_of_cell? w _ hx296_21)).trans hx296_21; replace hx296_22 := (HB.out.cell (World.block_lt_of_cell? w _ hx296_22)).trans hx296_22; replace hx296_23 := (HB.out.cell (World.block_lt_of_cell? w _ hx296_23)).trans hx296_23; replace hx296_24 := (HB.out.cell (World.block_lt_of_cell? w _ hx296_24)).trans hx296_24; replace hx296_25 := (HB.out.cell (World.block_lt_of_cell? w _ hx296_25)).trans hx296_25; replace hx296_26 := (HB.out.cell (World.block_lt_of_cell? w _ hx296_26)).trans hx296_26; replace hx296_27 := (HB.out.cell (World.block_lt_of_cell? w _ hx296_27)).trans hx296_27; replace hx296_28 := (HB.out.cell (World.block_lt_of_cell? w _ hx296_28)).trans hx296_28; replace hx296_29 := (HB.out.cell (World.block_lt_of_cell? w _ hx296_29)).trans hx296_29; replace hx296_30 := (HB.out.cell (World.block_lt_of_cell? w _ hx296_30)).trans hx296_30; replace hx296_31 := (HB.out.cell (World.block_lt_of_cell? w _ hx296_31)).trans hx296_31; replace hx296_32 := (HB.out.cell (World.block_lt_of_cell? w _ hx296_32)).trans hx296_32; replace hx296_33 := (HB.out.cell (World.block_lt_of_cell? w _ hx296_33)).trans hx296_33; have HR296_1 := Aside0.mk hi296_1; have HC296_1 := Aside0.mk hl296_1; clear hi296_1 hl296_1; have HR296_31 := Aside0.mk hi296_31; have HC296_31 := Aside0.mk hl296_31; clear hi296_31 hl296_31; replace p296 := eq_true p296; replace q296 := eq_true q296))
             go_ret
             exact ⟨by first | rfl | (simp [errW_none, errW_some] <;> rfl) | (simp [*, errW_none, errW_some] <;> rfl), by repeat (first | exact HB.out | apply below_alloc | apply pw_below_drewN | apply below_drew1)⟩
           · rw [if_neg c11] at H
             have c11b0 : (((rd_T48 l0 a1).f0) == 2) = false := beq_eq_false_iff_ne.mpr c11
             have c11b1 : (((rd_T48 l0 a1).f0) != 2) = true := bne_iff_ne.mpr c11
             obtain rfl := Option.some.inj H
             go_enter Try.func13, Try.ntmps13
             go_wp2_with (first | ((with_reducible refine gate_callee (f := 26) rfl ?_); refine goesL_ (some 9) rfl rfl Try.func26 (by kernel_rfl) rfl #[.slice A0 l0.length c0] rfl (by (try simp only [List.map_toArray, List.map_cons, List.map_nil]); first | done | rfl) ?_; (with_reducible refine (purflingref04_Check.calls k _ _ l0 t294 t295 _ ?side1 ?side2 A3.out).mono ?_); (case side1 => repeat (first | exact HR0.out | (with_reducible refine Kd.C_alloc ?_ _) | (with_reducible refine Kd.C_drewN ?_ _) | (with_reducible refine Kd.C_drew ?_))); (case side2 => exact HC0.out); rintro e w13 ⟨rfl, hb⟩; refine ⟨_, rfl, ?_⟩; have n0_ := Aside0.mk (below_step (by repeat (first | exact HB.out | apply below_alloc | apply pw_below_drewN | apply below_drew1)) hb); clear HB; have HB := n0_; clear n0_; (try clear hb); (try clear hb2); (try clear hk); (try clear hi); have p296 : 0 ≤ (a1 : Int) := of_decide_eq_true (by first | (with_reducible assumption) | assumption); have q296 : a1 < (l0.length : Int) := of_decide_eq_true (by first | (with_reducible assumption) | assumption); obtain ⟨ad296, A296_1, c296_1, A296_31, c296_31, e296, hx296_0, hx296_1, hx296_2, hx296_3, hx296_4, hx296_5, hx296_6, hx296_7, hx296_8, hx296_9, hx296_10, hx296_11, hx296_12, hx296_13, hx296_14, hx296_15, hx296_16, hx296_17, hx296_18, hx296_19, hx296_20, hx296_21, hx296_22, hx296_23, hx296_24, hx296_25, hx296_26, hx296_27, hx296_28, hx296_29, hx296_30, hx296_31, hx296_32, hx296_33, hl296_1, hi296_1, hl296_31, hi296_31⟩ := at_T48 HR0.out a1 p296 q296; cases e296; replace hx296_0 := (HB.out.cell (World.block_lt_of_cell? w _ hx296_0)).trans hx296_0; replace hx296_1 := (HB.out.cell (World.block_lt_of_cell? w _ hx296_1)).trans hx296_1; replace hx296_2 := (HB.out.cell (World.block_lt_of_cell? w _ hx296_2)).trans hx296_2; replace hx296_3 := (HB.out.cell (World.block_lt_of_cell? w _ hx296_3)).trans hx296_3; replace hx296_4 := (HB.out.cell (World.block_lt_of_cell? w _ hx296_4)).trans hx296_4; replace hx296_5 := (HB.out.cell (World.block_lt_of_cell? w _ hx296_5)).trans hx296_5; replace hx296_6 := (HB.out.cell (World.block_lt_of_cell? w _ hx296_6)).trans hx296_6; replace hx296_7 := (HB.out.cell (World.block_lt_of_cell? w _ hx296_7)).trans hx296_7; replace hx296_8 := (HB.out.cell (World.block_lt_of_cell? w _ hx296_8)).trans hx296_8; replace hx296_9 := (HB.out.cell (World.block_lt_of_cell? w _ hx296_9)).trans hx296_9; replace hx296_10 := (HB.out.cell (World.block_lt_of_cell? w _ hx296_10)).trans hx296_10; replace hx296_11 := (HB.out.cell (World.block_lt_of_cell? w _ hx296_11)).trans hx296_11; replace hx296_12 := (HB.out.cell (World.block_lt_of_cell? w _ hx296_12)).trans hx296_12; replace hx296_13 := (HB.out.cell (World.block_lt_of_cell? w _ hx296_13)).trans hx296_13; replace hx296_14 := (HB.out.cell (World.block_lt_of_cell? w _ hx296_14)).trans hx296_14; replace hx296_15 := (HB.out.cell (World.block_lt_of_cell? w _ hx296_15)).trans hx296_15; replace hx296_16 := (HB.out.cell (World.block_lt_of_cell? w _ hx296_16)).trans hx296_16; replace hx296_17 := (HB.out.cell (World.block_lt_of_cell? w _ hx296_17)).trans hx296_17; replace hx296_18 := (HB.out.cell (World.block_lt_of_cell? w _ hx296_18)).trans hx296_18; replace hx296_19 := (HB.out.cell (World.block_lt_of_cell? w _ hx296_19)).trans hx296_19; replace hx296_20 := (HB.out.cell (World.block_lt_of_cell? w _ hx296_20)).trans hx296_20; replace hx296_21 := (HB.out.cell (World.block_lt_of_cell? w _ hx296_21)).trans hx296_21; replace hx296_22 := (HB.out.cell (World.block_lt_of_cell? w _ hx296_22)).trans hx296_22; replace hx296_23 := (HB.out.cell (World.block_lt_of_cell? w _ hx296_23)).trans hx296_23; replace hx296_24 := (HB.out.cell (World.block_lt_of_cell? w _ hx296_24)).trans hx296_24; replace hx296_25 := (HB.out.cell (World.block_lt_of_cell? w _ hx296_25)).trans hx296_25; replace hx296_26 := (HB.out.cell (World.block_lt_of_cell? w _ hx296_26)).trans hx296_26; replace hx296_27 := (HB.out.cell (World.block_lt_of_cell? w _ hx296_27)).trans hx296_27; replace hx296_28 := (HB.out.cell (World.block_lt_of_cell? w _ hx296_28)).trans hx296_28; replace hx296_29 := (HB.out.cell (World.block_lt_of_cell? w _ hx296_29)).trans hx296_29; replace hx296_30 := (HB.out.cell (World.block_lt_of_cell? w _ hx296_30)).trans hx296_30; replace hx296_31 := (HB.out.cell (World.block_lt_of_cell? w _ hx296_31)).trans hx296_31; replace hx296_32 := (HB.out.cell (World.block_lt_of_cell? w _ hx296_32)).trans hx296_32; replace hx296_33 := (HB.out.cell (World.block_lt_of_cell? w _ hx296_33)).trans hx296_33; have HR296_1 := Aside0.mk hi296_1; have HC296_1 := Aside0.mk hl296_1; clear hi296_1 hl296_1; have HR296_31 := Aside0.mk hi296_31; have HC296_31 := Aside0.mk hl296_31; clear hi296_31 hl296_31; replace p296 := eq_true p296; replace q296 := eq_true q296))
             go_ret
             exact ⟨by first | rfl | (simp [errW_none, errW_some] <;> rfl) | (simp [*, errW_none, errW_some] <;> rfl), by repeat (first | exact HB.out | apply below_alloc | apply pw_below_drewN | apply below_drew1)⟩
         · rw [if_neg c10] at H
           exact absurd H (by simp)
       · rw [if_neg c9] at H
         exact absurd H (by simp)
 · rw [if_neg c4] at H
   have c4b0 : (t295 == 0) = false := beq_eq_false_iff_ne.mpr c4
   have c4b1 : (t295 != 0) = true := bne_iff_ne.mpr c4
   obtain rfl := Option.some.inj H
   go_enter Try.func13, Try.ntmps13
   go_wp2_with (first | ((with_reducible refine gate_callee (f := 26) rfl ?_); refine goesL_ (some 9) rfl rfl Try.func26 (by kernel_rfl) rfl #[.slice A0 l0.length c0] rfl (by (try simp only [List.map_toArray, List.map_cons, List.map_nil]); first | done | rfl) ?_; (with_reducible refine (purflingref04_Check.calls k _ _ l0 t294 t295 _ ?side1 ?side2 A3.out).mono ?_); (case side1 => repeat (first | exact HR0.out | (with_reducible refine Kd.C_alloc ?_ _) | (with_reducible refine Kd.C_drewN ?_ _) | (with_reducible refine Kd.C_drew ?_))); (case side2 => exact HC0.out); rintro e w14 ⟨rfl, hb⟩; refine ⟨_, rfl, ?_⟩; have n0_ := Aside0.mk (below_step (by repeat (first | exact HB.out | apply below_alloc | apply pw_below_drewN | apply below_drew1)) hb); clear HB; have HB := n0_; clear n0_; (try clear hb); (try clear hb2); (try clear hk); (try clear hi)))
   go_ret
   exact ⟨by first | rfl | (simp [errW_none, errW_some] <;> rfl) | (simp [*, errW_none, errW_some] <;> rfl), by repeat (first | exact HB.out | apply below_alloc | apply pw_below_drewN | apply below_drew1)⟩
-- by hand: function 10 (purflinglaw06_shown)
-- by hand: function 12 (lanes_Cols)
end Go.Proofs.Ytdmnaehgngpikaa.K
