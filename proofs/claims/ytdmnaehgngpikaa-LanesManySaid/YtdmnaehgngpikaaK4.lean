-- PRINTED by print.py (a twelfth state) out of the translation. Not trusted: Lean checks it.
import Derived.Test.YtdmnaehgngpikaaTrA
import Derived.Test.YtdmnaehgngpikaaK0
namespace Go.Proofs.Ytdmnaehgngpikaa.K
open Go.RowKit Go.Proofs.YtdmnaehgngpikaaW.PrintWords Go.Proofs.YtdmnaehgngpikaaW.PrintLast Go.Proofs.YtdmnaehgngpikaaW.PrintMore
attribute [local go_sem] max2_int min2_int max_two min_two max_three min_three max_four min_four   -- for this text's walks alone
set_option linter.unusedVariables false
set_option linter.unusedSimpArgs false
/-! ### bits_Mul64: function 49 -/
def bits_Mul64.f (a0 : Int) (a1 : Int) : Option (Int × Int) := some (IntKind.u64.wrap ((IntKind.u64.wrap ((IntKind.u64.wrap ((a0 / 4294967296) * (a1 / 4294967296))) + ((IntKind.u64.wrap ((IntKind.u64.wrap ((a0 / 4294967296) * (Go.bits .and .u64 a1 4294967295))) + ((IntKind.u64.wrap ((Go.bits .and .u64 a0 4294967295) * (Go.bits .and .u64 a1 4294967295))) / 4294967296))) / 4294967296))) + ((IntKind.u64.wrap ((Go.bits .and .u64 (IntKind.u64.wrap ((IntKind.u64.wrap ((a0 / 4294967296) * (Go.bits .and .u64 a1 4294967295))) + ((IntKind.u64.wrap ((Go.bits .and .u64 a0 4294967295) * (Go.bits .and .u64 a1 4294967295))) / 4294967296))) 4294967295) + (IntKind.u64.wrap ((Go.bits .and .u64 a0 4294967295) * (a1 / 4294967296))))) / 4294967296)), IntKind.u64.wrap (a0 * a1))
set_option maxHeartbeats 8000000 in
set_option maxRecDepth 100000 in
theorem bits_Mul64.calls (a0 : Int) (a1 : Int) (r1 : Int) (r2 : Int) (w : World) (h : bits_Mul64.f a0 a1 = some (r1, r2)) :
 Calls Try.prog 49 #[.int .u64 a0, .int .u64 a1] w fun e w' => e = .returned (.tuple #[.int .u64 r1, .int .u64 r2]) ∧ Drawn0 w w' := by
 have H : (some (IntKind.u64.wrap ((IntKind.u64.wrap ((IntKind.u64.wrap ((a0 / 4294967296) * (a1 / 4294967296))) + ((IntKind.u64.wrap ((IntKind.u64.wrap ((a0 / 4294967296) * (Go.bits .and .u64 a1 4294967295))) + ((IntKind.u64.wrap ((Go.bits .and .u64 a0 4294967295) * (Go.bits .and .u64 a1 4294967295))) / 4294967296))) / 4294967296))) + ((IntKind.u64.wrap ((Go.bits .and .u64 (IntKind.u64.wrap ((IntKind.u64.wrap ((a0 / 4294967296) * (Go.bits .and .u64 a1 4294967295))) + ((IntKind.u64.wrap ((Go.bits .and .u64 a0 4294967295) * (Go.bits .and .u64 a1 4294967295))) / 4294967296))) 4294967295) + (IntKind.u64.wrap ((Go.bits .and .u64 a0 4294967295) * (a1 / 4294967296))))) / 4294967296)), IntKind.u64.wrap (a0 * a1))) = some (r1, r2) := h
 clear h
 simp only [Option.some.injEq, Prod.mk.injEq] at H
 obtain ⟨rfl, rfl⟩ := H
 go_enter Try.func49, Try.ntmps49
 go_wp2
 go_ret2
 exact ⟨by first | rfl | (simp; done) | (simp [*]; done), by repeat (first | exact Drawn0.refl _ | apply Drawn0.step)⟩
/-! ### bits_Mul: function 38 -/
def bits_Mul.f (a0 : Int) (a1 : Int) : Option (Int × Int) := (bits_Mul64.f a0 a1).bind fun bt107 => (some (bt107.1, bt107.2))
set_option maxHeartbeats 8000000 in
set_option maxRecDepth 100000 in
theorem bits_Mul.calls (a0 : Int) (a1 : Int) (r1 : Int) (r2 : Int) (w : World) (h : bits_Mul.f a0 a1 = some (r1, r2)) :
 Calls Try.prog 38 #[.int .u64 a0, .int .u64 a1] w fun e w' => e = .returned (.tuple #[.int .u64 r1, .int .u64 r2]) ∧ Drawn0 w w' := by
 have H : ((bits_Mul64.f a0 a1).bind fun bt107 => (some (bt107.1, bt107.2))) = some (r1, r2) := h
 clear h
 replace H := Option.bind_eq_some_iff.mp H
 obtain ⟨⟨t107, t108⟩, A30, H⟩ := H
 replace H : (some (t107, t108)) = some (r1, r2) := H
 have A3 := Aside0.mk A30
 clear A30
 simp only [Option.some.injEq, Prod.mk.injEq] at H
 obtain ⟨rfl, rfl⟩ := H
 go_enter Try.func38, Try.ntmps38
 go_wp2_with (first | ((with_reducible refine gate_callee (f := 49) rfl ?_); refine goesL_ (some 25) rfl rfl Try.func49 (by kernel_rfl) rfl #[.int .u64 a0, .int .u64 a1] rfl (by (try simp only [List.map_toArray, List.map_cons, List.map_nil]); first | done | rfl | (simp only [List.length_drop, List.length_take]; rfl)) ?_; (with_reducible refine (bits_Mul64.calls a0 a1 t107 t108 _ A3.out).mono ?_); rintro e w' ⟨rfl, ⟨nd, rfl⟩⟩; refine ⟨_, rfl, ?_⟩))
 go_ret2
 exact ⟨by first | rfl | (simp; done) | (simp [*]; done), by repeat (first | exact Drawn0.refl _ | apply Drawn0.step)⟩
-- by hand: function 35 (tree_Check)
/-! ### lanes_check: function 23 -/
def lanes_check.f (l0 : List (S48)) (a1 : Int) : Option (Int) := (tree_Check.f l0).bind fun bt114 => (if bt114.2 = 0 then (if a1 < 0 then (some 2) else (if a1 ≥ (l0.length : Int) then (some 2) else (if 0 ≤ a1 then (if a1 < (l0.length : Int) then (if ((rd_T48 l0 a1).f0) = 2 then (some 0) else (some 2)) else (none)) else (none)))) else (some bt114.2))
set_option maxHeartbeats 8000000 in
set_option maxRecDepth 100000 in
theorem lanes_check.calls (A0 : Option Addr) (c0 : Nat) (l0 : List (S48)) (a1 : Int) (r : Int) (w : World) (hr0 : Kd.C k48 w A0 l0.length l0) (hc0 : l0.length ≤ c0) (h : lanes_check.f l0 a1 = some r) :
 Calls Try.prog 23 #[.slice A0 l0.length c0, .int .i64 a1] w fun e w' => e = .returned (.int .i64 r) ∧ Below w.heap.size w w' := by
 have HR0 := Aside0.mk hr0
 have HC0 := Aside0.mk hc0
 clear hr0 hc0
 have HB := Aside0.mk (Below.refl w.heap.size w)
 have H : ((tree_Check.f l0).bind fun bt114 => (if bt114.2 = 0 then (if a1 < 0 then (some 2) else (if a1 ≥ (l0.length : Int) then (some 2) else (if 0 ≤ a1 then (if a1 < (l0.length : Int) then (if ((rd_T48 l0 a1).f0) = 2 then (some 0) else (some 2)) else (none)) else (none)))) else (some bt114.2))) = some r := h
 clear h
 replace H := Option.bind_eq_some_iff.mp H
 obtain ⟨⟨t114, t115⟩, A30, H⟩ := H
 replace H : (if t115 = 0 then (if a1 < 0 then (some 2) else (if a1 ≥ (l0.length : Int) then (some 2) else (if 0 ≤ a1 then (if a1 < (l0.length : Int) then (if ((rd_T48 l0 a1).f0) = 2 then (some 0) else (some 2)) else (none)) else (none)))) else (some t115)) = some r := H
 have A3 := Aside0.mk A30
 clear A30
 by_cases c4 : t115 = 0
 · rw [if_pos c4] at H
   have c4b0 : (t115 == 0) = true := beq_iff_eq.mpr c4
   have c4b1 : (t115 != 0) = false := bne_eq_false_iff_eq.mpr c4
   clear c4
   by_cases c5 : a1 < 0
   · rw [if_pos c5] at H
     have c5b0 : decide (a1 < 0) = true := decide_eq_true c5
     clear c5
     obtain rfl := Option.some.inj H
     go_enter Try.func23, Try.ntmps23
     go_wp2_with (first | ((with_reducible refine gate_callee (f := 35) rfl ?_); refine goesL_ (some 9) rfl rfl Try.func35 (by kernel_rfl) rfl #[.slice A0 l0.length c0] rfl (by (try simp only [List.map_toArray, List.map_cons, List.map_nil]); first | done | rfl | (simp only [List.length_drop, List.length_take]; rfl)) ?_; (with_reducible refine (tree_Check.calls _ _ l0 t114 t115 _ ?side1 ?side2 A3.out).mono ?_); (case side1 => repeat (first | exact HR0.out | (with_reducible refine Kd.C_alloc ?_ _) | (with_reducible refine Kd.C_drewN ?_ _) | (with_reducible refine Kd.C_drew ?_))); (case side2 => exact HC0.out); rintro e w6 ⟨rfl, hb⟩; refine ⟨_, rfl, ?_⟩; have n0_ := Aside0.mk (below_step (by repeat (first | (with_reducible first | exact HB.out | apply below_alloc | apply pw_below_drewN | apply below_drew1) | exact HB.out)) hb); clear HB; have HB := n0_; clear n0_; (try clear hb); (try clear hb2); (try clear hk); (try clear hi)))
     go_ret
     exact ⟨by first | rfl | (simp [errW_none, errW_some] <;> rfl) | (simp [*, errW_none, errW_some] <;> rfl), by repeat (first | (with_reducible first | exact HB.out | apply below_alloc | apply pw_below_drewN | apply below_drew1) | exact HB.out)⟩
   · rw [if_neg c5] at H
     have c5b0 : decide (a1 < 0) = false := decide_eq_false c5
     clear c5
     by_cases c7 : a1 ≥ (l0.length : Int)
     · rw [if_pos c7] at H
       have c7b0 : decide ((l0.length : Int) ≤ a1) = true := decide_eq_true c7
       clear c7
       obtain rfl := Option.some.inj H
       go_enter Try.func23, Try.ntmps23
       go_wp2_with (first | ((with_reducible refine gate_callee (f := 35) rfl ?_); refine goesL_ (some 9) rfl rfl Try.func35 (by kernel_rfl) rfl #[.slice A0 l0.length c0] rfl (by (try simp only [List.map_toArray, List.map_cons, List.map_nil]); first | done | rfl | (simp only [List.length_drop, List.length_take]; rfl)) ?_; (with_reducible refine (tree_Check.calls _ _ l0 t114 t115 _ ?side1 ?side2 A3.out).mono ?_); (case side1 => repeat (first | exact HR0.out | (with_reducible refine Kd.C_alloc ?_ _) | (with_reducible refine Kd.C_drewN ?_ _) | (with_reducible refine Kd.C_drew ?_))); (case side2 => exact HC0.out); rintro e w8 ⟨rfl, hb⟩; refine ⟨_, rfl, ?_⟩; have n0_ := Aside0.mk (below_step (by repeat (first | (with_reducible first | exact HB.out | apply below_alloc | apply pw_below_drewN | apply below_drew1) | exact HB.out)) hb); clear HB; have HB := n0_; clear n0_; (try clear hb); (try clear hb2); (try clear hk); (try clear hi)))
       go_ret
       exact ⟨by first | rfl | (simp [errW_none, errW_some] <;> rfl) | (simp [*, errW_none, errW_some] <;> rfl), by repeat (first | (with_reducible first | exact HB.out | apply below_alloc | apply pw_below_drewN | apply below_drew1) | exact HB.out)⟩
     · rw [if_neg c7] at H
       have c7b0 : decide ((l0.length : Int) ≤ a1) = false := decide_eq_false c7
       clear c7
       by_cases c9 : 0 ≤ a1
       · rw [if_pos c9] at H
         have c9b0 : decide (0 ≤ a1) = true := decide_eq_true c9
         clear c9
         by_cases c10 : a1 < (l0.length : Int)
         · rw [if_pos c10] at H
           have c10b0 : decide (a1 < (l0.length : Int)) = true := decide_eq_true c10
           clear c10
           by_cases c11 : ((rd_T48 l0 a1).f0) = 2
           · rw [if_pos c11] at H
             have c11b0 : (((rd_T48 l0 a1).f0) == 2) = true := beq_iff_eq.mpr c11
             have c11b1 : (((rd_T48 l0 a1).f0) != 2) = false := bne_eq_false_iff_eq.mpr c11
             clear c11
             obtain rfl := Option.some.inj H
             go_enter Try.func23, Try.ntmps23
             go_wp2_with (first | ((with_reducible refine gate_callee (f := 35) rfl ?_); refine goesL_ (some 9) rfl rfl Try.func35 (by kernel_rfl) rfl #[.slice A0 l0.length c0] rfl (by (try simp only [List.map_toArray, List.map_cons, List.map_nil]); first | done | rfl | (simp only [List.length_drop, List.length_take]; rfl)) ?_; (with_reducible refine (tree_Check.calls _ _ l0 t114 t115 _ ?side1 ?side2 A3.out).mono ?_); (case side1 => repeat (first | exact HR0.out | (with_reducible refine Kd.C_alloc ?_ _) | (with_reducible refine Kd.C_drewN ?_ _) | (with_reducible refine Kd.C_drew ?_))); (case side2 => exact HC0.out); rintro e w12 ⟨rfl, hb⟩; refine ⟨_, rfl, ?_⟩; have n0_ := Aside0.mk (below_step (by repeat (first | (with_reducible first | exact HB.out | apply below_alloc | apply pw_below_drewN | apply below_drew1) | exact HB.out)) hb); clear HB; have HB := n0_; clear n0_; (try clear hb); (try clear hb2); (try clear hk); (try clear hi); have p116 : 0 ≤ (a1 : Int) := of_decide_eq_true (by first | (with_reducible assumption) | assumption); have q116 : a1 < (l0.length : Int) := of_decide_eq_true (by first | (with_reducible assumption) | assumption); obtain ⟨ad116, A116_1, c116_1, A116_31, c116_31, e116, hx116_0, hx116_1, hx116_2, hx116_3, hx116_4, hx116_5, hx116_6, hx116_7, hx116_8, hx116_9, hx116_10, hx116_11, hx116_12, hx116_13, hx116_14, hx116_15, hx116_16, hx116_17, hx116_18, hx116_19, hx116_20, hx116_21, hx116_22, hx116_23, hx116_24, hx116_25, hx116_26, hx116_27, hx116_28, hx116_29, hx116_30, hx116_31, hx116_32, hx116_33, hl116_1, hi116_1, hl116_31, hi116_31⟩ := at_T48 HR0.out a1 p116 q116; cases e116; replace hx116_0 := (HB.out.cell (World.block_lt_of_cell? w _ hx116_0)).trans hx116_0; replace hx116_1 := (HB.out.cell (World.block_lt_of_cell? w _ hx116_1)).trans hx116_1; replace hx116_2 := (HB.out.cell (World.block_lt_of_cell? w _ hx116_2)).trans hx116_2; replace hx116_3 := (HB.out.cell (World.block_lt_of_cell? w _ hx116_3)).trans hx116_3; replace hx116_4 := (HB.out.cell (World.block_lt_of_cell? w _ hx116_4)).trans hx116_4; replace hx116_5 := (HB.out.cell (World.block_lt_of_cell? w _ hx116_5)).trans hx116_5; replace hx116_6 := (HB.out.cell (World.block_lt_of_cell? w _ hx116_6)).trans hx116_6; replace hx116_7 := (HB.out.cell (World.block_lt_of_cell? w _ hx116_7)).trans hx116_7; replace hx116_8 := (HB.out.cell (World.block_lt_of_cell? w _ hx116_8)).trans hx116_8; replace hx116_9 := (HB.out.cell (World.block_lt_of_cell? w _ hx116_9)).trans hx116_9; replace hx116_10 := (HB.out.cell (World.block_lt_of_cell? w _ hx116_10)).trans hx116_10; replace hx116_11 := (HB.out.cell (World.block_lt_of_cell? w _ hx116_11)).trans hx116_11; replace hx116_12 := (HB.out.cell (World.block_lt_of_cell? w _ hx116_12)).trans hx116_12; replace hx116_13 := (HB.out.cell (World.block_lt_of_cell? w _ hx116_13)).trans hx116_13; replace hx116_14 := (HB.out.cell (World.block_lt_of_cell? w _ hx116_14)).trans hx116_14; replace hx116_15 := (HB.out.cell (World.block_lt_of_cell? w _ hx116_15)).trans hx116_15; replace hx116_16 := (HB.out.cell (World.block_lt_of_cell? w _ hx116_16)).trans hx116_16; replace hx116_17 := (HB.out.cell (World.block_lt_of_cell? w _ hx116_17)).trans hx116_17; replace hx116_18 := (HB.out.cell (World.block_lt_of_cell? w _ hx116_18)).trans hx116_18; replace hx116_19 := (HB.out.cell (World.block_lt_of_cell? w _ hx116_19)).trans hx116_19; replace hx116_20 := (HB.out.cell (World.block_lt_of_cell? w _ hx116_20)).trans hx116_20; replace hx116_21 := (HB.out.cell (World.block_lt_of_cell? w _ hx116_21)).trans hx116_21; replace hx116_22 := (HB.out.cell (World.block_lt_of_cell? w _ hx116_22)).trans hx116_22; replace hx116_23 := (HB.out.cell (World.block_lt_of_cell? w _ hx116_23)).trans hx116_23; replace hx116_24 := (HB.out.cell (World.block_lt_of_cell? w _ hx116_24)).trans hx116_24; replace hx116_25 := (HB.out.cell (World.block_lt_of_cell? w _ hx116_25)).trans hx116_25; replace hx116_26 := (HB.out.cell (World.block_lt_of_cell? w _ hx116_26)).trans hx116_26; replace hx116_27 := (HB.out.cell (World.block_lt_of_cell? w _ hx116_27)).trans hx116_27; replace hx116_28 := (HB.out.cell (World.block_lt_of_cell? w _ hx116_28)).trans hx116_28; replace hx116_29 := (HB.out.cell (World.block_lt_of_cell? w _ hx116_29)).trans hx116_29; replace hx116_30 := (HB.out.cell (World.block_lt_of_cell? w _ hx116_30)).trans hx116_30; replace hx116_31 := (HB.out.cell (World.block_lt_of_cell? w _ hx116_31)).trans hx116_31; replace hx116_32 := (HB.out.cell (World.block_lt_of_cell? w _ hx116_32)).trans hx116_32; replace hx116_33 := (HB.out.cell (World.block_lt_of_cell? w _ hx116_33)).trans hx116_33; have HR116_1 := Aside0.mk hi116_1; have HC116_1 := Aside0.mk hl116_1; clear hi116_1 hl116_1; have HR116_31 := Aside0.mk hi116_31; have HC116_31 := Aside0.mk hl116_31; clear hi116_31 hl116_31; replace p116 := eq_true p116; replace q116 := eq_true q116))
             go_ret
             exact ⟨by first | rfl | (simp [errW_none, errW_some] <;> rfl) | (simp [*, errW_none, errW_some] <;> rfl), by repeat (first | (with_reducible first | exact HB.out | apply below_alloc | apply pw_below_drewN | apply below_drew1) | exact HB.out)⟩
           · rw [if_neg c11] at H
             have c11b0 : (((rd_T48 l0 a1).f0) == 2) = false := beq_eq_false_iff_ne.mpr c11
             have c11b1 : (((rd_T48 l0 a1).f0) != 2) = true := bne_iff_ne.mpr c11
             obtain rfl := Option.some.inj H
             go_enter Try.func23, Try.ntmps23
             go_wp2_with (first | ((with_reducible refine gate_callee (f := 35) rfl ?_); refine goesL_ (some 9) rfl rfl Try.func35 (by kernel_rfl) rfl #[.slice A0 l0.length c0] rfl (by (try simp only [List.map_toArray, List.map_cons, List.map_nil]); first | done | rfl | (simp only [List.length_drop, List.length_take]; rfl)) ?_; (with_reducible refine (tree_Check.calls _ _ l0 t114 t115 _ ?side1 ?side2 A3.out).mono ?_); (case side1 => repeat (first | exact HR0.out | (with_reducible refine Kd.C_alloc ?_ _) | (with_reducible refine Kd.C_drewN ?_ _) | (with_reducible refine Kd.C_drew ?_))); (case side2 => exact HC0.out); rintro e w13 ⟨rfl, hb⟩; refine ⟨_, rfl, ?_⟩; have n0_ := Aside0.mk (below_step (by repeat (first | (with_reducible first | exact HB.out | apply below_alloc | apply pw_below_drewN | apply below_drew1) | exact HB.out)) hb); clear HB; have HB := n0_; clear n0_; (try clear hb); (try clear hb2); (try clear hk); (try clear hi); have p116 : 0 ≤ (a1 : Int) := of_decide_eq_true (by first | (with_reducible assumption) | assumption); have q116 : a1 < (l0.length : Int) := of_decide_eq_true (by first | (with_reducible assumption) | assumption); obtain ⟨ad116, A116_1, c116_1, A116_31, c116_31, e116, hx116_0, hx116_1, hx116_2, hx116_3, hx116_4, hx116_5, hx116_6, hx116_7, hx116_8, hx116_9, hx116_10, hx116_11, hx116_12, hx116_13, hx116_14, hx116_15, hx116_16, hx116_17, hx116_18, hx116_19, hx116_20, hx116_21, hx116_22, hx116_23, hx116_24, hx116_25, hx116_26, hx116_27, hx116_28, hx116_29, hx116_30, hx116_31, hx116_32, hx116_33, hl116_1, hi116_1, hl116_31, hi116_31⟩ := at_T48 HR0.out a1 p116 q116; cases e116; replace hx116_0 := (HB.out.cell (World.block_lt_of_cell? w _ hx116_0)).trans hx116_0; replace hx116_1 := (HB.out.cell (World.block_lt_of_cell? w _ hx116_1)).trans hx116_1; replace hx116_2 := (HB.out.cell (World.block_lt_of_cell? w _ hx116_2)).trans hx116_2; replace hx116_3 := (HB.out.cell (World.block_lt_of_cell? w _ hx116_3)).trans hx116_3; replace hx116_4 := (HB.out.cell (World.block_lt_of_cell? w _ hx116_4)).trans hx116_4; replace hx116_5 := (HB.out.cell (World.block_lt_of_cell? w _ hx116_5)).trans hx116_5; replace hx116_6 := (HB.out.cell (World.block_lt_of_cell? w _ hx116_6)).trans hx116_6; replace hx116_7 := (HB.out.cell (World.block_lt_of_cell? w _ hx116_7)).trans hx116_7; replace hx116_8 := (HB.out.cell (World.block_lt_of_cell? w _ hx116_8)).trans hx116_8; replace hx116_9 := (HB.out.cell (World.block_lt_of_cell? w _ hx116_9)).trans hx116_9; replace hx116_10 := (HB.out.cell (World.block_lt_of_cell? w _ hx116_10)).trans hx116_10; replace hx116_11 := (HB.out.cell (World.block_lt_of_cell? w _ hx116_11)).trans hx116_11; replace hx116_12 := (HB.out.cell (World.block_lt_of_cell? w _ hx116_12)).trans hx116_12; replace hx116_13 := (HB.out.cell (World.block_lt_of_cell? w _ hx116_13)).trans hx116_13; replace hx116_14 := (HB.out.cell (World.block_lt_of_cell? w _ hx116_14)).trans hx116_14; replace hx116_15 := (HB.out.cell (World.block_lt_of_cell? w _ hx116_15)).trans hx116_15; replace hx116_16 := (HB.out.cell (World.block_lt_of_cell? w _ hx116_16)).trans hx116_16; replace hx116_17 := (HB.out.cell (World.block_lt_of_cell? w _ hx116_17)).trans hx116_17; replace hx116_18 := (HB.out.cell (World.block_lt_of_cell? w _ hx116_18)).trans hx116_18; replace hx116_19 := (HB.out.cell (World.block_lt_of_cell? w _ hx116_19)).trans hx116_19; replace hx116_20 := (HB.out.cell (World.block_lt_of_cell? w _ hx116_20)).trans hx116_20; replace hx116_21 := (HB.out.cell (World.block_lt_of_cell? w _ hx116_21)).trans hx116_21; replace hx116_22 := (HB.out.cell (World.block_lt_of_cell? w _ hx116_22)).trans hx116_22; replace hx116_23 := (HB.out.cell (World.block_lt_of_cell? w _ hx116_23)).trans hx116_23; replace hx116_24 := (HB.out.cell (World.block_lt_of_cell? w _ hx116_24)).trans hx116_24; replace hx116_25 := (HB.out.cell (World.block_lt_of_cell? w _ hx116_25)).trans hx116_25; replace hx116_26 := (HB.out.cell (World.block_lt_of_cell? w _ hx116_26)).trans hx116_26; replace hx116_27 := (HB.out.cell (World.block_lt_of_cell? w _ hx116_27)).trans hx116_27; replace hx116_28 := (HB.out.cell (World.block_lt_of_cell? w _ hx116_28)).trans hx116_28; replace hx116_29 := (HB.out.cell (World.block_lt_of_cell? w _ hx116_29)).trans hx116_29; replace hx116_30 := (HB.out.cell (World.block_lt_of_cell? w _ hx116_30)).trans hx116_30; replace hx116_31 := (HB.out.cell (World.block_lt_of_cell? w _ hx116_31)).trans hx116_31; replace hx116_32 := (HB.out.cell (World.block_lt_of_cell? w _ hx116_32)).trans hx116_32; replace hx116_33 := (HB.out.cell (World.block_lt_of_cell? w _ hx116_33)).trans hx116_33; have HR116_1 := Aside0.mk hi116_1; have HC116_1 := Aside0.mk hl116_1; clear hi116_1 hl116_1; have HR116_31 := Aside0.mk hi116_31; have HC116_31 := Aside0.mk hl116_31; clear hi116_31 hl116_31; replace p116 := eq_true p116; replace q116 := eq_true q116))
             go_ret
             exact ⟨by first | rfl | (simp [errW_none, errW_some] <;> rfl) | (simp [*, errW_none, errW_some] <;> rfl), by repeat (first | (with_reducible first | exact HB.out | apply below_alloc | apply pw_below_drewN | apply below_drew1) | exact HB.out)⟩
         · rw [if_neg c10] at H
           exact absurd H (by simp)
       · rw [if_neg c9] at H
         exact absurd H (by simp)
 · rw [if_neg c4] at H
   have c4b0 : (t115 == 0) = false := beq_eq_false_iff_ne.mpr c4
   have c4b1 : (t115 != 0) = true := bne_iff_ne.mpr c4
   obtain rfl := Option.some.inj H
   go_enter Try.func23, Try.ntmps23
   go_wp2_with (first | ((with_reducible refine gate_callee (f := 35) rfl ?_); refine goesL_ (some 9) rfl rfl Try.func35 (by kernel_rfl) rfl #[.slice A0 l0.length c0] rfl (by (try simp only [List.map_toArray, List.map_cons, List.map_nil]); first | done | rfl | (simp only [List.length_drop, List.length_take]; rfl)) ?_; (with_reducible refine (tree_Check.calls _ _ l0 t114 t115 _ ?side1 ?side2 A3.out).mono ?_); (case side1 => repeat (first | exact HR0.out | (with_reducible refine Kd.C_alloc ?_ _) | (with_reducible refine Kd.C_drewN ?_ _) | (with_reducible refine Kd.C_drew ?_))); (case side2 => exact HC0.out); rintro e w14 ⟨rfl, hb⟩; refine ⟨_, rfl, ?_⟩; have n0_ := Aside0.mk (below_step (by repeat (first | (with_reducible first | exact HB.out | apply below_alloc | apply pw_below_drewN | apply below_drew1) | exact HB.out)) hb); clear HB; have HB := n0_; clear n0_; (try clear hb); (try clear hb2); (try clear hk); (try clear hi)))
   go_ret
   exact ⟨by first | rfl | (simp [errW_none, errW_some] <;> rfl) | (simp [*, errW_none, errW_some] <;> rfl), by repeat (first | (with_reducible first | exact HB.out | apply below_alloc | apply pw_below_drewN | apply below_drew1) | exact HB.out)⟩
end Go.Proofs.Ytdmnaehgngpikaa.K
