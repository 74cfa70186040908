-- PRINTED by print.py (a twelfth state) out of the translation. Not trusted: Lean checks it.
import Derived.Test.YtjhpkikgajgdmaaFxF
import Derived.Test.YtjhpkikgajgdmaaFxM
import Derived.Test.YtjhpkikgajgdmaaFxS
import Derived.Test.YtjhpkikgajgdmaaK0
import Derived.Test.YtjhpkikgajgdmaaK6
namespace Go.Proofs.Ytjhpkikgajgdmaa.K
open Go.RowKit Go.Proofs.YtjhpkikgajgdmaaW.PrintWords Go.Proofs.YtjhpkikgajgdmaaW.PrintLast Go.Proofs.YtjhpkikgajgdmaaW.PrintMore
attribute [local go_sem] max2_int min2_int max_two min_two max_three min_three max_four min_four   -- for this text's walks alone
set_option linter.unusedVariables false
set_option linter.unusedSimpArgs false

/-! ### purflinglaw05_FixupStands: function 4 -/
mutual
def purflinglaw05_FixupStands.l0 : Nat → Bool → List (S43) → Int → Option (Bool)
 | 0, _, _, _ => none
 | k + 1, x3, x4, x6 => if x6 < (x4.length : Int) then (purflinglaw05_FixupStands.l1 k x3 x4 x6 0) else (some x3)
def purflinglaw05_FixupStands.l1 : Nat → Bool → List (S43) → Int → Int → Option (Bool)
 | 0, _, _, _, _ => none
 | k + 1, x3, x4, x6, x7 => if 0 ≤ x6 then (if x6 < (x4.length : Int) then (if x7 < (((rd_T43 x4 x6).f1).length : Int) then (if 0 ≤ x7 then (if (rd ((rd_T43 x4 x6).f1) x7) < 0 then (some false) else (if (rd ((rd_T43 x4 x6).f1) x7) ≥ (x4.length : Int) then (some false) else (if 0 ≤ (rd ((rd_T43 x4 x6).f1) x7) then (if (rd ((rd_T43 x4 x6).f1) x7) < (x4.length : Int) then ((fixup_May.f ((rd_T43 x4 x6).f0) ((rd_T43 x4 (rd ((rd_T43 x4 x6).f1) x7)).f0)).bind fun t273 => (if t273 = true then (purflinglaw05_FixupStands.l1 k x3 x4 x6 (wrap64 (x7 + 1))) else (some false))) else (none)) else (none)))) else (none)) else (purflinglaw05_FixupStands.l0 k x3 x4 (wrap64 (x6 + 1)))) else (none)) else (none)
end
def purflinglaw05_FixupStands.f (k : Nat) (l0 : List (S43)) : Option (Bool) := (purflinglaw05_shown.f).bind fun t260 => ((purflinglaw04_Cut.f k l0).bind fun t261 => ((fixup_Fix.f t261).bind fun bt264 => (if bt264.2 = 0 then (purflinglaw05_FixupStands.l0 k t260 bt264.1 0) else (some t260))))
theorem purflinglaw05_FixupStands.mono_l : ∀ k, (∀ y0 y1 y2, LeO (purflinglaw05_FixupStands.l0 k y0 y1 y2) (purflinglaw05_FixupStands.l0 (k + 1) y0 y1 y2)) ∧ (∀ y0 y1 y2 y3, LeO (purflinglaw05_FixupStands.l1 k y0 y1 y2 y3) (purflinglaw05_FixupStands.l1 (k + 1) y0 y1 y2 y3))
 | 0 => ⟨fun _ _ _ r h => by simp [purflinglaw05_FixupStands.l0] at h, fun _ _ _ _ r h => by simp [purflinglaw05_FixupStands.l1] at h⟩
 | k + 1 => by
  obtain ⟨ih0, ih1⟩ := purflinglaw05_FixupStands.mono_l k
  refine ⟨?_, ?_⟩
  · intro y0 y1 y2
    unfold purflinglaw05_FixupStands.l0
    repeat' first
    | (with_reducible exact ih0 _ _ _)
    | (with_reducible exact ih1 _ _ _ _)
    | (with_reducible exact purflinglaw04_Cut.mono _ _)
    | (with_reducible exact LeO.refl _)
    | (with_reducible exact LeO.none _)
    | (with_reducible refine LeO.ite ?_ ?_)
    | (with_reducible refine LeO.bind ?_ (fun _ => ?_))
    | exact ih0 _ _ _
    | exact ih1 _ _ _ _
    | exact purflinglaw04_Cut.mono _ _
    | exact LeO.none _
    | refine LeO.ite ?_ ?_
    | refine LeO.bind ?_ (fun _ => ?_)
  · intro y0 y1 y2 y3
    unfold purflinglaw05_FixupStands.l1
    repeat' first
    | (with_reducible exact ih0 _ _ _)
    | (with_reducible exact ih1 _ _ _ _)
    | (with_reducible exact purflinglaw04_Cut.mono _ _)
    | (with_reducible exact LeO.refl _)
    | (with_reducible exact LeO.none _)
    | (with_reducible refine LeO.ite ?_ ?_)
    | (with_reducible refine LeO.bind ?_ (fun _ => ?_))
    | exact ih0 _ _ _
    | exact ih1 _ _ _ _
    | exact purflinglaw04_Cut.mono _ _
    | exact LeO.none _
    | refine LeO.ite ?_ ?_
    | refine LeO.bind ?_ (fun _ => ?_)
theorem purflinglaw05_FixupStands.mono : ∀ a0 k, LeO (purflinglaw05_FixupStands.f k a0) (purflinglaw05_FixupStands.f (k + 1) a0) := by
 intro a0 k
 obtain ⟨ih0, ih1⟩ := purflinglaw05_FixupStands.mono_l k
 unfold purflinglaw05_FixupStands.f
 repeat' first
  | (with_reducible exact ih0 _ _ _)
  | (with_reducible exact ih1 _ _ _ _)
  | (with_reducible exact purflinglaw04_Cut.mono _ _)
  | (with_reducible exact LeO.refl _)
  | (with_reducible exact LeO.none _)
  | (with_reducible refine LeO.ite ?_ ?_)
  | (with_reducible refine LeO.bind ?_ (fun _ => ?_))
  | exact ih0 _ _ _
  | exact ih1 _ _ _ _
  | exact purflinglaw04_Cut.mono _ _
  | exact LeO.none _
  | refine LeO.ite ?_ ?_
  | refine LeO.bind ?_ (fun _ => ?_)
def purflinglaw05_FixupStands.T12 : Bool × List (List Nat × List Nat) := (true, [([], []), ([0], [0]), ([1], [1]), ([2], [2]), ([2], [2]), ([4, 2], [2, 4]), ([3, 5, 2], [2, 3, 5]), ([2, 6], [2, 6]), ([7, 2], [7]), ([8], [8]), ([8], [8]), ([9, 10, 8], [8, 9, 10]), ([11, 8], [8, 11]), ([12, 8], [8, 12]), ([8], [8]), ([8], [8]), ([14, 15, 8], [8, 14, 15]), ([16, 8], [8, 16]), ([17, 8], [8, 17]), ([13, 18, 8, 8], [8, 13, 18]), ([19, 8], [8, 19]), ([8, 20], [8, 20])])
def purflinglaw05_FixupStands.B12 : List Nat := [0, 1, 3, 7, 7, 23, 63, 127, 255, 511, 511, 2047, 4095, 8191, 511, 511, 49663, 115199, 246271, 524287, 1048575, 2097151]
theorem purflinglaw05_FixupStands.tab12 : rtab .any (opsOf Try.f4 12) = purflinglaw05_FixupStands.T12 := by kernel_rfl
theorem purflinglaw05_FixupStands.bits12 : waitsOk purflinglaw05_FixupStands.T12.2 purflinglaw05_FixupStands.B12 = true := by kernel_rfl
set_option maxHeartbeats 8000000 in
set_option maxRecDepth 100000 in
theorem purflinglaw05_FixupStands.calls (k : Nat) (A0 : Option Addr) (c0 : Nat) (l0 : List (S43)) (r : Bool) (w : World) (hr0 : Kd.C k43 w A0 l0.length l0) (hc0 : l0.length ≤ c0) (h : purflinglaw05_FixupStands.f k l0 = some r) :
 Calls Try.prog 4 #[.slice A0 l0.length c0] w fun e w' => e = .returned (.bool r) ∧ Below w.heap.size w w' := by
 have HR0 := Aside0.mk hr0
 have HC0 := Aside0.mk hc0
 clear hr0 hc0
 have HB := Aside0.mk (Below.refl w.heap.size w)
 have H : ((purflinglaw05_shown.f).bind fun t260 => ((purflinglaw04_Cut.f k l0).bind fun t261 => ((fixup_Fix.f t261).bind fun bt264 => (if bt264.2 = 0 then (purflinglaw05_FixupStands.l0 k t260 bt264.1 0) else (some t260))))) = some r := h
 clear h
 replace H := Option.bind_eq_some_iff.mp H
 obtain ⟨t260, A20, H⟩ := H
 replace H : ((purflinglaw04_Cut.f k l0).bind fun t261 => ((fixup_Fix.f t261).bind fun bt264 => (if bt264.2 = 0 then (purflinglaw05_FixupStands.l0 k t260 bt264.1 0) else (some t260)))) = some r := H
 have A2 := Aside0.mk A20
 clear A20
 replace H := Option.bind_eq_some_iff.mp H
 obtain ⟨t261, A30, H⟩ := H
 replace H : ((fixup_Fix.f t261).bind fun bt264 => (if bt264.2 = 0 then (purflinglaw05_FixupStands.l0 k t260 bt264.1 0) else (some t260))) = some r := H
 have A3 := Aside0.mk A30
 clear A30
 replace H := Option.bind_eq_some_iff.mp H
 obtain ⟨⟨t264, t267⟩, A40, H⟩ := H
 replace H : (if t267 = 0 then (purflinglaw05_FixupStands.l0 k t260 t264 0) else (some t260)) = some r := H
 have A4 := Aside0.mk A40
 clear A40
 by_cases c5 : t267 = 0
 · rw [if_pos c5] at H
   have c5b0 : (t267 == 0) = true := beq_iff_eq.mpr c5
   have c5b1 : (t267 != 0) = false := bne_eq_false_iff_eq.mpr c5
   clear c5
   have H' := Aside0.mk H
   clear H
   go_enter Try.func4, Try.ntmps4
   go_wp2_with (first | ((with_reducible refine gate_callee (f := 10) rfl ?_); refine goesL_ (some 9) rfl rfl Try.func10 (by kernel_rfl) rfl #[] rfl (by (try simp only [List.map_toArray, List.map_cons, List.map_nil]); first | done | rfl | (simp only [List.length_drop, List.length_take]; rfl)) ?_; (with_reducible refine (purflinglaw05_shown.calls  t260 _ A2.out).mono ?_); rintro e w6 ⟨rfl, hb⟩; refine ⟨_, rfl, ?_⟩; have n0_ := Aside0.mk (below_step (by repeat (first | (with_reducible first | exact HB.out | apply below_alloc | apply pw_below_drewN | apply below_drew1) | exact HB.out)) hb); clear HB; have HB := n0_; clear n0_; (try clear hb); (try clear hb2); (try clear hk); (try clear hi)) | ((with_reducible refine gate_callee (f := 16) rfl ?_); refine goesL_ (some 12) rfl rfl Try.func16 (by kernel_rfl) rfl #[.slice A0 l0.length c0] rfl (by (try simp only [List.map_toArray, List.map_cons, List.map_nil]); first | done | rfl | (simp only [List.length_drop, List.length_take]; rfl)) ?_; (with_reducible refine (purflinglaw04_Cut.calls k (fun k_ => k_ < w.heap.size) _ _ l0 t261 _ ?side1 A3.out).mono ?_); (case side1 => exact Kd.V_mk HC0.out (Kd.F_below (Kd.C_F k43_heap HR0.out) (by repeat (first | (with_reducible first | exact HB.out | apply below_alloc | apply pw_below_drewN | apply below_drew1) | exact HB.out)))); rintro e w7 ⟨v262, rfl, ho0, hb⟩; refine ⟨_, rfl, ?_⟩; have n0_ := Aside0.mk (Kd.N_lower (Kd.N_mono (ok' := fun k_ => True) ho0 (fun k_ hk_ => trivial)) (below_size (by repeat (first | (with_reducible first | exact HB.out | apply below_alloc | apply pw_below_drewN | apply below_drew1) | exact HB.out)))); have n1_ := Aside0.mk (below_step (by repeat (first | (with_reducible first | exact HB.out | apply below_alloc | apply pw_below_drewN | apply below_drew1) | exact HB.out)) hb); clear HB; have HO263 := n0_; have HB := n1_; clear n0_ n1_; (try clear hb); (try clear hb2); (try clear hk); (try clear hi); (try clear ho0); obtain ⟨Ao8, co8, eo8⟩ := Kd.N_slice HO263.out; subst eo8) | ((with_reducible refine gate_callee (f := 15) rfl ?_); refine goesL_ (some 13) rfl rfl Try.func15 (by kernel_rfl) rfl #[.slice Ao8 t261.length co8] rfl (by (try simp only [List.map_toArray, List.map_cons, List.map_nil]); first | done | rfl | (simp only [List.length_drop, List.length_take]; rfl)) ?_; (with_reducible refine (fixup_Fix.calls _ _ t261 t264 t267 _ ?side1 ?side2 A4.out).mono ?_); (case side1 => repeat (first | exact (Kd.N_reads' HO263.out).2.2 | (with_reducible refine Kd.C_alloc ?_ _) | (with_reducible refine Kd.C_drewN ?_ _) | (with_reducible refine Kd.C_drew ?_))); (case side2 => exact (Kd.N_reads' HO263.out).2.1); rintro e w9 ⟨v265, rfl, ho0, hb⟩; refine ⟨_, rfl, ?_⟩; have n0_ := Aside0.mk (Kd.N_below (by (with_reducible repeat (first | apply Kd.N_alloc | apply Kd.N_drewN | apply Kd.N_drew)); exact HO263.out) hb); have n1_ := Aside0.mk (Kd.V_lower (Kd.V_mono (ok' := fun k_ => some k_ ≠ (.slice Ao8 t261.length co8 : Value).ownBlock) ho0 (fun k_ hk_ => (Kd.fresh' (Kd.N_lt (by (with_reducible repeat (first | apply Kd.N_alloc | apply Kd.N_drewN | apply Kd.N_drew)); exact HO263.out)) k_ hk_))) (below_size (by repeat (first | (with_reducible first | exact HB.out | apply below_alloc | apply pw_below_drewN | apply below_drew1) | exact HB.out)))); have n2_ := Aside0.mk (below_step (by repeat (first | (with_reducible first | exact HB.out | apply below_alloc | apply pw_below_drewN | apply below_drew1) | exact HB.out)) hb); clear HO263; clear HB; have HO263 := n0_; have HO266 := n1_; have HB := n2_; clear n0_ n1_ n2_; (try clear hb); (try clear hb2); (try clear hk); (try clear hi); (try clear ho0)))
   go_loopg [6] k (fun kq v6 w' => ∃ (x6_1 : Int), v6 = .int .i64 x6_1 ∧ Aside0 (purflinglaw05_FixupStands.l0 kq t260 t264 x6_1 = some r) ∧ Aside0 (kq ≤ k) ∧ Aside0 (Kd.V k43 43 w' w.heap.size (fun _ => True) v265 t264) ∧ Aside0 (Below w.heap.size w w'))
   case atStart => exact ⟨(0), (by first | rfl | (simp; done) | (simp [*]; done)), H', ⟨Nat.le_refl _⟩, ⟨by (with_reducible repeat (first | apply Kd.V_alloc | apply Kd.V_drewN | apply Kd.V_drew)); exact Kd.V_mono HO266.out (fun _ hk => trivial)⟩, ⟨by repeat (first | (with_reducible first | exact HB.out | apply below_alloc | apply pw_below_drewN | apply below_drew1) | exact HB.out)⟩⟩
   case round =>
    clear H'
    try clear c1
    try clear p2
    try clear c4
    try clear c5
    try clear c5b0
    try clear c5b1
    obtain ⟨x6_1, rfl, HA, HK1, HO_4, HB⟩ := hrel
    cases gk with
    | zero => exact absurd HA.out (by simp [purflinglaw05_FixupStands.l0])
    | succ k1 =>
     have H := HA.out
     clear HA
     simp only [purflinglaw05_FixupStands.l0] at H
     by_cases c10 : x6_1 < (t264.length : Int)
     · rw [if_pos c10] at H
       have c10b0 : decide (x6_1 < (t264.length : Int)) = true := decide_eq_true c10
       clear c10
       have H' := Aside0.mk H
       clear H
       obtain ⟨Ao11, co11, eo11⟩ := Kd.V_slice HO_4.out
       subst eo11
       go_wp2
       go_loopg [7] k1 (fun kq v7 w' => ∃ (x7_2 : Int), v7 = .int .i64 x7_2 ∧ Aside0 (purflinglaw05_FixupStands.l1 kq t260 t264 x6_1 x7_2 = some r) ∧ Aside0 (kq ≤ k1) ∧ Aside0 (Kd.V k43 43 w' w.heap.size (fun _ => True) (.slice Ao11 t264.length co11) t264) ∧ Aside0 (Below w.heap.size w w'))
       case atStart => exact ⟨(0), (by first | rfl | (simp; done) | (simp [*]; done)), H', ⟨Nat.le_refl _⟩, ⟨by (with_reducible repeat (first | apply Kd.V_alloc | apply Kd.V_drewN | apply Kd.V_drew)); exact HO_4.out⟩, ⟨by repeat (first | (with_reducible first | exact HB.out | apply below_alloc | apply pw_below_drewN | apply below_drew1) | exact HB.out)⟩⟩
       case round =>
        clear H'
        try clear c1
        try clear p2
        try clear c4
        try clear c5
        try clear c5b0
        try clear c5b1
        try clear c10
        try clear c10b0
        try clear p2
        obtain ⟨x7_2, rfl, HA, HK2, HO_4, HB⟩ := hrel
        cases gk with
        | zero => exact absurd HA.out (by simp [purflinglaw05_FixupStands.l1])
        | succ k2 =>
         have H := HA.out
         clear HA
         simp only [purflinglaw05_FixupStands.l1] at H
         by_cases c12 : 0 ≤ x6_1
         · rw [if_pos c12] at H
           have c12b0 : decide (0 ≤ x6_1) = true := decide_eq_true c12
           clear c12
           by_cases c13 : x6_1 < (t264.length : Int)
           · rw [if_pos c13] at H
             have c13b0 : decide (x6_1 < (t264.length : Int)) = true := decide_eq_true c13
             clear c13
             by_cases c14 : x7_2 < (((rd_T43 t264 x6_1).f1).length : Int)
             · rw [if_pos c14] at H
               have c14b0 : decide (x7_2 < (((rd_T43 t264 x6_1).f1).length : Int)) = true := decide_eq_true c14
               clear c14
               by_cases c15 : 0 ≤ x7_2
               · rw [if_pos c15] at H
                 have c15b0 : decide (0 ≤ x7_2) = true := decide_eq_true c15
                 clear c15
                 by_cases c16 : (rd ((rd_T43 t264 x6_1).f1) x7_2) < 0
                 · rw [if_pos c16] at H
                   have c16b0 : decide ((rd ((rd_T43 t264 x6_1).f1) x7_2) < 0) = true := decide_eq_true c16
                   clear c16
                   obtain rfl := Option.some.inj H
                   have p268 : 0 ≤ (x6_1 : Int) := of_decide_eq_true (by first | (with_reducible assumption) | assumption)
                   have q268 : x6_1 < (t264.length : Int) := of_decide_eq_true (by first | (with_reducible assumption) | assumption)
                   obtain ⟨ad268, A268_1, c268_1, A268_31, c268_31, e268, hx268_0, hx268_1, hx268_2, hx268_3, hx268_4, hx268_5, hx268_6, hx268_7, hx268_8, hx268_9, hx268_10, hx268_11, hx268_12, hx268_13, hx268_14, hx268_15, hx268_16, hx268_17, hx268_18, hx268_19, hx268_20, hx268_21, hx268_22, hx268_23, hx268_24, hx268_25, hx268_26, hx268_27, hx268_28, hx268_29, hx268_30, hx268_31, hx268_32, hx268_33, hl268_1, hi268_1, hl268_31, hi268_31⟩ := at_T43 (Kd.V_reads' HO_4.out).2.2 x6_1 p268 q268
                   cases e268
                   obtain ⟨ce268, hce268, hMe268, hcc268⟩ := Kd.V_get HO_4.out z43 x6_1 p268 (by first | exact q268 | exact of_decide_eq_true (by first | (with_reducible assumption) | assumption) | (have e_ := (Kd.V_reads' HO_4.out).1; omega))
                   obtain ⟨ua268_1, uc268_1, ua268_31, uc268_31, rfl, ul268_1, ge268_1, ul268_31, ge268_31⟩ := k43_openF hMe268
                   have hv268_1 := hcc268 1 _ rfl
                   rw [add_field _ _ 1 (by omega)] at hv268_1
                   replace hv268_1 := Option.some.inj (hv268_1.symm.trans hx268_1)
                   injection hv268_1 with hva_ hvn_ hvc_
                   rw [hva_] at ge268_1
                   rw [hvc_] at ul268_1
                   have HL268_1 := Aside0.mk (show Kd.V (Kd.int .i64) 3 _ w.heap.size _ _ ((rd_T43 t264 x6_1).f1) from Kd.V_mk ul268_1 ge268_1)
                   clear hva_ hvn_ hvc_ ge268_1 ul268_1
                   have hv268_31 := hcc268 31 _ rfl
                   rw [add_field _ _ 31 (by omega)] at hv268_31
                   replace hv268_31 := Option.some.inj (hv268_31.symm.trans hx268_31)
                   injection hv268_31 with hva_ hvn_ hvc_
                   rw [hva_] at ge268_31
                   rw [hvc_] at ul268_31
                   have HL268_31 := Aside0.mk (show Kd.V (Kd.int .i64) 2 _ w.heap.size _ _ ((rd_T43 t264 x6_1).f3) from Kd.V_mk ul268_31 ge268_31)
                   clear hva_ hvn_ hvc_ ge268_31 ul268_31
                   clear hcc268 hce268
                   have HR268_1 := Aside0.mk hi268_1
                   have HC268_1 := Aside0.mk hl268_1
                   clear hi268_1 hl268_1
                   have HR268_31 := Aside0.mk hi268_31
                   have HC268_31 := Aside0.mk hl268_31
                   clear hi268_31 hl268_31
                   replace p268 := eq_true p268
                   replace q268 := eq_true q268
                   have p269 : 0 ≤ (x6_1 : Int) := of_decide_eq_true (by first | (with_reducible assumption) | assumption)
                   have q269 : x6_1 < (t264.length : Int) := of_decide_eq_true (by first | (with_reducible assumption) | assumption)
                   obtain ⟨ad269, A269_1, c269_1, A269_31, c269_31, e269, hx269_0, hx269_1, hx269_2, hx269_3, hx269_4, hx269_5, hx269_6, hx269_7, hx269_8, hx269_9, hx269_10, hx269_11, hx269_12, hx269_13, hx269_14, hx269_15, hx269_16, hx269_17, hx269_18, hx269_19, hx269_20, hx269_21, hx269_22, hx269_23, hx269_24, hx269_25, hx269_26, hx269_27, hx269_28, hx269_29, hx269_30, hx269_31, hx269_32, hx269_33, hl269_1, hi269_1, hl269_31, hi269_31⟩ := at_T43 (Kd.V_reads' HO_4.out).2.2 x6_1 p269 q269
                   obtain rfl : ad268 = ad269 := (by injection e269)
                   obtain ⟨ce269, hce269, hMe269, hcc269⟩ := Kd.V_get HO_4.out z43 x6_1 p269 (by first | exact q269 | exact of_decide_eq_true (by first | (with_reducible assumption) | assumption) | (have e_ := (Kd.V_reads' HO_4.out).1; omega))
                   obtain ⟨ua269_1, uc269_1, ua269_31, uc269_31, rfl, ul269_1, ge269_1, ul269_31, ge269_31⟩ := k43_openF hMe269
                   have hv269_1 := hcc269 1 _ rfl
                   rw [add_field _ _ 1 (by omega)] at hv269_1
                   replace hv269_1 := Option.some.inj (hv269_1.symm.trans hx269_1)
                   injection hv269_1 with hva_ hvn_ hvc_
                   rw [hva_] at ge269_1
                   rw [hvc_] at ul269_1
                   have HL269_1 := Aside0.mk (show Kd.V (Kd.int .i64) 3 _ w.heap.size _ _ ((rd_T43 t264 x6_1).f1) from Kd.V_mk ul269_1 ge269_1)
                   clear hva_ hvn_ hvc_ ge269_1 ul269_1
                   have hv269_31 := hcc269 31 _ rfl
                   rw [add_field _ _ 31 (by omega)] at hv269_31
                   replace hv269_31 := Option.some.inj (hv269_31.symm.trans hx269_31)
                   injection hv269_31 with hva_ hvn_ hvc_
                   rw [hva_] at ge269_31
                   rw [hvc_] at ul269_31
                   have HL269_31 := Aside0.mk (show Kd.V (Kd.int .i64) 2 _ w.heap.size _ _ ((rd_T43 t264 x6_1).f3) from Kd.V_mk ul269_31 ge269_31)
                   clear hva_ hvn_ hvc_ ge269_31 ul269_31
                   clear hcc269 hce269
                   have HR269_1 := Aside0.mk hi269_1
                   have HC269_1 := Aside0.mk hl269_1
                   clear hi269_1 hl269_1
                   have HR269_31 := Aside0.mk hi269_31
                   have HC269_31 := Aside0.mk hl269_31
                   clear hi269_31 hl269_31
                   replace p269 := eq_true p269
                   replace q269 := eq_true q269
                   have ea_ := Option.some.inj (hx268_1.symm.trans hx269_1)
                   injection ea_ with ea_ en_ ec_
                   subst ea_
                   subst ec_
                   clear en_
                   have ea_ := Option.some.inj (hx268_31.symm.trans hx269_31)
                   injection ea_ with ea_ en_ ec_
                   subst ea_
                   subst ec_
                   clear en_
                   have p270 : 0 ≤ (x7_2 : Int) := of_decide_eq_true (by first | (with_reducible assumption) | assumption)
                   have q270 : x7_2 < (((rd_T43 t264 x6_1).f1).length : Int) := of_decide_eq_true (by first | (with_reducible assumption) | assumption)
                   obtain ⟨ad270, e270, hx270_0⟩ := Kd.at_int (by repeat (first | (with_reducible exact HR269_1.out) | (with_reducible refine Kd.C_alloc ?_ _) | (with_reducible refine Kd.C_drewN ?_ _) | (with_reducible refine Kd.C_drew ?_) | exact HR269_1.out)) x7_2 p270 q270
                   cases e270
                   replace p270 := eq_true p270
                   replace q270 := eq_true q270
                   try go_wp2
                   have n0_ := Aside0.mk (Kd.V_drew HO_4.out)
                   have n1_ := Aside0.mk (Kd.V_drew HL268_1.out)
                   have n2_ := Aside0.mk (Kd.V_drew HL268_31.out)
                   have n3_ := Aside0.mk (Kd.V_drew HL269_1.out)
                   have n4_ := Aside0.mk (Kd.V_drew HL269_31.out)
                   have n5_ := Aside0.mk (Kd.C_drew HR268_1.out)
                   have n6_ := Aside0.mk (Kd.C_drew HR268_31.out)
                   have n7_ := Aside0.mk (Kd.C_drew HR269_1.out)
                   have n8_ := Aside0.mk (Kd.C_drew HR269_31.out)
                   have n9_ := Aside0.mk (below_drew1 HB.out)
                   clear HO_4
                   clear HL268_1
                   clear HL268_31
                   clear HL269_1
                   clear HL269_31
                   clear HR268_1
                   clear HR268_31
                   clear HR269_1
                   clear HR269_31
                   clear HB
                   have HO_4 := n0_
                   have HL268_1 := n1_
                   have HL268_31 := n2_
                   have HL269_1 := n3_
                   have HL269_31 := n4_
                   have HR268_1 := n5_
                   have HR268_31 := n6_
                   have HR269_1 := n7_
                   have HR269_31 := n8_
                   have HB := n9_
                   clear n0_ n1_ n2_ n3_ n4_ n5_ n6_ n7_ n8_ n9_
                   refine start_ (n := 22) (S := fun w' => True) (ds := []) #[false, false, false, false, false, false, false, false, false, false, false, false, false, false, false, false, false, false, false, false, false, false] (by kernel_rfl) rfl rfl trivial (fun hHeld => ?_); refine with_tabW purflinglaw05_FixupStands.tab12 purflinglaw05_FixupStands.bits12 (fun HT_ HW_ => ?_)
                   generalize wr.drew = w17 at HO_4 HL268_1 HL268_31 HL269_1 HL269_31 HR268_1 HR268_31 HR269_1 HR269_31 HB hHeld ⊢
                   refine pure_ (i := 0) (N := some 43) (v := ?_) (a' := ?_) #[true, false, false, false, false, false, false, false, false, false, false, false, false, false, false, false, false, false, false, false, false, false] rfl rfl (any_of HT_.out (by kernel_rfl)) (fun _ _ _ h => h) (Or.inl ⟨by rfl, ?_⟩) ?_ ?_
                   rotate_left
                   · intro w'
                     go_simp
                     with_reducible rfl
                   rotate_left
                   · simp only [Act.put, List.setIfInBounds_toArray, List.set_cons_zero, List.set_cons_succ, i64_w, i32_w]
                     rfl
                   refine pure_ (i := 1) (N := some 44) (v := ?_) (a' := ?_) #[true, true, false, false, false, false, false, false, false, false, false, false, false, false, false, false, false, false, false, false, false, false] rfl rfl (any_of HT_.out (by kernel_rfl)) (fun _ _ _ h => h) (Or.inl ⟨by rfl, ?_⟩) ?_ ?_
                   rotate_left
                   · intro w'
                     go_simp
                     with_reducible rfl
                   rotate_left
                   · simp only [Act.put, List.setIfInBounds_toArray, List.set_cons_zero, List.set_cons_succ, i64_w, i32_w]
                     rfl
                   refine pure_ (i := 2) (N := some 45) (v := ?_) (a' := ?_) #[true, true, true, false, false, false, false, false, false, false, false, false, false, false, false, false, false, false, false, false, false, false] rfl rfl (any_of HT_.out (by kernel_rfl)) (fun _ _ _ h => h) (Or.inl ⟨by rfl, ?_⟩) ?_ ?_
                   rotate_left
                   · intro w'
                     go_simp
                     with_reducible rfl
                   rotate_left
                   · simp only [Act.put, List.setIfInBounds_toArray, List.set_cons_zero, List.set_cons_succ, i64_w, i32_w]
                     rfl
                   refine pure_ (i := 3) (N := some 46) (v := undef) (a' := ?_) #[true, true, true, true, false, false, false, false, false, false, false, false, false, false, false, false, false, false, false, false, false, false] rfl rfl (any_of HT_.out (by kernel_rfl)) (fun _ _ _ h => h) (Or.inr ⟨by rfl, rfl⟩) ?_ ?_
                   rotate_left
                   · simp only [Act.put, List.setIfInBounds_toArray, List.set_cons_zero, List.set_cons_succ, i64_w, i32_w]
                     rfl
                   refine pure_ (i := 4) (N := some 47) (v := undef) (a' := ?_) #[true, true, true, true, true, false, false, false, false, false, false, false, false, false, false, false, false, false, false, false, false, false] rfl rfl (any_of HT_.out (by kernel_rfl)) (fun _ _ _ h => h) (Or.inr ⟨by rfl, rfl⟩) ?_ ?_
                   rotate_left
                   · simp only [Act.put, List.setIfInBounds_toArray, List.set_cons_zero, List.set_cons_succ, i64_w, i32_w]
                     rfl
                   refine pure_ (i := 5) (N := some 48) (v := undef) (a' := ?_) #[true, true, true, true, true, true, false, false, false, false, false, false, false, false, false, false, false, false, false, false, false, false] rfl rfl (any_of HT_.out (by kernel_rfl)) (fun _ _ _ h => h) (Or.inr ⟨by rfl, rfl⟩) ?_ ?_
                   rotate_left
                   · simp only [Act.put, List.setIfInBounds_toArray, List.set_cons_zero, List.set_cons_succ, i64_w, i32_w]
                     rfl
                   refine pure_ (i := 6) (N := some 49) (v := undef) (a' := ?_) #[true, true, true, true, true, true, true, false, false, false, false, false, false, false, false, false, false, false, false, false, false, false] rfl rfl (any_of HT_.out (by kernel_rfl)) (fun _ _ _ h => h) (Or.inr ⟨by rfl, rfl⟩) ?_ ?_
                   rotate_left
                   · simp only [Act.put, List.setIfInBounds_toArray, List.set_cons_zero, List.set_cons_succ, i64_w, i32_w]
                     rfl
                   refine pure_ (i := 7) (N := some 50) (v := ?_) (a' := ?_) #[true, true, true, true, true, true, true, true, false, false, false, false, false, false, false, false, false, false, false, false, false, false] rfl rfl (any_of HT_.out (by kernel_rfl)) (fun _ _ _ h => h) (Or.inl ⟨by rfl, ?_⟩) ?_ ?_
                   rotate_left
                   · intro w'
                     go_simp
                     with_reducible rfl
                   rotate_left
                   · simp only [Act.put, List.setIfInBounds_toArray, List.set_cons_zero, List.set_cons_succ, i64_w, i32_w]
                     rfl
                   refine pure_ (i := 8) (N := some 51) (v := ?_) (a' := ?_) #[true, true, true, true, true, true, true, true, true, false, false, false, false, false, false, false, false, false, false, false, false, false] rfl rfl (any_of HT_.out (by kernel_rfl)) (fun _ _ _ h => h) (Or.inl ⟨by rfl, ?_⟩) ?_ ?_
                   rotate_left
                   · intro w'
                     go_simp
                     with_reducible rfl
                   rotate_left
                   · simp only [Act.put, List.setIfInBounds_toArray, List.set_cons_zero, List.set_cons_succ, i64_w, i32_w]
                     rfl
                   refine pure_ (i := 9) (N := some 52) (v := undef) (a' := ?_) #[true, true, true, true, true, true, true, true, true, true, false, false, false, false, false, false, false, false, false, false, false, false] rfl rfl (any_of HT_.out (by kernel_rfl)) (fun _ _ _ h => h) (Or.inr ⟨by rfl, rfl⟩) ?_ ?_
                   rotate_left
                   · simp only [Act.put, List.setIfInBounds_toArray, List.set_cons_zero, List.set_cons_succ, i64_w, i32_w]
                     rfl
                   refine pure_ (i := 10) (N := some 53) (v := undef) (a' := ?_) #[true, true, true, true, true, true, true, true, true, true, true, false, false, false, false, false, false, false, false, false, false, false] rfl rfl (any_of HT_.out (by kernel_rfl)) (fun _ _ _ h => h) (Or.inr ⟨by rfl, rfl⟩) ?_ ?_
                   rotate_left
                   · simp only [Act.put, List.setIfInBounds_toArray, List.set_cons_zero, List.set_cons_succ, i64_w, i32_w]
                     rfl
                   refine pure_ (i := 11) (N := some 54) (v := undef) (a' := ?_) #[true, true, true, true, true, true, true, true, true, true, true, true, false, false, false, false, false, false, false, false, false, false] rfl rfl (any_of HT_.out (by kernel_rfl)) (fun _ _ _ h => h) (Or.inr ⟨by rfl, rfl⟩) ?_ ?_
                   rotate_left
                   · simp only [Act.put, List.setIfInBounds_toArray, List.set_cons_zero, List.set_cons_succ, i64_w, i32_w]
                     rfl
                   refine pure_ (i := 12) (N := some 55) (v := undef) (a' := ?_) #[true, true, true, true, true, true, true, true, true, true, true, true, true, false, false, false, false, false, false, false, false, false] rfl rfl (any_of HT_.out (by kernel_rfl)) (fun _ _ _ h => h) (Or.inr ⟨by rfl, rfl⟩) ?_ ?_
                   rotate_left
                   · simp only [Act.put, List.setIfInBounds_toArray, List.set_cons_zero, List.set_cons_succ, i64_w, i32_w]
                     rfl
                   refine pure_ (i := 13) (N := some 56) (v := undef) (a' := ?_) #[true, true, true, true, true, true, true, true, true, true, true, true, true, true, false, false, false, false, false, false, false, false] rfl rfl (any_of HT_.out (by kernel_rfl)) (fun _ _ _ h => h) (Or.inr ⟨by rfl, rfl⟩) ?_ ?_
                   rotate_left
                   · simp only [Act.put, List.setIfInBounds_toArray, List.set_cons_zero, List.set_cons_succ, i64_w, i32_w]
                     rfl
                   refine pure_ (i := 14) (N := some 57) (v := undef) (a' := ?_) #[true, true, true, true, true, true, true, true, true, true, true, true, true, true, true, false, false, false, false, false, false, false] rfl rfl (any_of HT_.out (by kernel_rfl)) (fun _ _ _ h => h) (Or.inr ⟨by rfl, rfl⟩) ?_ ?_
                   rotate_left
                   · simp only [Act.put, List.setIfInBounds_toArray, List.set_cons_zero, List.set_cons_succ, i64_w, i32_w]
                     rfl
                   refine pure_ (i := 15) (N := some 58) (v := undef) (a' := ?_) #[true, true, true, true, true, true, true, true, true, true, true, true, true, true, true, true, false, false, false, false, false, false] rfl rfl (any_of HT_.out (by kernel_rfl)) (fun _ _ _ h => h) (Or.inr ⟨by rfl, rfl⟩) ?_ ?_
                   rotate_left
                   · simp only [Act.put, List.setIfInBounds_toArray, List.set_cons_zero, List.set_cons_succ, i64_w, i32_w]
                     rfl
                   refine pure_ (i := 16) (N := some 59) (v := undef) (a' := ?_) #[true, true, true, true, true, true, true, true, true, true, true, true, true, true, true, true, true, false, false, false, false, false] rfl rfl (any_of HT_.out (by kernel_rfl)) (fun _ _ _ h => h) (Or.inr ⟨by rfl, rfl⟩) ?_ ?_
                   rotate_left
                   · simp only [Act.put, List.setIfInBounds_toArray, List.set_cons_zero, List.set_cons_succ, i64_w, i32_w]
                     rfl
                   refine pure_ (i := 17) (N := some 60) (v := undef) (a' := ?_) #[true, true, true, true, true, true, true, true, true, true, true, true, true, true, true, true, true, true, false, false, false, false] rfl rfl (any_of HT_.out (by kernel_rfl)) (fun _ _ _ h => h) (Or.inr ⟨by rfl, rfl⟩) ?_ ?_
                   rotate_left
                   · simp only [Act.put, List.setIfInBounds_toArray, List.set_cons_zero, List.set_cons_succ, i64_w, i32_w]
                     rfl
                   refine pure_ (i := 18) (N := some 61) (v := undef) (a' := ?_) #[true, true, true, true, true, true, true, true, true, true, true, true, true, true, true, true, true, true, true, false, false, false] rfl rfl (any_of HT_.out (by kernel_rfl)) (fun _ _ _ h => h) (Or.inr ⟨by rfl, rfl⟩) ?_ ?_
                   rotate_left
                   · simp only [Act.put, List.setIfInBounds_toArray, List.set_cons_zero, List.set_cons_succ, i64_w, i32_w]
                     rfl
                   refine pure_ (i := 19) (N := some 62) (v := undef) (a' := ?_) #[true, true, true, true, true, true, true, true, true, true, true, true, true, true, true, true, true, true, true, true, false, false] rfl rfl (any_of HT_.out (by kernel_rfl)) (fun _ _ _ h => h) (Or.inr ⟨by rfl, rfl⟩) ?_ ?_
                   rotate_left
                   · simp only [Act.put, List.setIfInBounds_toArray, List.set_cons_zero, List.set_cons_succ, i64_w, i32_w]
                     rfl
                   refine pure_ (i := 20) (N := some 63) (v := undef) (a' := ?_) #[true, true, true, true, true, true, true, true, true, true, true, true, true, true, true, true, true, true, true, true, true, false] rfl rfl (any_of HT_.out (by kernel_rfl)) (fun _ _ _ h => h) (Or.inr ⟨by rfl, rfl⟩) ?_ ?_
                   rotate_left
                   · simp only [Act.put, List.setIfInBounds_toArray, List.set_cons_zero, List.set_cons_succ, i64_w, i32_w]
                     rfl
                   refine pure_ (i := 21) (N := some 64) (v := ?_) (a' := ?_) #[true, true, true, true, true, true, true, true, true, true, true, true, true, true, true, true, true, true, true, true, true, true] rfl rfl (any_of HT_.out (by kernel_rfl)) (fun _ _ _ h => h) (Or.inl ⟨by rfl, ?_⟩) ?_ ?_
                   rotate_left
                   · intro w'
                     go_simp
                     with_reducible rfl
                   rotate_left
                   · simp only [Act.put, List.setIfInBounds_toArray, List.set_cons_zero, List.set_cons_succ, i64_w, i32_w]
                     rfl
                   refine done_ (done_of HT_.out (by kernel_rfl)) ?_
                   try go_wp2
                   go_ret
                   exact ⟨by first | rfl | (simp [errW_none, errW_some] <;> rfl) | (simp [*, errW_none, errW_some] <;> rfl), by repeat (first | (with_reducible first | exact HB.out | apply below_alloc | apply pw_below_drewN | apply below_drew1) | exact HB.out)⟩
                 · rw [if_neg c16] at H
                   have c16b0 : decide ((rd ((rd_T43 t264 x6_1).f1) x7_2) < 0) = false := decide_eq_false c16
                   clear c16
                   by_cases c18 : (rd ((rd_T43 t264 x6_1).f1) x7_2) ≥ (t264.length : Int)
                   · rw [if_pos c18] at H
                     have c18b0 : decide ((t264.length : Int) ≤ (rd ((rd_T43 t264 x6_1).f1) x7_2)) = true := decide_eq_true c18
                     clear c18
                     obtain rfl := Option.some.inj H
                     have p268 : 0 ≤ (x6_1 : Int) := of_decide_eq_true (by first | (with_reducible assumption) | assumption)
                     have q268 : x6_1 < (t264.length : Int) := of_decide_eq_true (by first | (with_reducible assumption) | assumption)
                     obtain ⟨ad268, A268_1, c268_1, A268_31, c268_31, e268, hx268_0, hx268_1, hx268_2, hx268_3, hx268_4, hx268_5, hx268_6, hx268_7, hx268_8, hx268_9, hx268_10, hx268_11, hx268_12, hx268_13, hx268_14, hx268_15, hx268_16, hx268_17, hx268_18, hx268_19, hx268_20, hx268_21, hx268_22, hx268_23, hx268_24, hx268_25, hx268_26, hx268_27, hx268_28, hx268_29, hx268_30, hx268_31, hx268_32, hx268_33, hl268_1, hi268_1, hl268_31, hi268_31⟩ := at_T43 (Kd.V_reads' HO_4.out).2.2 x6_1 p268 q268
                     cases e268
                     obtain ⟨ce268, hce268, hMe268, hcc268⟩ := Kd.V_get HO_4.out z43 x6_1 p268 (by first | exact q268 | exact of_decide_eq_true (by first | (with_reducible assumption) | assumption) | (have e_ := (Kd.V_reads' HO_4.out).1; omega))
                     obtain ⟨ua268_1, uc268_1, ua268_31, uc268_31, rfl, ul268_1, ge268_1, ul268_31, ge268_31⟩ := k43_openF hMe268
                     have hv268_1 := hcc268 1 _ rfl
                     rw [add_field _ _ 1 (by omega)] at hv268_1
                     replace hv268_1 := Option.some.inj (hv268_1.symm.trans hx268_1)
                     injection hv268_1 with hva_ hvn_ hvc_
                     rw [hva_] at ge268_1
                     rw [hvc_] at ul268_1
                     have HL268_1 := Aside0.mk (show Kd.V (Kd.int .i64) 3 _ w.heap.size _ _ ((rd_T43 t264 x6_1).f1) from Kd.V_mk ul268_1 ge268_1)
                     clear hva_ hvn_ hvc_ ge268_1 ul268_1
                     have hv268_31 := hcc268 31 _ rfl
                     rw [add_field _ _ 31 (by omega)] at hv268_31
                     replace hv268_31 := Option.some.inj (hv268_31.symm.trans hx268_31)
                     injection hv268_31 with hva_ hvn_ hvc_
                     rw [hva_] at ge268_31
                     rw [hvc_] at ul268_31
                     have HL268_31 := Aside0.mk (show Kd.V (Kd.int .i64) 2 _ w.heap.size _ _ ((rd_T43 t264 x6_1).f3) from Kd.V_mk ul268_31 ge268_31)
                     clear hva_ hvn_ hvc_ ge268_31 ul268_31
                     clear hcc268 hce268
                     have HR268_1 := Aside0.mk hi268_1
                     have HC268_1 := Aside0.mk hl268_1
                     clear hi268_1 hl268_1
                     have HR268_31 := Aside0.mk hi268_31
                     have HC268_31 := Aside0.mk hl268_31
                     clear hi268_31 hl268_31
                     replace p268 := eq_true p268
                     replace q268 := eq_true q268
                     have p269 : 0 ≤ (x6_1 : Int) := of_decide_eq_true (by first | (with_reducible assumption) | assumption)
                     have q269 : x6_1 < (t264.length : Int) := of_decide_eq_true (by first | (with_reducible assumption) | assumption)
                     obtain ⟨ad269, A269_1, c269_1, A269_31, c269_31, e269, hx269_0, hx269_1, hx269_2, hx269_3, hx269_4, hx269_5, hx269_6, hx269_7, hx269_8, hx269_9, hx269_10, hx269_11, hx269_12, hx269_13, hx269_14, hx269_15, hx269_16, hx269_17, hx269_18, hx269_19, hx269_20, hx269_21, hx269_22, hx269_23, hx269_24, hx269_25, hx269_26, hx269_27, hx269_28, hx269_29, hx269_30, hx269_31, hx269_32, hx269_33, hl269_1, hi269_1, hl269_31, hi269_31⟩ := at_T43 (Kd.V_reads' HO_4.out).2.2 x6_1 p269 q269
                     obtain rfl : ad268 = ad269 := (by injection e269)
                     obtain ⟨ce269, hce269, hMe269, hcc269⟩ := Kd.V_get HO_4.out z43 x6_1 p269 (by first | exact q269 | exact of_decide_eq_true (by first | (with_reducible assumption) | assumption) | (have e_ := (Kd.V_reads' HO_4.out).1; omega))
                     obtain ⟨ua269_1, uc269_1, ua269_31, uc269_31, rfl, ul269_1, ge269_1, ul269_31, ge269_31⟩ := k43_openF hMe269
                     have hv269_1 := hcc269 1 _ rfl
                     rw [add_field _ _ 1 (by omega)] at hv269_1
                     replace hv269_1 := Option.some.inj (hv269_1.symm.trans hx269_1)
                     injection hv269_1 with hva_ hvn_ hvc_
                     rw [hva_] at ge269_1
                     rw [hvc_] at ul269_1
                     have HL269_1 := Aside0.mk (show Kd.V (Kd.int .i64) 3 _ w.heap.size _ _ ((rd_T43 t264 x6_1).f1) from Kd.V_mk ul269_1 ge269_1)
                     clear hva_ hvn_ hvc_ ge269_1 ul269_1
                     have hv269_31 := hcc269 31 _ rfl
                     rw [add_field _ _ 31 (by omega)] at hv269_31
                     replace hv269_31 := Option.some.inj (hv269_31.symm.trans hx269_31)
                     injection hv269_31 with hva_ hvn_ hvc_
                     rw [hva_] at ge269_31
                     rw [hvc_] at ul269_31
                     have HL269_31 := Aside0.mk (show Kd.V (Kd.int .i64) 2 _ w.heap.size _ _ ((rd_T43 t264 x6_1).f3) from Kd.V_mk ul269_31 ge269_31)
                     clear hva_ hvn_ hvc_ ge269_31 ul269_31
                     clear hcc269 hce269
                     have HR269_1 := Aside0.mk hi269_1
                     have HC269_1 := Aside0.mk hl269_1
                     clear hi269_1 hl269_1
                     have HR269_31 := Aside0.mk hi269_31
                     have HC269_31 := Aside0.mk hl269_31
                     clear hi269_31 hl269_31
                     replace p269 := eq_true p269
                     replace q269 := eq_true q269
                     have ea_ := Option.some.inj (hx268_1.symm.trans hx269_1)
                     injection ea_ with ea_ en_ ec_
                     subst ea_
                     subst ec_
                     clear en_
                     have ea_ := Option.some.inj (hx268_31.symm.trans hx269_31)
                     injection ea_ with ea_ en_ ec_
                     subst ea_
                     subst ec_
                     clear en_
                     have p270 : 0 ≤ (x7_2 : Int) := of_decide_eq_true (by first | (with_reducible assumption) | assumption)
                     have q270 : x7_2 < (((rd_T43 t264 x6_1).f1).length : Int) := of_decide_eq_true (by first | (with_reducible assumption) | assumption)
                     obtain ⟨ad270, e270, hx270_0⟩ := Kd.at_int (by repeat (first | (with_reducible exact HR269_1.out) | (with_reducible refine Kd.C_alloc ?_ _) | (with_reducible refine Kd.C_drewN ?_ _) | (with_reducible refine Kd.C_drew ?_) | exact HR269_1.out)) x7_2 p270 q270
                     cases e270
                     replace p270 := eq_true p270
                     replace q270 := eq_true q270
                     try go_wp2
                     have n0_ := Aside0.mk (Kd.V_drew HO_4.out)
                     have n1_ := Aside0.mk (Kd.V_drew HL268_1.out)
                     have n2_ := Aside0.mk (Kd.V_drew HL268_31.out)
                     have n3_ := Aside0.mk (Kd.V_drew HL269_1.out)
                     have n4_ := Aside0.mk (Kd.V_drew HL269_31.out)
                     have n5_ := Aside0.mk (Kd.C_drew HR268_1.out)
                     have n6_ := Aside0.mk (Kd.C_drew HR268_31.out)
                     have n7_ := Aside0.mk (Kd.C_drew HR269_1.out)
                     have n8_ := Aside0.mk (Kd.C_drew HR269_31.out)
                     have n9_ := Aside0.mk (below_drew1 HB.out)
                     clear HO_4
                     clear HL268_1
                     clear HL268_31
                     clear HL269_1
                     clear HL269_31
                     clear HR268_1
                     clear HR268_31
                     clear HR269_1
                     clear HR269_31
                     clear HB
                     have HO_4 := n0_
                     have HL268_1 := n1_
                     have HL268_31 := n2_
                     have HL269_1 := n3_
                     have HL269_31 := n4_
                     have HR268_1 := n5_
                     have HR268_31 := n6_
                     have HR269_1 := n7_
                     have HR269_31 := n8_
                     have HB := n9_
                     clear n0_ n1_ n2_ n3_ n4_ n5_ n6_ n7_ n8_ n9_
                     refine start_ (n := 22) (S := fun w' => True) (ds := []) #[false, false, false, false, false, false, false, false, false, false, false, false, false, false, false, false, false, false, false, false, false, false] (by kernel_rfl) rfl rfl trivial (fun hHeld => ?_); refine with_tabW purflinglaw05_FixupStands.tab12 purflinglaw05_FixupStands.bits12 (fun HT_ HW_ => ?_)
                     generalize wr.drew = w19 at HO_4 HL268_1 HL268_31 HL269_1 HL269_31 HR268_1 HR268_31 HR269_1 HR269_31 HB hHeld ⊢
                     refine pure_ (i := 0) (N := some 43) (v := ?_) (a' := ?_) #[true, false, false, false, false, false, false, false, false, false, false, false, false, false, false, false, false, false, false, false, false, false] rfl rfl (any_of HT_.out (by kernel_rfl)) (fun _ _ _ h => h) (Or.inl ⟨by rfl, ?_⟩) ?_ ?_
                     rotate_left
                     · intro w'
                       go_simp
                       with_reducible rfl
                     rotate_left
                     · simp only [Act.put, List.setIfInBounds_toArray, List.set_cons_zero, List.set_cons_succ, i64_w, i32_w]
                       rfl
                     refine pure_ (i := 1) (N := some 44) (v := ?_) (a' := ?_) #[true, true, false, false, false, false, false, false, false, false, false, false, false, false, false, false, false, false, false, false, false, false] rfl rfl (any_of HT_.out (by kernel_rfl)) (fun _ _ _ h => h) (Or.inl ⟨by rfl, ?_⟩) ?_ ?_
                     rotate_left
                     · intro w'
                       go_simp
                       with_reducible rfl
                     rotate_left
                     · simp only [Act.put, List.setIfInBounds_toArray, List.set_cons_zero, List.set_cons_succ, i64_w, i32_w]
                       rfl
                     refine pure_ (i := 2) (N := some 45) (v := ?_) (a' := ?_) #[true, true, true, false, false, false, false, false, false, false, false, false, false, false, false, false, false, false, false, false, false, false] rfl rfl (any_of HT_.out (by kernel_rfl)) (fun _ _ _ h => h) (Or.inl ⟨by rfl, ?_⟩) ?_ ?_
                     rotate_left
                     · intro w'
                       go_simp
                       with_reducible rfl
                     rotate_left
                     · simp only [Act.put, List.setIfInBounds_toArray, List.set_cons_zero, List.set_cons_succ, i64_w, i32_w]
                       rfl
                     refine pure_ (i := 3) (N := some 46) (v := ?_) (a' := ?_) #[true, true, true, true, false, false, false, false, false, false, false, false, false, false, false, false, false, false, false, false, false, false] rfl rfl (any_of HT_.out (by kernel_rfl)) (fun _ _ _ h => h) (Or.inl ⟨by rfl, ?_⟩) ?_ ?_
                     rotate_left
                     · intro w'
                       go_simp
                       with_reducible rfl
                     rotate_left
                     · simp only [Act.put, List.setIfInBounds_toArray, List.set_cons_zero, List.set_cons_succ, i64_w, i32_w]
                       rfl
                     refine pure_ (i := 4) (N := some 47) (v := ?_) (a' := ?_) #[true, true, true, true, true, false, false, false, false, false, false, false, false, false, false, false, false, false, false, false, false, false] rfl rfl (any_of HT_.out (by kernel_rfl)) (fun _ _ _ h => h) (Or.inl ⟨by rfl, ?_⟩) ?_ ?_
                     rotate_left
                     · intro w'
                       go_simp
                       with_reducible rfl
                     rotate_left
                     · simp only [Act.put, List.setIfInBounds_toArray, List.set_cons_zero, List.set_cons_succ, i64_w, i32_w]
                       rfl
                     refine pure_ (i := 5) (N := some 48) (v := ?_) (a' := ?_) #[true, true, true, true, true, true, false, false, false, false, false, false, false, false, false, false, false, false, false, false, false, false] rfl rfl (any_of HT_.out (by kernel_rfl)) (fun _ _ _ h => h) (Or.inl ⟨by rfl, ?_⟩) ?_ ?_
                     rotate_left
                     · intro w'
                       go_simp
                       with_reducible rfl
                     rotate_left
                     · simp only [Act.put, List.setIfInBounds_toArray, List.set_cons_zero, List.set_cons_succ, i64_w, i32_w]
                       rfl
                     refine pure_ (i := 6) (N := some 49) (v := ?_) (a' := ?_) #[true, true, true, true, true, true, true, false, false, false, false, false, false, false, false, false, false, false, false, false, false, false] rfl rfl (any_of HT_.out (by kernel_rfl)) (fun _ _ _ h => h) (Or.inl ⟨by rfl, ?_⟩) ?_ ?_
                     rotate_left
                     · intro w'
                       go_simp
                       with_reducible rfl
                     rotate_left
                     · simp only [Act.put, List.setIfInBounds_toArray, List.set_cons_zero, List.set_cons_succ, i64_w, i32_w]
                       rfl
                     refine pure_ (i := 7) (N := some 50) (v := ?_) (a' := ?_) #[true, true, true, true, true, true, true, true, false, false, false, false, false, false, false, false, false, false, false, false, false, false] rfl rfl (any_of HT_.out (by kernel_rfl)) (fun _ _ _ h => h) (Or.inl ⟨by rfl, ?_⟩) ?_ ?_
                     rotate_left
                     · intro w'
                       go_simp
                       with_reducible rfl
                     rotate_left
                     · simp only [Act.put, List.setIfInBounds_toArray, List.set_cons_zero, List.set_cons_succ, i64_w, i32_w]
                       rfl
                     refine pure_ (i := 8) (N := some 51) (v := ?_) (a' := ?_) #[true, true, true, true, true, true, true, true, true, false, false, false, false, false, false, false, false, false, false, false, false, false] rfl rfl (any_of HT_.out (by kernel_rfl)) (fun _ _ _ h => h) (Or.inl ⟨by rfl, ?_⟩) ?_ ?_
                     rotate_left
                     · intro w'
                       go_simp
                       with_reducible rfl
                     rotate_left
                     · simp only [Act.put, List.setIfInBounds_toArray, List.set_cons_zero, List.set_cons_succ, i64_w, i32_w]
                       rfl
                     refine pure_ (i := 9) (N := some 52) (v := undef) (a' := ?_) #[true, true, true, true, true, true, true, true, true, true, false, false, false, false, false, false, false, false, false, false, false, false] rfl rfl (any_of HT_.out (by kernel_rfl)) (fun _ _ _ h => h) (Or.inr ⟨by rfl, rfl⟩) ?_ ?_
                     rotate_left
                     · simp only [Act.put, List.setIfInBounds_toArray, List.set_cons_zero, List.set_cons_succ, i64_w, i32_w]
                       rfl
                     refine pure_ (i := 10) (N := some 53) (v := undef) (a' := ?_) #[true, true, true, true, true, true, true, true, true, true, true, false, false, false, false, false, false, false, false, false, false, false] rfl rfl (any_of HT_.out (by kernel_rfl)) (fun _ _ _ h => h) (Or.inr ⟨by rfl, rfl⟩) ?_ ?_
                     rotate_left
                     · simp only [Act.put, List.setIfInBounds_toArray, List.set_cons_zero, List.set_cons_succ, i64_w, i32_w]
                       rfl
                     refine pure_ (i := 11) (N := some 54) (v := undef) (a' := ?_) #[true, true, true, true, true, true, true, true, true, true, true, true, false, false, false, false, false, false, false, false, false, false] rfl rfl (any_of HT_.out (by kernel_rfl)) (fun _ _ _ h => h) (Or.inr ⟨by rfl, rfl⟩) ?_ ?_
                     rotate_left
                     · simp only [Act.put, List.setIfInBounds_toArray, List.set_cons_zero, List.set_cons_succ, i64_w, i32_w]
                       rfl
                     refine pure_ (i := 12) (N := some 55) (v := undef) (a' := ?_) #[true, true, true, true, true, true, true, true, true, true, true, true, true, false, false, false, false, false, false, false, false, false] rfl rfl (any_of HT_.out (by kernel_rfl)) (fun _ _ _ h => h) (Or.inr ⟨by rfl, rfl⟩) ?_ ?_
                     rotate_left
                     · simp only [Act.put, List.setIfInBounds_toArray, List.set_cons_zero, List.set_cons_succ, i64_w, i32_w]
                       rfl
                     refine pure_ (i := 13) (N := some 56) (v := undef) (a' := ?_) #[true, true, true, true, true, true, true, true, true, true, true, true, true, true, false, false, false, false, false, false, false, false] rfl rfl (any_of HT_.out (by kernel_rfl)) (fun _ _ _ h => h) (Or.inr ⟨by rfl, rfl⟩) ?_ ?_
                     rotate_left
                     · simp only [Act.put, List.setIfInBounds_toArray, List.set_cons_zero, List.set_cons_succ, i64_w, i32_w]
                       rfl
                     refine pure_ (i := 14) (N := some 57) (v := undef) (a' := ?_) #[true, true, true, true, true, true, true, true, true, true, true, true, true, true, true, false, false, false, false, false, false, false] rfl rfl (any_of HT_.out (by kernel_rfl)) (fun _ _ _ h => h) (Or.inr ⟨by rfl, rfl⟩) ?_ ?_
                     rotate_left
                     · simp only [Act.put, List.setIfInBounds_toArray, List.set_cons_zero, List.set_cons_succ, i64_w, i32_w]
                       rfl
                     refine pure_ (i := 15) (N := some 58) (v := undef) (a' := ?_) #[true, true, true, true, true, true, true, true, true, true, true, true, true, true, true, true, false, false, false, false, false, false] rfl rfl (any_of HT_.out (by kernel_rfl)) (fun _ _ _ h => h) (Or.inr ⟨by rfl, rfl⟩) ?_ ?_
                     rotate_left
                     · simp only [Act.put, List.setIfInBounds_toArray, List.set_cons_zero, List.set_cons_succ, i64_w, i32_w]
                       rfl
                     refine pure_ (i := 16) (N := some 59) (v := undef) (a' := ?_) #[true, true, true, true, true, true, true, true, true, true, true, true, true, true, true, true, true, false, false, false, false, false] rfl rfl (any_of HT_.out (by kernel_rfl)) (fun _ _ _ h => h) (Or.inr ⟨by rfl, rfl⟩) ?_ ?_
                     rotate_left
                     · simp only [Act.put, List.setIfInBounds_toArray, List.set_cons_zero, List.set_cons_succ, i64_w, i32_w]
                       rfl
                     refine pure_ (i := 17) (N := some 60) (v := undef) (a' := ?_) #[true, true, true, true, true, true, true, true, true, true, true, true, true, true, true, true, true, true, false, false, false, false] rfl rfl (any_of HT_.out (by kernel_rfl)) (fun _ _ _ h => h) (Or.inr ⟨by rfl, rfl⟩) ?_ ?_
                     rotate_left
                     · simp only [Act.put, List.setIfInBounds_toArray, List.set_cons_zero, List.set_cons_succ, i64_w, i32_w]
                       rfl
                     refine pure_ (i := 18) (N := some 61) (v := undef) (a' := ?_) #[true, true, true, true, true, true, true, true, true, true, true, true, true, true, true, true, true, true, true, false, false, false] rfl rfl (any_of HT_.out (by kernel_rfl)) (fun _ _ _ h => h) (Or.inr ⟨by rfl, rfl⟩) ?_ ?_
                     rotate_left
                     · simp only [Act.put, List.setIfInBounds_toArray, List.set_cons_zero, List.set_cons_succ, i64_w, i32_w]
                       rfl
                     refine pure_ (i := 19) (N := some 62) (v := undef) (a' := ?_) #[true, true, true, true, true, true, true, true, true, true, true, true, true, true, true, true, true, true, true, true, false, false] rfl rfl (any_of HT_.out (by kernel_rfl)) (fun _ _ _ h => h) (Or.inr ⟨by rfl, rfl⟩) ?_ ?_
                     rotate_left
                     · simp only [Act.put, List.setIfInBounds_toArray, List.set_cons_zero, List.set_cons_succ, i64_w, i32_w]
                       rfl
                     refine pure_ (i := 20) (N := some 63) (v := undef) (a' := ?_) #[true, true, true, true, true, true, true, true, true, true, true, true, true, true, true, true, true, true, true, true, true, false] rfl rfl (any_of HT_.out (by kernel_rfl)) (fun _ _ _ h => h) (Or.inr ⟨by rfl, rfl⟩) ?_ ?_
                     rotate_left
                     · simp only [Act.put, List.setIfInBounds_toArray, List.set_cons_zero, List.set_cons_succ, i64_w, i32_w]
                       rfl
                     refine pure_ (i := 21) (N := some 64) (v := ?_) (a' := ?_) #[true, true, true, true, true, true, true, true, true, true, true, true, true, true, true, true, true, true, true, true, true, true] rfl rfl (any_of HT_.out (by kernel_rfl)) (fun _ _ _ h => h) (Or.inl ⟨by rfl, ?_⟩) ?_ ?_
                     rotate_left
                     · intro w'
                       go_simp
                       with_reducible rfl
                     rotate_left
                     · simp only [Act.put, List.setIfInBounds_toArray, List.set_cons_zero, List.set_cons_succ, i64_w, i32_w]
                       rfl
                     refine done_ (done_of HT_.out (by kernel_rfl)) ?_
                     try go_wp2
                     go_ret
                     exact ⟨by first | rfl | (simp [errW_none, errW_some] <;> rfl) | (simp [*, errW_none, errW_some] <;> rfl), by repeat (first | (with_reducible first | exact HB.out | apply below_alloc | apply pw_below_drewN | apply below_drew1) | exact HB.out)⟩
                   · rw [if_neg c18] at H
                     have c18b0 : decide ((t264.length : Int) ≤ (rd ((rd_T43 t264 x6_1).f1) x7_2)) = false := decide_eq_false c18
                     clear c18
                     by_cases c20 : 0 ≤ (rd ((rd_T43 t264 x6_1).f1) x7_2)
                     · rw [if_pos c20] at H
                       have c20b0 : decide (0 ≤ (rd ((rd_T43 t264 x6_1).f1) x7_2)) = true := decide_eq_true c20
                       clear c20
                       by_cases c21 : (rd ((rd_T43 t264 x6_1).f1) x7_2) < (t264.length : Int)
                       · rw [if_pos c21] at H
                         have c21b0 : decide ((rd ((rd_T43 t264 x6_1).f1) x7_2) < (t264.length : Int)) = true := decide_eq_true c21
                         clear c21
                         replace H := Option.bind_eq_some_iff.mp H
                         obtain ⟨t273, A220, H⟩ := H
                         replace H : (if t273 = true then (purflinglaw05_FixupStands.l1 k2 t260 t264 x6_1 (wrap64 (x7_2 + 1))) else (some false)) = some r := H
                         have A22 := Aside0.mk A220
                         clear A220
                         by_cases c23 : t273 = true
                         · subst c23
                           have H1 : (purflinglaw05_FixupStands.l1 k2 t260 t264 x6_1 (wrap64 (x7_2 + 1))) = some r := by rw [if_pos rfl] at H; exact H
                           clear H
                           have H := H1
                           clear H1
                           have H' := Aside0.mk H
                           clear H
                           have p268 : 0 ≤ (x6_1 : Int) := of_decide_eq_true (by first | (with_reducible assumption) | assumption)
                           have q268 : x6_1 < (t264.length : Int) := of_decide_eq_true (by first | (with_reducible assumption) | assumption)
                           obtain ⟨ad268, A268_1, c268_1, A268_31, c268_31, e268, hx268_0, hx268_1, hx268_2, hx268_3, hx268_4, hx268_5, hx268_6, hx268_7, hx268_8, hx268_9, hx268_10, hx268_11, hx268_12, hx268_13, hx268_14, hx268_15, hx268_16, hx268_17, hx268_18, hx268_19, hx268_20, hx268_21, hx268_22, hx268_23, hx268_24, hx268_25, hx268_26, hx268_27, hx268_28, hx268_29, hx268_30, hx268_31, hx268_32, hx268_33, hl268_1, hi268_1, hl268_31, hi268_31⟩ := at_T43 (Kd.V_reads' HO_4.out).2.2 x6_1 p268 q268
                           cases e268
                           obtain ⟨ce268, hce268, hMe268, hcc268⟩ := Kd.V_get HO_4.out z43 x6_1 p268 (by first | exact q268 | exact of_decide_eq_true (by first | (with_reducible assumption) | assumption) | (have e_ := (Kd.V_reads' HO_4.out).1; omega))
                           obtain ⟨ua268_1, uc268_1, ua268_31, uc268_31, rfl, ul268_1, ge268_1, ul268_31, ge268_31⟩ := k43_openF hMe268
                           have hv268_1 := hcc268 1 _ rfl
                           rw [add_field _ _ 1 (by omega)] at hv268_1
                           replace hv268_1 := Option.some.inj (hv268_1.symm.trans hx268_1)
                           injection hv268_1 with hva_ hvn_ hvc_
                           rw [hva_] at ge268_1
                           rw [hvc_] at ul268_1
                           have HL268_1 := Aside0.mk (show Kd.V (Kd.int .i64) 3 _ w.heap.size _ _ ((rd_T43 t264 x6_1).f1) from Kd.V_mk ul268_1 ge268_1)
                           clear hva_ hvn_ hvc_ ge268_1 ul268_1
                           have hv268_31 := hcc268 31 _ rfl
                           rw [add_field _ _ 31 (by omega)] at hv268_31
                           replace hv268_31 := Option.some.inj (hv268_31.symm.trans hx268_31)
                           injection hv268_31 with hva_ hvn_ hvc_
                           rw [hva_] at ge268_31
                           rw [hvc_] at ul268_31
                           have HL268_31 := Aside0.mk (show Kd.V (Kd.int .i64) 2 _ w.heap.size _ _ ((rd_T43 t264 x6_1).f3) from Kd.V_mk ul268_31 ge268_31)
                           clear hva_ hvn_ hvc_ ge268_31 ul268_31
                           clear hcc268 hce268
                           have HR268_1 := Aside0.mk hi268_1
                           have HC268_1 := Aside0.mk hl268_1
                           clear hi268_1 hl268_1
                           have HR268_31 := Aside0.mk hi268_31
                           have HC268_31 := Aside0.mk hl268_31
                           clear hi268_31 hl268_31
                           replace p268 := eq_true p268
                           replace q268 := eq_true q268
                           have p269 : 0 ≤ (x6_1 : Int) := of_decide_eq_true (by first | (with_reducible assumption) | assumption)
                           have q269 : x6_1 < (t264.length : Int) := of_decide_eq_true (by first | (with_reducible assumption) | assumption)
                           obtain ⟨ad269, A269_1, c269_1, A269_31, c269_31, e269, hx269_0, hx269_1, hx269_2, hx269_3, hx269_4, hx269_5, hx269_6, hx269_7, hx269_8, hx269_9, hx269_10, hx269_11, hx269_12, hx269_13, hx269_14, hx269_15, hx269_16, hx269_17, hx269_18, hx269_19, hx269_20, hx269_21, hx269_22, hx269_23, hx269_24, hx269_25, hx269_26, hx269_27, hx269_28, hx269_29, hx269_30, hx269_31, hx269_32, hx269_33, hl269_1, hi269_1, hl269_31, hi269_31⟩ := at_T43 (Kd.V_reads' HO_4.out).2.2 x6_1 p269 q269
                           obtain rfl : ad268 = ad269 := (by injection e269)
                           obtain ⟨ce269, hce269, hMe269, hcc269⟩ := Kd.V_get HO_4.out z43 x6_1 p269 (by first | exact q269 | exact of_decide_eq_true (by first | (with_reducible assumption) | assumption) | (have e_ := (Kd.V_reads' HO_4.out).1; omega))
                           obtain ⟨ua269_1, uc269_1, ua269_31, uc269_31, rfl, ul269_1, ge269_1, ul269_31, ge269_31⟩ := k43_openF hMe269
                           have hv269_1 := hcc269 1 _ rfl
                           rw [add_field _ _ 1 (by omega)] at hv269_1
                           replace hv269_1 := Option.some.inj (hv269_1.symm.trans hx269_1)
                           injection hv269_1 with hva_ hvn_ hvc_
                           rw [hva_] at ge269_1
                           rw [hvc_] at ul269_1
                           have HL269_1 := Aside0.mk (show Kd.V (Kd.int .i64) 3 _ w.heap.size _ _ ((rd_T43 t264 x6_1).f1) from Kd.V_mk ul269_1 ge269_1)
                           clear hva_ hvn_ hvc_ ge269_1 ul269_1
                           have hv269_31 := hcc269 31 _ rfl
                           rw [add_field _ _ 31 (by omega)] at hv269_31
                           replace hv269_31 := Option.some.inj (hv269_31.symm.trans hx269_31)
                           injection hv269_31 with hva_ hvn_ hvc_
                           rw [hva_] at ge269_31
                           rw [hvc_] at ul269_31
                           have HL269_31 := Aside0.mk (show Kd.V (Kd.int .i64) 2 _ w.heap.size _ _ ((rd_T43 t264 x6_1).f3) from Kd.V_mk ul269_31 ge269_31)
                           clear hva_ hvn_ hvc_ ge269_31 ul269_31
                           clear hcc269 hce269
                           have HR269_1 := Aside0.mk hi269_1
                           have HC269_1 := Aside0.mk hl269_1
                           clear hi269_1 hl269_1
                           have HR269_31 := Aside0.mk hi269_31
                           have HC269_31 := Aside0.mk hl269_31
                           clear hi269_31 hl269_31
                           replace p269 := eq_true p269
                           replace q269 := eq_true q269
                           have ea_ := Option.some.inj (hx268_1.symm.trans hx269_1)
                           injection ea_ with ea_ en_ ec_
                           subst ea_
                           subst ec_
                           clear en_
                           have ea_ := Option.some.inj (hx268_31.symm.trans hx269_31)
                           injection ea_ with ea_ en_ ec_
                           subst ea_
                           subst ec_
                           clear en_
                           have p270 : 0 ≤ (x7_2 : Int) := of_decide_eq_true (by first | (with_reducible assumption) | assumption)
                           have q270 : x7_2 < (((rd_T43 t264 x6_1).f1).length : Int) := of_decide_eq_true (by first | (with_reducible assumption) | assumption)
                           obtain ⟨ad270, e270, hx270_0⟩ := Kd.at_int (by repeat (first | (with_reducible exact HR269_1.out) | (with_reducible refine Kd.C_alloc ?_ _) | (with_reducible refine Kd.C_drewN ?_ _) | (with_reducible refine Kd.C_drew ?_) | exact HR269_1.out)) x7_2 p270 q270
                           cases e270
                           replace p270 := eq_true p270
                           replace q270 := eq_true q270
                           try go_wp2
                           have n0_ := Aside0.mk (Kd.V_drew HO_4.out)
                           have n1_ := Aside0.mk (Kd.V_drew HL268_1.out)
                           have n2_ := Aside0.mk (Kd.V_drew HL268_31.out)
                           have n3_ := Aside0.mk (Kd.V_drew HL269_1.out)
                           have n4_ := Aside0.mk (Kd.V_drew HL269_31.out)
                           have n5_ := Aside0.mk (Kd.C_drew HR268_1.out)
                           have n6_ := Aside0.mk (Kd.C_drew HR268_31.out)
                           have n7_ := Aside0.mk (Kd.C_drew HR269_1.out)
                           have n8_ := Aside0.mk (Kd.C_drew HR269_31.out)
                           have n9_ := Aside0.mk (below_drew1 HB.out)
                           clear HO_4
                           clear HL268_1
                           clear HL268_31
                           clear HL269_1
                           clear HL269_31
                           clear HR268_1
                           clear HR268_31
                           clear HR269_1
                           clear HR269_31
                           clear HB
                           have HO_4 := n0_
                           have HL268_1 := n1_
                           have HL268_31 := n2_
                           have HL269_1 := n3_
                           have HL269_31 := n4_
                           have HR268_1 := n5_
                           have HR268_31 := n6_
                           have HR269_1 := n7_
                           have HR269_31 := n8_
                           have HB := n9_
                           clear n0_ n1_ n2_ n3_ n4_ n5_ n6_ n7_ n8_ n9_
                           have p271 : 0 ≤ (x6_1 : Int) := of_decide_eq_true (by first | (with_reducible assumption) | assumption)
                           have q271 : x6_1 < (t264.length : Int) := of_decide_eq_true (by first | (with_reducible assumption) | assumption)
                           obtain ⟨ad271, A271_1, c271_1, A271_31, c271_31, e271, hx271_0, hx271_1, hx271_2, hx271_3, hx271_4, hx271_5, hx271_6, hx271_7, hx271_8, hx271_9, hx271_10, hx271_11, hx271_12, hx271_13, hx271_14, hx271_15, hx271_16, hx271_17, hx271_18, hx271_19, hx271_20, hx271_21, hx271_22, hx271_23, hx271_24, hx271_25, hx271_26, hx271_27, hx271_28, hx271_29, hx271_30, hx271_31, hx271_32, hx271_33, hl271_1, hi271_1, hl271_31, hi271_31⟩ := at_T43 (Kd.V_reads' HO_4.out).2.2 x6_1 p271 q271
                           obtain rfl : ad268 = ad271 := (by injection e271)
                           obtain ⟨ce271, hce271, hMe271, hcc271⟩ := Kd.V_get HO_4.out z43 x6_1 p271 (by first | exact q271 | exact of_decide_eq_true (by first | (with_reducible assumption) | assumption) | (have e_ := (Kd.V_reads' HO_4.out).1; omega))
                           obtain ⟨ua271_1, uc271_1, ua271_31, uc271_31, rfl, ul271_1, ge271_1, ul271_31, ge271_31⟩ := k43_openF hMe271
                           have hv271_1 := hcc271 1 _ rfl
                           rw [add_field _ _ 1 (by omega)] at hv271_1
                           replace hv271_1 := Option.some.inj (hv271_1.symm.trans hx271_1)
                           injection hv271_1 with hva_ hvn_ hvc_
                           rw [hva_] at ge271_1
                           rw [hvc_] at ul271_1
                           have HL271_1 := Aside0.mk (show Kd.V (Kd.int .i64) 3 _ w.heap.size _ _ ((rd_T43 t264 x6_1).f1) from Kd.V_mk ul271_1 ge271_1)
                           clear hva_ hvn_ hvc_ ge271_1 ul271_1
                           have hv271_31 := hcc271 31 _ rfl
                           rw [add_field _ _ 31 (by omega)] at hv271_31
                           replace hv271_31 := Option.some.inj (hv271_31.symm.trans hx271_31)
                           injection hv271_31 with hva_ hvn_ hvc_
                           rw [hva_] at ge271_31
                           rw [hvc_] at ul271_31
                           have HL271_31 := Aside0.mk (show Kd.V (Kd.int .i64) 2 _ w.heap.size _ _ ((rd_T43 t264 x6_1).f3) from Kd.V_mk ul271_31 ge271_31)
                           clear hva_ hvn_ hvc_ ge271_31 ul271_31
                           clear hcc271 hce271
                           have HR271_1 := Aside0.mk hi271_1
                           have HC271_1 := Aside0.mk hl271_1
                           clear hi271_1 hl271_1
                           have HR271_31 := Aside0.mk hi271_31
                           have HC271_31 := Aside0.mk hl271_31
                           clear hi271_31 hl271_31
                           replace p271 := eq_true p271
                           replace q271 := eq_true q271
                           have p272 : 0 ≤ ((rd ((rd_T43 t264 x6_1).f1) x7_2) : Int) := of_decide_eq_true (by first | (with_reducible assumption) | assumption)
                           have q272 : (rd ((rd_T43 t264 x6_1).f1) x7_2) < (t264.length : Int) := of_decide_eq_true (by first | (with_reducible assumption) | assumption)
                           obtain ⟨ad272, A272_1, c272_1, A272_31, c272_31, e272, hx272_0, hx272_1, hx272_2, hx272_3, hx272_4, hx272_5, hx272_6, hx272_7, hx272_8, hx272_9, hx272_10, hx272_11, hx272_12, hx272_13, hx272_14, hx272_15, hx272_16, hx272_17, hx272_18, hx272_19, hx272_20, hx272_21, hx272_22, hx272_23, hx272_24, hx272_25, hx272_26, hx272_27, hx272_28, hx272_29, hx272_30, hx272_31, hx272_32, hx272_33, hl272_1, hi272_1, hl272_31, hi272_31⟩ := at_T43 (Kd.V_reads' HO_4.out).2.2 (rd ((rd_T43 t264 x6_1).f1) x7_2) p272 q272
                           obtain rfl : ad268 = ad272 := (by injection e272)
                           obtain ⟨ce272, hce272, hMe272, hcc272⟩ := Kd.V_get HO_4.out z43 (rd ((rd_T43 t264 x6_1).f1) x7_2) p272 (by first | exact q272 | exact of_decide_eq_true (by first | (with_reducible assumption) | assumption) | (have e_ := (Kd.V_reads' HO_4.out).1; omega))
                           obtain ⟨ua272_1, uc272_1, ua272_31, uc272_31, rfl, ul272_1, ge272_1, ul272_31, ge272_31⟩ := k43_openF hMe272
                           have hv272_1 := hcc272 1 _ rfl
                           rw [add_field _ _ 1 (by omega)] at hv272_1
                           replace hv272_1 := Option.some.inj (hv272_1.symm.trans hx272_1)
                           injection hv272_1 with hva_ hvn_ hvc_
                           rw [hva_] at ge272_1
                           rw [hvc_] at ul272_1
                           have HL272_1 := Aside0.mk (show Kd.V (Kd.int .i64) 3 _ w.heap.size _ _ ((rd_T43 t264 (rd ((rd_T43 t264 x6_1).f1) x7_2)).f1) from Kd.V_mk ul272_1 ge272_1)
                           clear hva_ hvn_ hvc_ ge272_1 ul272_1
                           have hv272_31 := hcc272 31 _ rfl
                           rw [add_field _ _ 31 (by omega)] at hv272_31
                           replace hv272_31 := Option.some.inj (hv272_31.symm.trans hx272_31)
                           injection hv272_31 with hva_ hvn_ hvc_
                           rw [hva_] at ge272_31
                           rw [hvc_] at ul272_31
                           have HL272_31 := Aside0.mk (show Kd.V (Kd.int .i64) 2 _ w.heap.size _ _ ((rd_T43 t264 (rd ((rd_T43 t264 x6_1).f1) x7_2)).f3) from Kd.V_mk ul272_31 ge272_31)
                           clear hva_ hvn_ hvc_ ge272_31 ul272_31
                           clear hcc272 hce272
                           have HR272_1 := Aside0.mk hi272_1
                           have HC272_1 := Aside0.mk hl272_1
                           clear hi272_1 hl272_1
                           have HR272_31 := Aside0.mk hi272_31
                           have HC272_31 := Aside0.mk hl272_31
                           clear hi272_31 hl272_31
                           replace p272 := eq_true p272
                           replace q272 := eq_true q272
                           refine start_ (n := 22) (S := fun w' => w'.cell? (ad268.add ((x6_1).toNat * 34)) = some (.int .i64 ((rd_T43 t264 x6_1).f0)) ∧ w'.cell? ⟨(ad268.add ((x6_1).toNat * 34)).block, (ad268.add ((x6_1).toNat * 34)).off + 1, none⟩ = some (.slice A271_1 ((rd_T43 t264 x6_1).f1).length c271_1) ∧ w'.cell? ⟨(ad268.add ((x6_1).toNat * 34)).block, (ad268.add ((x6_1).toNat * 34)).off + 2, none⟩ = some (.int .i64 ((rd_T43 t264 x6_1).f2.f0.f0)) ∧ w'.cell? ⟨(ad268.add ((x6_1).toNat * 34)).block, (ad268.add ((x6_1).toNat * 34)).off + 3, none⟩ = some (.int .i64 ((rd_T43 t264 x6_1).f2.f0.f1)) ∧ w'.cell? ⟨(ad268.add ((x6_1).toNat * 34)).block, (ad268.add ((x6_1).toNat * 34)).off + 4, none⟩ = some (.int .i64 ((rd_T43 t264 x6_1).f2.f1.f0)) ∧ w'.cell? ⟨(ad268.add ((x6_1).toNat * 34)).block, (ad268.add ((x6_1).toNat * 34)).off + 5, none⟩ = some (.int .i64 ((rd_T43 t264 x6_1).f2.f1.f1)) ∧ w'.cell? ⟨(ad268.add ((x6_1).toNat * 34)).block, (ad268.add ((x6_1).toNat * 34)).off + 6, none⟩ = some (.int .i64 ((rd_T43 t264 x6_1).f2.f2.f0)) ∧ w'.cell? ⟨(ad268.add ((x6_1).toNat * 34)).block, (ad268.add ((x6_1).toNat * 34)).off + 7, none⟩ = some (.int .i64 ((rd_T43 t264 x6_1).f2.f2.f1)) ∧ w'.cell? ⟨(ad268.add ((x6_1).toNat * 34)).block, (ad268.add ((x6_1).toNat * 34)).off + 8, none⟩ = some (.int .i64 ((rd_T43 t264 x6_1).f2.f2.f2)) ∧ w'.cell? ⟨(ad268.add ((x6_1).toNat * 34)).block, (ad268.add ((x6_1).toNat * 34)).off + 9, none⟩ = some (.int .i64 ((rd_T43 t264 x6_1).f2.f2.f3)) ∧ w'.cell? ⟨(ad268.add ((x6_1).toNat * 34)).block, (ad268.add ((x6_1).toNat * 34)).off + 10, none⟩ = some (.int .i64 ((rd_T43 t264 x6_1).f2.f3.f0.f0)) ∧ w'.cell? ⟨(ad268.add ((x6_1).toNat * 34)).block, (ad268.add ((x6_1).toNat * 34)).off + 11, none⟩ = some (.int .i64 ((rd_T43 t264 x6_1).f2.f3.f0.f1)) ∧ w'.cell? ⟨(ad268.add ((x6_1).toNat * 34)).block, (ad268.add ((x6_1).toNat * 34)).off + 12, none⟩ = some (.int .u32 ((rd_T43 t264 x6_1).f2.f3.f0.f2)) ∧ w'.cell? ⟨(ad268.add ((x6_1).toNat * 34)).block, (ad268.add ((x6_1).toNat * 34)).off + 13, none⟩ = some (.int .i64 ((rd_T43 t264 x6_1).f2.f3.f1.f0)) ∧ w'.cell? ⟨(ad268.add ((x6_1).toNat * 34)).block, (ad268.add ((x6_1).toNat * 34)).off + 14, none⟩ = some (.int .i64 ((rd_T43 t264 x6_1).f2.f3.f1.f1)) ∧ w'.cell? ⟨(ad268.add ((x6_1).toNat * 34)).block, (ad268.add ((x6_1).toNat * 34)).off + 15, none⟩ = some (.int .u32 ((rd_T43 t264 x6_1).f2.f3.f1.f2)) ∧ w'.cell? ⟨(ad268.add ((x6_1).toNat * 34)).block, (ad268.add ((x6_1).toNat * 34)).off + 16, none⟩ = some (.int .i64 ((rd_T43 t264 x6_1).f2.f3.f2.f0)) ∧ w'.cell? ⟨(ad268.add ((x6_1).toNat * 34)).block, (ad268.add ((x6_1).toNat * 34)).off + 17, none⟩ = some (.int .i64 ((rd_T43 t264 x6_1).f2.f3.f2.f1)) ∧ w'.cell? ⟨(ad268.add ((x6_1).toNat * 34)).block, (ad268.add ((x6_1).toNat * 34)).off + 18, none⟩ = some (.int .u32 ((rd_T43 t264 x6_1).f2.f3.f2.f2)) ∧ w'.cell? ⟨(ad268.add ((x6_1).toNat * 34)).block, (ad268.add ((x6_1).toNat * 34)).off + 19, none⟩ = some (.int .i64 ((rd_T43 t264 x6_1).f2.f3.f3.f0)) ∧ w'.cell? ⟨(ad268.add ((x6_1).toNat * 34)).block, (ad268.add ((x6_1).toNat * 34)).off + 20, none⟩ = some (.int .i64 ((rd_T43 t264 x6_1).f2.f3.f3.f1)) ∧ w'.cell? ⟨(ad268.add ((x6_1).toNat * 34)).block, (ad268.add ((x6_1).toNat * 34)).off + 21, none⟩ = some (.int .u32 ((rd_T43 t264 x6_1).f2.f3.f3.f2)) ∧ w'.cell? ⟨(ad268.add ((x6_1).toNat * 34)).block, (ad268.add ((x6_1).toNat * 34)).off + 22, none⟩ = some (.int .i64 ((rd_T43 t264 x6_1).f2.f4)) ∧ w'.cell? ⟨(ad268.add ((x6_1).toNat * 34)).block, (ad268.add ((x6_1).toNat * 34)).off + 23, none⟩ = some (.int .i64 ((rd_T43 t264 x6_1).f2.f5)) ∧ w'.cell? ⟨(ad268.add ((x6_1).toNat * 34)).block, (ad268.add ((x6_1).toNat * 34)).off + 24, none⟩ = some (.int .i64 ((rd_T43 t264 x6_1).f2.f6)) ∧ w'.cell? ⟨(ad268.add ((x6_1).toNat * 34)).block, (ad268.add ((x6_1).toNat * 34)).off + 25, none⟩ = some (.bool ((rd_T43 t264 x6_1).f2.f7)) ∧ w'.cell? ⟨(ad268.add ((x6_1).toNat * 34)).block, (ad268.add ((x6_1).toNat * 34)).off + 26, none⟩ = some (.bool ((rd_T43 t264 x6_1).f2.f8)) ∧ w'.cell? ⟨(ad268.add ((x6_1).toNat * 34)).block, (ad268.add ((x6_1).toNat * 34)).off + 27, none⟩ = some (.int .i64 ((rd_T43 t264 x6_1).f2.f9.f0)) ∧ w'.cell? ⟨(ad268.add ((x6_1).toNat * 34)).block, (ad268.add ((x6_1).toNat * 34)).off + 28, none⟩ = some (.int .i64 ((rd_T43 t264 x6_1).f2.f9.f1)) ∧ w'.cell? ⟨(ad268.add ((x6_1).toNat * 34)).block, (ad268.add ((x6_1).toNat * 34)).off + 29, none⟩ = some (.bool ((rd_T43 t264 x6_1).f2.f10)) ∧ w'.cell? ⟨(ad268.add ((x6_1).toNat * 34)).block, (ad268.add ((x6_1).toNat * 34)).off + 30, none⟩ = some (.bool ((rd_T43 t264 x6_1).f2.f11)) ∧ w'.cell? ⟨(ad268.add ((x6_1).toNat * 34)).block, (ad268.add ((x6_1).toNat * 34)).off + 31, none⟩ = some (.slice A271_31 ((rd_T43 t264 x6_1).f3).length c271_31) ∧ w'.cell? ⟨(ad268.add ((x6_1).toNat * 34)).block, (ad268.add ((x6_1).toNat * 34)).off + 32, none⟩ = some (.int .i64 ((rd_T43 t264 x6_1).f4)) ∧ w'.cell? ⟨(ad268.add ((x6_1).toNat * 34)).block, (ad268.add ((x6_1).toNat * 34)).off + 33, none⟩ = some (.int .i64 ((rd_T43 t264 x6_1).f5)) ∧ w'.cell? (ad268.add (((rd ((rd_T43 t264 x6_1).f1) x7_2)).toNat * 34)) = some (.int .i64 ((rd_T43 t264 (rd ((rd_T43 t264 x6_1).f1) x7_2)).f0)) ∧ w'.cell? ⟨(ad268.add (((rd ((rd_T43 t264 x6_1).f1) x7_2)).toNat * 34)).block, (ad268.add (((rd ((rd_T43 t264 x6_1).f1) x7_2)).toNat * 34)).off + 1, none⟩ = some (.slice A272_1 ((rd_T43 t264 (rd ((rd_T43 t264 x6_1).f1) x7_2)).f1).length c272_1) ∧ w'.cell? ⟨(ad268.add (((rd ((rd_T43 t264 x6_1).f1) x7_2)).toNat * 34)).block, (ad268.add (((rd ((rd_T43 t264 x6_1).f1) x7_2)).toNat * 34)).off + 2, none⟩ = some (.int .i64 ((rd_T43 t264 (rd ((rd_T43 t264 x6_1).f1) x7_2)).f2.f0.f0)) ∧ w'.cell? ⟨(ad268.add (((rd ((rd_T43 t264 x6_1).f1) x7_2)).toNat * 34)).block, (ad268.add (((rd ((rd_T43 t264 x6_1).f1) x7_2)).toNat * 34)).off + 3, none⟩ = some (.int .i64 ((rd_T43 t264 (rd ((rd_T43 t264 x6_1).f1) x7_2)).f2.f0.f1)) ∧ w'.cell? ⟨(ad268.add (((rd ((rd_T43 t264 x6_1).f1) x7_2)).toNat * 34)).block, (ad268.add (((rd ((rd_T43 t264 x6_1).f1) x7_2)).toNat * 34)).off + 4, none⟩ = some (.int .i64 ((rd_T43 t264 (rd ((rd_T43 t264 x6_1).f1) x7_2)).f2.f1.f0)) ∧ w'.cell? ⟨(ad268.add (((rd ((rd_T43 t264 x6_1).f1) x7_2)).toNat * 34)).block, (ad268.add (((rd ((rd_T43 t264 x6_1).f1) x7_2)).toNat * 34)).off + 5, none⟩ = some (.int .i64 ((rd_T43 t264 (rd ((rd_T43 t264 x6_1).f1) x7_2)).f2.f1.f1)) ∧ w'.cell? ⟨(ad268.add (((rd ((rd_T43 t264 x6_1).f1) x7_2)).toNat * 34)).block, (ad268.add (((rd ((rd_T43 t264 x6_1).f1) x7_2)).toNat * 34)).off + 6, none⟩ = some (.int .i64 ((rd_T43 t264 (rd ((rd_T43 t264 x6_1).f1) x7_2)).f2.f2.f0)) ∧ w'.cell? ⟨(ad268.add (((rd ((rd_T43 t264 x6_1).f1) x7_2)).toNat * 34)).block, (ad268.add (((rd ((rd_T43 t264 x6_1).f1) x7_2)).toNat * 34)).off + 7, none⟩ = some (.int .i64 ((rd_T43 t264 (rd ((rd_T43 t264 x6_1).f1) x7_2)).f2.f2.f1)) ∧ w'.cell? ⟨(ad268.add (((rd ((rd_T43 t264 x6_1).f1) x7_2)).toNat * 34)).block, (ad268.add (((rd ((rd_T43 t264 x6_1).f1) x7_2)).toNat * 34)).off + 8, none⟩ = some (.int .i64 ((rd_T43 t264 (rd ((rd_T43 t264 x6_1).f1) x7_2)).f2.f2.f2)) ∧ w'.cell? ⟨(ad268.add (((rd ((rd_T43 t264 x6_1).f1) x7_2)).toNat * 34)).block, (ad268.add (((rd ((rd_T43 t264 x6_1).f1) x7_2)).toNat * 34)).off + 9, none⟩ = some (.int .i64 ((rd_T43 t264 (rd ((rd_T43 t264 x6_1).f1) x7_2)).f2.f2.f3)) ∧ w'.cell? ⟨(ad268.add (((rd ((rd_T43 t264 x6_1).f1) x7_2)).toNat * 34)).block, (ad268.add (((rd ((rd_T43 t264 x6_1).f1) x7_2)).toNat * 34)).off + 10, none⟩ = some (.int .i64 ((rd_T43 t264 (rd ((rd_T43 t264 x6_1).f1) x7_2)).f2.f3.f0.f0)) ∧ w'.cell? ⟨(ad268.add (((rd ((rd_T43 t264 x6_1).f1) x7_2)).toNat * 34)).block, (ad268.add (((rd ((rd_T43 t264 x6_1).f1) x7_2)).toNat * 34)).off + 11, none⟩ = some (.int .i64 ((rd_T43 t264 (rd ((rd_T43 t264 x6_1).f1) x7_2)).f2.f3.f0.f1)) ∧ w'.cell? ⟨(ad268.add (((rd ((rd_T43 t264 x6_1).f1) x7_2)).toNat * 34)).block, (ad268.add (((rd ((rd_T43 t264 x6_1).f1) x7_2)).toNat * 34)).off + 12, none⟩ = some (.int .u32 ((rd_T43 t264 (rd ((rd_T43 t264 x6_1).f1) x7_2)).f2.f3.f0.f2)) ∧ w'.cell? ⟨(ad268.add (((rd ((rd_T43 t264 x6_1).f1) x7_2)).toNat * 34)).block, (ad268.add (((rd ((rd_T43 t264 x6_1).f1) x7_2)).toNat * 34)).off + 13, none⟩ = some (.int .i64 ((rd_T43 t264 (rd ((rd_T43 t264 x6_1).f1) x7_2)).f2.f3.f1.f0)) ∧ w'.cell? ⟨(ad268.add (((rd ((rd_T43 t264 x6_1).f1) x7_2)).toNat * 34)).block, (ad268.add (((rd ((rd_T43 t264 x6_1).f1) x7_2)).toNat * 34)).off + 14, none⟩ = some (.int .i64 ((rd_T43 t264 (rd ((rd_T43 t264 x6_1).f1) x7_2)).f2.f3.f1.f1)) ∧ w'.cell? ⟨(ad268.add (((rd ((rd_T43 t264 x6_1).f1) x7_2)).toNat * 34)).block, (ad268.add (((rd ((rd_T43 t264 x6_1).f1) x7_2)).toNat * 34)).off + 15, none⟩ = some (.int .u32 ((rd_T43 t264 (rd ((rd_T43 t264 x6_1).f1) x7_2)).f2.f3.f1.f2)) ∧ w'.cell? ⟨(ad268.add (((rd ((rd_T43 t264 x6_1).f1) x7_2)).toNat * 34)).block, (ad268.add (((rd ((rd_T43 t264 x6_1).f1) x7_2)).toNat * 34)).off + 16, none⟩ = some (.int .i64 ((rd_T43 t264 (rd ((rd_T43 t264 x6_1).f1) x7_2)).f2.f3.f2.f0)) ∧ w'.cell? ⟨(ad268.add (((rd ((rd_T43 t264 x6_1).f1) x7_2)).toNat * 34)).block, (ad268.add (((rd ((rd_T43 t264 x6_1).f1) x7_2)).toNat * 34)).off + 17, none⟩ = some (.int .i64 ((rd_T43 t264 (rd ((rd_T43 t264 x6_1).f1) x7_2)).f2.f3.f2.f1)) ∧ w'.cell? ⟨(ad268.add (((rd ((rd_T43 t264 x6_1).f1) x7_2)).toNat * 34)).block, (ad268.add (((rd ((rd_T43 t264 x6_1).f1) x7_2)).toNat * 34)).off + 18, none⟩ = some (.int .u32 ((rd_T43 t264 (rd ((rd_T43 t264 x6_1).f1) x7_2)).f2.f3.f2.f2)) ∧ w'.cell? ⟨(ad268.add (((rd ((rd_T43 t264 x6_1).f1) x7_2)).toNat * 34)).block, (ad268.add (((rd ((rd_T43 t264 x6_1).f1) x7_2)).toNat * 34)).off + 19, none⟩ = some (.int .i64 ((rd_T43 t264 (rd ((rd_T43 t264 x6_1).f1) x7_2)).f2.f3.f3.f0)) ∧ w'.cell? ⟨(ad268.add (((rd ((rd_T43 t264 x6_1).f1) x7_2)).toNat * 34)).block, (ad268.add (((rd ((rd_T43 t264 x6_1).f1) x7_2)).toNat * 34)).off + 20, none⟩ = some (.int .i64 ((rd_T43 t264 (rd ((rd_T43 t264 x6_1).f1) x7_2)).f2.f3.f3.f1)) ∧ w'.cell? ⟨(ad268.add (((rd ((rd_T43 t264 x6_1).f1) x7_2)).toNat * 34)).block, (ad268.add (((rd ((rd_T43 t264 x6_1).f1) x7_2)).toNat * 34)).off + 21, none⟩ = some (.int .u32 ((rd_T43 t264 (rd ((rd_T43 t264 x6_1).f1) x7_2)).f2.f3.f3.f2)) ∧ w'.cell? ⟨(ad268.add (((rd ((rd_T43 t264 x6_1).f1) x7_2)).toNat * 34)).block, (ad268.add (((rd ((rd_T43 t264 x6_1).f1) x7_2)).toNat * 34)).off + 22, none⟩ = some (.int .i64 ((rd_T43 t264 (rd ((rd_T43 t264 x6_1).f1) x7_2)).f2.f4)) ∧ w'.cell? ⟨(ad268.add (((rd ((rd_T43 t264 x6_1).f1) x7_2)).toNat * 34)).block, (ad268.add (((rd ((rd_T43 t264 x6_1).f1) x7_2)).toNat * 34)).off + 23, none⟩ = some (.int .i64 ((rd_T43 t264 (rd ((rd_T43 t264 x6_1).f1) x7_2)).f2.f5)) ∧ w'.cell? ⟨(ad268.add (((rd ((rd_T43 t264 x6_1).f1) x7_2)).toNat * 34)).block, (ad268.add (((rd ((rd_T43 t264 x6_1).f1) x7_2)).toNat * 34)).off + 24, none⟩ = some (.int .i64 ((rd_T43 t264 (rd ((rd_T43 t264 x6_1).f1) x7_2)).f2.f6)) ∧ w'.cell? ⟨(ad268.add (((rd ((rd_T43 t264 x6_1).f1) x7_2)).toNat * 34)).block, (ad268.add (((rd ((rd_T43 t264 x6_1).f1) x7_2)).toNat * 34)).off + 25, none⟩ = some (.bool ((rd_T43 t264 (rd ((rd_T43 t264 x6_1).f1) x7_2)).f2.f7)) ∧ w'.cell? ⟨(ad268.add (((rd ((rd_T43 t264 x6_1).f1) x7_2)).toNat * 34)).block, (ad268.add (((rd ((rd_T43 t264 x6_1).f1) x7_2)).toNat * 34)).off + 26, none⟩ = some (.bool ((rd_T43 t264 (rd ((rd_T43 t264 x6_1).f1) x7_2)).f2.f8)) ∧ w'.cell? ⟨(ad268.add (((rd ((rd_T43 t264 x6_1).f1) x7_2)).toNat * 34)).block, (ad268.add (((rd ((rd_T43 t264 x6_1).f1) x7_2)).toNat * 34)).off + 27, none⟩ = some (.int .i64 ((rd_T43 t264 (rd ((rd_T43 t264 x6_1).f1) x7_2)).f2.f9.f0)) ∧ w'.cell? ⟨(ad268.add (((rd ((rd_T43 t264 x6_1).f1) x7_2)).toNat * 34)).block, (ad268.add (((rd ((rd_T43 t264 x6_1).f1) x7_2)).toNat * 34)).off + 28, none⟩ = some (.int .i64 ((rd_T43 t264 (rd ((rd_T43 t264 x6_1).f1) x7_2)).f2.f9.f1)) ∧ w'.cell? ⟨(ad268.add (((rd ((rd_T43 t264 x6_1).f1) x7_2)).toNat * 34)).block, (ad268.add (((rd ((rd_T43 t264 x6_1).f1) x7_2)).toNat * 34)).off + 29, none⟩ = some (.bool ((rd_T43 t264 (rd ((rd_T43 t264 x6_1).f1) x7_2)).f2.f10)) ∧ w'.cell? ⟨(ad268.add (((rd ((rd_T43 t264 x6_1).f1) x7_2)).toNat * 34)).block, (ad268.add (((rd ((rd_T43 t264 x6_1).f1) x7_2)).toNat * 34)).off + 30, none⟩ = some (.bool ((rd_T43 t264 (rd ((rd_T43 t264 x6_1).f1) x7_2)).f2.f11)) ∧ w'.cell? ⟨(ad268.add (((rd ((rd_T43 t264 x6_1).f1) x7_2)).toNat * 34)).block, (ad268.add (((rd ((rd_T43 t264 x6_1).f1) x7_2)).toNat * 34)).off + 31, none⟩ = some (.slice A272_31 ((rd_T43 t264 (rd ((rd_T43 t264 x6_1).f1) x7_2)).f3).length c272_31) ∧ w'.cell? ⟨(ad268.add (((rd ((rd_T43 t264 x6_1).f1) x7_2)).toNat * 34)).block, (ad268.add (((rd ((rd_T43 t264 x6_1).f1) x7_2)).toNat * 34)).off + 32, none⟩ = some (.int .i64 ((rd_T43 t264 (rd ((rd_T43 t264 x6_1).f1) x7_2)).f4)) ∧ w'.cell? ⟨(ad268.add (((rd ((rd_T43 t264 x6_1).f1) x7_2)).toNat * 34)).block, (ad268.add (((rd ((rd_T43 t264 x6_1).f1) x7_2)).toNat * 34)).off + 33, none⟩ = some (.int .i64 ((rd_T43 t264 (rd ((rd_T43 t264 x6_1).f1) x7_2)).f5))) (ds := []) #[false, false, false, false, false, false, false, false, false, false, false, false, false, false, false, false, false, false, false, false, false, false] (by kernel_rfl) rfl rfl ⟨hx271_0, hx271_1, hx271_2, hx271_3, hx271_4, hx271_5, hx271_6, hx271_7, hx271_8, hx271_9, hx271_10, hx271_11, hx271_12, hx271_13, hx271_14, hx271_15, hx271_16, hx271_17, hx271_18, hx271_19, hx271_20, hx271_21, hx271_22, hx271_23, hx271_24, hx271_25, hx271_26, hx271_27, hx271_28, hx271_29, hx271_30, hx271_31, hx271_32, hx271_33, hx272_0, hx272_1, hx272_2, hx272_3, hx272_4, hx272_5, hx272_6, hx272_7, hx272_8, hx272_9, hx272_10, hx272_11, hx272_12, hx272_13, hx272_14, hx272_15, hx272_16, hx272_17, hx272_18, hx272_19, hx272_20, hx272_21, hx272_22, hx272_23, hx272_24, hx272_25, hx272_26, hx272_27, hx272_28, hx272_29, hx272_30, hx272_31, hx272_32, hx272_33⟩ (fun hHeld => ?_); refine with_tabW purflinglaw05_FixupStands.tab12 purflinglaw05_FixupStands.bits12 (fun HT_ HW_ => ?_)
                           generalize wr.drew = w24 at HO_4 HL268_1 HL268_31 HL269_1 HL269_31 HR268_1 HR268_31 HR269_1 HR269_31 HB HL271_1 HL271_31 HL272_1 HL272_31 HR271_1 HR271_31 HR272_1 HR272_31 hx271_0 hx271_1 hx271_10 hx271_11 hx271_12 hx271_13 hx271_14 hx271_15 hx271_16 hx271_17 hx271_18 hx271_19 hx271_2 hx271_20 hx271_21 hx271_22 hx271_23 hx271_24 hx271_25 hx271_26 hx271_27 hx271_28 hx271_29 hx271_3 hx271_30 hx271_31 hx271_32 hx271_33 hx271_4 hx271_5 hx271_6 hx271_7 hx271_8 hx271_9 hx272_0 hx272_1 hx272_10 hx272_11 hx272_12 hx272_13 hx272_14 hx272_15 hx272_16 hx272_17 hx272_18 hx272_19 hx272_2 hx272_20 hx272_21 hx272_22 hx272_23 hx272_24 hx272_25 hx272_26 hx272_27 hx272_28 hx272_29 hx272_3 hx272_30 hx272_31 hx272_32 hx272_33 hx272_4 hx272_5 hx272_6 hx272_7 hx272_8 hx272_9 hHeld ⊢
                           refine pure_ (i := 0) (N := some 43) (v := ?_) (a' := ?_) #[true, false, false, false, false, false, false, false, false, false, false, false, false, false, false, false, false, false, false, false, false, false] rfl rfl (any_of HT_.out (by kernel_rfl)) (fun _ _ _ h => h) (Or.inl ⟨by rfl, ?_⟩) ?_ ?_
                           rotate_left
                           · intro w'
                             go_simp
                             with_reducible rfl
                           rotate_left
                           · simp only [Act.put, List.setIfInBounds_toArray, List.set_cons_zero, List.set_cons_succ, i64_w, i32_w]
                             rfl
                           refine pure_ (i := 1) (N := some 44) (v := ?_) (a' := ?_) #[true, true, false, false, false, false, false, false, false, false, false, false, false, false, false, false, false, false, false, false, false, false] rfl rfl (any_of HT_.out (by kernel_rfl)) (fun _ _ _ h => h) (Or.inl ⟨by rfl, ?_⟩) ?_ ?_
                           rotate_left
                           · intro w'
                             go_simp
                             with_reducible rfl
                           rotate_left
                           · simp only [Act.put, List.setIfInBounds_toArray, List.set_cons_zero, List.set_cons_succ, i64_w, i32_w]
                             rfl
                           refine pure_ (i := 2) (N := some 45) (v := ?_) (a' := ?_) #[true, true, true, false, false, false, false, false, false, false, false, false, false, false, false, false, false, false, false, false, false, false] rfl rfl (any_of HT_.out (by kernel_rfl)) (fun _ _ _ h => h) (Or.inl ⟨by rfl, ?_⟩) ?_ ?_
                           rotate_left
                           · intro w'
                             go_simp
                             with_reducible rfl
                           rotate_left
                           · simp only [Act.put, List.setIfInBounds_toArray, List.set_cons_zero, List.set_cons_succ, i64_w, i32_w]
                             rfl
                           refine pure_ (i := 3) (N := some 46) (v := ?_) (a' := ?_) #[true, true, true, true, false, false, false, false, false, false, false, false, false, false, false, false, false, false, false, false, false, false] rfl rfl (any_of HT_.out (by kernel_rfl)) (fun _ _ _ h => h) (Or.inl ⟨by rfl, ?_⟩) ?_ ?_
                           rotate_left
                           · intro w'
                             go_simp
                             with_reducible rfl
                           rotate_left
                           · simp only [Act.put, List.setIfInBounds_toArray, List.set_cons_zero, List.set_cons_succ, i64_w, i32_w]
                             rfl
                           refine pure_ (i := 4) (N := some 47) (v := ?_) (a' := ?_) #[true, true, true, true, true, false, false, false, false, false, false, false, false, false, false, false, false, false, false, false, false, false] rfl rfl (any_of HT_.out (by kernel_rfl)) (fun _ _ _ h => h) (Or.inl ⟨by rfl, ?_⟩) ?_ ?_
                           rotate_left
                           · intro w'
                             go_simp
                             with_reducible rfl
                           rotate_left
                           · simp only [Act.put, List.setIfInBounds_toArray, List.set_cons_zero, List.set_cons_succ, i64_w, i32_w]
                             rfl
                           refine pure_ (i := 5) (N := some 48) (v := ?_) (a' := ?_) #[true, true, true, true, true, true, false, false, false, false, false, false, false, false, false, false, false, false, false, false, false, false] rfl rfl (any_of HT_.out (by kernel_rfl)) (fun _ _ _ h => h) (Or.inl ⟨by rfl, ?_⟩) ?_ ?_
                           rotate_left
                           · intro w'
                             go_simp
                             with_reducible rfl
                           rotate_left
                           · simp only [Act.put, List.setIfInBounds_toArray, List.set_cons_zero, List.set_cons_succ, i64_w, i32_w]
                             rfl
                           refine pure_ (i := 6) (N := some 49) (v := ?_) (a' := ?_) #[true, true, true, true, true, true, true, false, false, false, false, false, false, false, false, false, false, false, false, false, false, false] rfl rfl (any_of HT_.out (by kernel_rfl)) (fun _ _ _ h => h) (Or.inl ⟨by rfl, ?_⟩) ?_ ?_
                           rotate_left
                           · intro w'
                             go_simp
                             with_reducible rfl
                           rotate_left
                           · simp only [Act.put, List.setIfInBounds_toArray, List.set_cons_zero, List.set_cons_succ, i64_w, i32_w]
                             rfl
                           refine pure_ (i := 7) (N := some 50) (v := ?_) (a' := ?_) #[true, true, true, true, true, true, true, true, false, false, false, false, false, false, false, false, false, false, false, false, false, false] rfl rfl (any_of HT_.out (by kernel_rfl)) (fun _ _ _ h => h) (Or.inl ⟨by rfl, ?_⟩) ?_ ?_
                           rotate_left
                           · intro w'
                             go_simp
                             with_reducible rfl
                           rotate_left
                           · simp only [Act.put, List.setIfInBounds_toArray, List.set_cons_zero, List.set_cons_succ, i64_w, i32_w]
                             rfl
                           refine pure_ (i := 8) (N := some 51) (v := ?_) (a' := ?_) #[true, true, true, true, true, true, true, true, true, false, false, false, false, false, false, false, false, false, false, false, false, false] rfl rfl (any_of HT_.out (by kernel_rfl)) (fun _ _ _ h => h) (Or.inl ⟨by rfl, ?_⟩) ?_ ?_
                           rotate_left
                           · intro w'
                             go_simp
                             with_reducible rfl
                           rotate_left
                           · simp only [Act.put, List.setIfInBounds_toArray, List.set_cons_zero, List.set_cons_succ, i64_w, i32_w]
                             rfl
                           refine pure_ (i := 9) (N := some 52) (v := ?_) (a' := ?_) #[true, true, true, true, true, true, true, true, true, true, false, false, false, false, false, false, false, false, false, false, false, false] rfl rfl (any_of HT_.out (by kernel_rfl)) (fun _ _ _ h => h) (Or.inl ⟨by rfl, ?_⟩) ?_ ?_
                           rotate_left
                           · intro w'
                             go_simp
                             with_reducible rfl
                           rotate_left
                           · simp only [Act.put, List.setIfInBounds_toArray, List.set_cons_zero, List.set_cons_succ, i64_w, i32_w]
                             rfl
                           refine pure_ (i := 10) (N := some 53) (v := ?_) (a' := ?_) #[true, true, true, true, true, true, true, true, true, true, true, false, false, false, false, false, false, false, false, false, false, false] rfl rfl (any_of HT_.out (by kernel_rfl)) (fun _ _ _ h => h) (Or.inl ⟨by rfl, ?_⟩) ?_ ?_
                           rotate_left
                           · intro w'
                             go_simp
                             with_reducible rfl
                           rotate_left
                           · simp only [Act.put, List.setIfInBounds_toArray, List.set_cons_zero, List.set_cons_succ, i64_w, i32_w]
                             rfl
                           refine pure_ (i := 11) (N := some 54) (v := ?_) (a' := ?_) #[true, true, true, true, true, true, true, true, true, true, true, true, false, false, false, false, false, false, false, false, false, false] rfl rfl (any_of HT_.out (by kernel_rfl)) (fun _ _ _ h => h) (Or.inl ⟨by rfl, ?_⟩) ?_ ?_
                           rotate_left
                           · intro w'
                             go_simp
                             with_reducible rfl
                           rotate_left
                           · simp only [Act.put, List.setIfInBounds_toArray, List.set_cons_zero, List.set_cons_succ, i64_w, i32_w]
                             rfl
                           refine pure_ (i := 12) (N := some 55) (v := ?_) (a' := ?_) #[true, true, true, true, true, true, true, true, true, true, true, true, true, false, false, false, false, false, false, false, false, false] rfl rfl (any_of HT_.out (by kernel_rfl)) (fun _ _ _ h => h) (Or.inl ⟨by rfl, ?_⟩) ?_ ?_
                           rotate_left
                           · intro w'
                             go_simp
                             with_reducible rfl
                           rotate_left
                           · simp only [Act.put, List.setIfInBounds_toArray, List.set_cons_zero, List.set_cons_succ, i64_w, i32_w]
                             rfl
                           refine pure_ (i := 14) (N := some 57) (v := ?_) (a' := ?_) #[true, true, true, true, true, true, true, true, true, true, true, true, true, false, true, false, false, false, false, false, false, false] rfl rfl (any_of HT_.out (by kernel_rfl)) (fun _ _ _ h => h) (Or.inl ⟨by rfl, ?_⟩) ?_ ?_
                           rotate_left
                           · intro w'
                             go_simp
                             with_reducible rfl
                           rotate_left
                           · simp only [Act.put, List.setIfInBounds_toArray, List.set_cons_zero, List.set_cons_succ, i64_w, i32_w]
                             rfl
                           refine pure_ (i := 15) (N := some 58) (v := ?_) (a' := ?_) #[true, true, true, true, true, true, true, true, true, true, true, true, true, false, true, true, false, false, false, false, false, false] rfl rfl (any_of HT_.out (by kernel_rfl)) (fun _ _ _ h => h) (Or.inl ⟨by rfl, ?_⟩) ?_ ?_
                           rotate_left
                           · intro w'
                             go_simp
                             with_reducible rfl
                           rotate_left
                           · simp only [Act.put, List.setIfInBounds_toArray, List.set_cons_zero, List.set_cons_succ, i64_w, i32_w]
                             rfl
                           refine pure_ (i := 16) (N := some 59) (v := ?_) (a' := ?_) #[true, true, true, true, true, true, true, true, true, true, true, true, true, false, true, true, true, false, false, false, false, false] rfl rfl (any_of HT_.out (by kernel_rfl)) (fun _ _ _ h => h) (Or.inl ⟨by rfl, ?_⟩) ?_ ?_
                           rotate_left
                           · intro w'
                             go_simp
                             with_reducible rfl
                           rotate_left
                           · simp only [Act.put, List.setIfInBounds_toArray, List.set_cons_zero, List.set_cons_succ, i64_w, i32_w]
                             rfl
                           refine pure_ (i := 17) (N := some 60) (v := ?_) (a' := ?_) #[true, true, true, true, true, true, true, true, true, true, true, true, true, false, true, true, true, true, false, false, false, false] rfl rfl (any_of HT_.out (by kernel_rfl)) (fun _ _ _ h => h) (Or.inl ⟨by rfl, ?_⟩) ?_ ?_
                           rotate_left
                           · intro w'
                             go_simp
                             with_reducible rfl
                           rotate_left
                           · simp only [Act.put, List.setIfInBounds_toArray, List.set_cons_zero, List.set_cons_succ, i64_w, i32_w]
                             rfl
                           refine take_ (i := 13) (N := some 56) (v := ?_) (a' := ?_) #[true, true, true, true, true, true, true, true, true, true, true, true, true, true, true, true, true, true, false, false, false, false] rfl rfl (take_ofW HT_.out HW_.out (by kernel_rfl)) (fun _ _ _ h => h) (Or.inl ⟨by rfl, ?_⟩) hHeld ?_ ?_
                           rotate_left
                           · rintro w' ⟨s0, s1, s2, s3, s4, s5, s6, s7, s8, s9, s10, s11, s12, s13, s14, s15, s16, s17, s18, s19, s20, s21, s22, s23, s24, s25, s26, s27, s28, s29, s30, s31, s32, s33, s34, s35, s36, s37, s38, s39, s40, s41, s42, s43, s44, s45, s46, s47, s48, s49, s50, s51, s52, s53, s54, s55, s56, s57, s58, s59, s60, s61, s62, s63, s64, s65, s66, s67⟩
                             go_simp
                             with_reducible rfl
                           rotate_left
                           · simp only [Act.put, List.setIfInBounds_toArray, List.set_cons_zero, List.set_cons_succ, i64_w, i32_w]
                             rfl
                           refine take_ (i := 18) (N := some 61) (v := ?_) (a' := ?_) #[true, true, true, true, true, true, true, true, true, true, true, true, true, true, true, true, true, true, true, false, false, false] rfl rfl (take_ofW HT_.out HW_.out (by kernel_rfl)) (fun _ _ _ h => h) (Or.inl ⟨by rfl, ?_⟩) hHeld ?_ ?_
                           rotate_left
                           · rintro w' ⟨s0, s1, s2, s3, s4, s5, s6, s7, s8, s9, s10, s11, s12, s13, s14, s15, s16, s17, s18, s19, s20, s21, s22, s23, s24, s25, s26, s27, s28, s29, s30, s31, s32, s33, s34, s35, s36, s37, s38, s39, s40, s41, s42, s43, s44, s45, s46, s47, s48, s49, s50, s51, s52, s53, s54, s55, s56, s57, s58, s59, s60, s61, s62, s63, s64, s65, s66, s67⟩
                             go_simp
                             with_reducible rfl
                           rotate_left
                           · simp only [Act.put, List.setIfInBounds_toArray, List.set_cons_zero, List.set_cons_succ, i64_w, i32_w]
                             rfl
                           refine one_ (i := 19) (N := some 62) #[true, true, true, true, true, true, true, true, true, true, true, true, true, true, true, true, true, true, true, true, false, false] rfl rfl (one_of HT_.out (by kernel_rfl)) (by decide) (fun K hK => ?_)
                           refine goes_ Try.func11 (by kernel_rfl) rfl #[.int .i64 ((rd_T43 t264 x6_1).f0), .int .i64 ((rd_T43 t264 (rd ((rd_T43 t264 x6_1).f1) x7_2)).f0)] (by rfl) rfl rfl (by (try simp only [List.map_toArray, List.map_cons, List.map_nil]); first | done | rfl | (simp only [List.length_drop, List.length_take]; rfl)) ?_
                           with_reducible refine (fixup_May.calls ((rd_T43 t264 x6_1).f0) ((rd_T43 t264 (rd ((rd_T43 t264 x6_1).f1) x7_2)).f0) true _ A22.out).mono ?_
                           rintro e w25 ⟨rfl, hb⟩
                           have HS0_ := (hb.cell (World.block_lt_of_cell? _ _ (hHeld.1))).trans (hHeld.1)
                           have HS1_ := (hb.cell (World.block_lt_of_cell? _ _ (hHeld.2.1))).trans (hHeld.2.1)
                           have HS2_ := (hb.cell (World.block_lt_of_cell? _ _ (hHeld.2.2.1))).trans (hHeld.2.2.1)
                           have HS3_ := (hb.cell (World.block_lt_of_cell? _ _ (hHeld.2.2.2.1))).trans (hHeld.2.2.2.1)
                           have HS4_ := (hb.cell (World.block_lt_of_cell? _ _ (hHeld.2.2.2.2.1))).trans (hHeld.2.2.2.2.1)
                           have HS5_ := (hb.cell (World.block_lt_of_cell? _ _ (hHeld.2.2.2.2.2.1))).trans (hHeld.2.2.2.2.2.1)
                           have HS6_ := (hb.cell (World.block_lt_of_cell? _ _ (hHeld.2.2.2.2.2.2.1))).trans (hHeld.2.2.2.2.2.2.1)
                           have HS7_ := (hb.cell (World.block_lt_of_cell? _ _ (hHeld.2.2.2.2.2.2.2.1))).trans (hHeld.2.2.2.2.2.2.2.1)
                           have HS8_ := (hb.cell (World.block_lt_of_cell? _ _ (hHeld.2.2.2.2.2.2.2.2.1))).trans (hHeld.2.2.2.2.2.2.2.2.1)
                           have HS9_ := (hb.cell (World.block_lt_of_cell? _ _ (hHeld.2.2.2.2.2.2.2.2.2.1))).trans (hHeld.2.2.2.2.2.2.2.2.2.1)
                           have HS10_ := (hb.cell (World.block_lt_of_cell? _ _ (hHeld.2.2.2.2.2.2.2.2.2.2.1))).trans (hHeld.2.2.2.2.2.2.2.2.2.2.1)
                           have HS11_ := (hb.cell (World.block_lt_of_cell? _ _ (hHeld.2.2.2.2.2.2.2.2.2.2.2.1))).trans (hHeld.2.2.2.2.2.2.2.2.2.2.2.1)
                           have HS12_ := (hb.cell (World.block_lt_of_cell? _ _ (hHeld.2.2.2.2.2.2.2.2.2.2.2.2.1))).trans (hHeld.2.2.2.2.2.2.2.2.2.2.2.2.1)
                           have HS13_ := (hb.cell (World.block_lt_of_cell? _ _ (hHeld.2.2.2.2.2.2.2.2.2.2.2.2.2.1))).trans (hHeld.2.2.2.2.2.2.2.2.2.2.2.2.2.1)
                           have HS14_ := (hb.cell (World.block_lt_of_cell? _ _ (hHeld.2.2.2.2.2.2.2.2.2.2.2.2.2.2.1))).trans (hHeld.2.2.2.2.2.2.2.2.2.2.2.2.2.2.1)
                           have HS15_ := (hb.cell (World.block_lt_of_cell? _ _ (hHeld.2.2.2.2.2.2.2.2.2.2.2.2.2.2.2.1))).trans (hHeld.2.2.2.2.2.2.2.2.2.2.2.2.2.2.2.1)
                           have HS16_ := (hb.cell (World.block_lt_of_cell? _ _ (hHeld.2.2.2.2.2.2.2.2.2.2.2.2.2.2.2.2.1))).trans (hHeld.2.2.2.2.2.2.2.2.2.2.2.2.2.2.2.2.1)
                           have HS17_ := (hb.cell (World.block_lt_of_cell? _ _ (hHeld.2.2.2.2.2.2.2.2.2.2.2.2.2.2.2.2.2.1))).trans (hHeld.2.2.2.2.2.2.2.2.2.2.2.2.2.2.2.2.2.1)
                           have HS18_ := (hb.cell (World.block_lt_of_cell? _ _ (hHeld.2.2.2.2.2.2.2.2.2.2.2.2.2.2.2.2.2.2.1))).trans (hHeld.2.2.2.2.2.2.2.2.2.2.2.2.2.2.2.2.2.2.1)
                           have HS19_ := (hb.cell (World.block_lt_of_cell? _ _ (hHeld.2.2.2.2.2.2.2.2.2.2.2.2.2.2.2.2.2.2.2.1))).trans (hHeld.2.2.2.2.2.2.2.2.2.2.2.2.2.2.2.2.2.2.2.1)
                           have HS20_ := (hb.cell (World.block_lt_of_cell? _ _ (hHeld.2.2.2.2.2.2.2.2.2.2.2.2.2.2.2.2.2.2.2.2.1))).trans (hHeld.2.2.2.2.2.2.2.2.2.2.2.2.2.2.2.2.2.2.2.2.1)
                           have HS21_ := (hb.cell (World.block_lt_of_cell? _ _ (hHeld.2.2.2.2.2.2.2.2.2.2.2.2.2.2.2.2.2.2.2.2.2.1))).trans (hHeld.2.2.2.2.2.2.2.2.2.2.2.2.2.2.2.2.2.2.2.2.2.1)
                           have HS22_ := (hb.cell (World.block_lt_of_cell? _ _ (hHeld.2.2.2.2.2.2.2.2.2.2.2.2.2.2.2.2.2.2.2.2.2.2.1))).trans (hHeld.2.2.2.2.2.2.2.2.2.2.2.2.2.2.2.2.2.2.2.2.2.2.1)
                           have HS23_ := (hb.cell (World.block_lt_of_cell? _ _ (hHeld.2.2.2.2.2.2.2.2.2.2.2.2.2.2.2.2.2.2.2.2.2.2.2.1))).trans (hHeld.2.2.2.2.2.2.2.2.2.2.2.2.2.2.2.2.2.2.2.2.2.2.2.1)
                           have HS24_ := (hb.cell (World.block_lt_of_cell? _ _ (hHeld.2.2.2.2.2.2.2.2.2.2.2.2.2.2.2.2.2.2.2.2.2.2.2.2.1))).trans (hHeld.2.2.2.2.2.2.2.2.2.2.2.2.2.2.2.2.2.2.2.2.2.2.2.2.1)
                           have HS25_ := (hb.cell (World.block_lt_of_cell? _ _ (hHeld.2.2.2.2.2.2.2.2.2.2.2.2.2.2.2.2.2.2.2.2.2.2.2.2.2.1))).trans (hHeld.2.2.2.2.2.2.2.2.2.2.2.2.2.2.2.2.2.2.2.2.2.2.2.2.2.1)
                           have HS26_ := (hb.cell (World.block_lt_of_cell? _ _ (hHeld.2.2.2.2.2.2.2.2.2.2.2.2.2.2.2.2.2.2.2.2.2.2.2.2.2.2.1))).trans (hHeld.2.2.2.2.2.2.2.2.2.2.2.2.2.2.2.2.2.2.2.2.2.2.2.2.2.2.1)
                           have HS27_ := (hb.cell (World.block_lt_of_cell? _ _ (hHeld.2.2.2.2.2.2.2.2.2.2.2.2.2.2.2.2.2.2.2.2.2.2.2.2.2.2.2.1))).trans (hHeld.2.2.2.2.2.2.2.2.2.2.2.2.2.2.2.2.2.2.2.2.2.2.2.2.2.2.2.1)
                           have HS28_ := (hb.cell (World.block_lt_of_cell? _ _ (hHeld.2.2.2.2.2.2.2.2.2.2.2.2.2.2.2.2.2.2.2.2.2.2.2.2.2.2.2.2.1))).trans (hHeld.2.2.2.2.2.2.2.2.2.2.2.2.2.2.2.2.2.2.2.2.2.2.2.2.2.2.2.2.1)
                           have HS29_ := (hb.cell (World.block_lt_of_cell? _ _ (hHeld.2.2.2.2.2.2.2.2.2.2.2.2.2.2.2.2.2.2.2.2.2.2.2.2.2.2.2.2.2.1))).trans (hHeld.2.2.2.2.2.2.2.2.2.2.2.2.2.2.2.2.2.2.2.2.2.2.2.2.2.2.2.2.2.1)
                           have HS30_ := (hb.cell (World.block_lt_of_cell? _ _ (hHeld.2.2.2.2.2.2.2.2.2.2.2.2.2.2.2.2.2.2.2.2.2.2.2.2.2.2.2.2.2.2.1))).trans (hHeld.2.2.2.2.2.2.2.2.2.2.2.2.2.2.2.2.2.2.2.2.2.2.2.2.2.2.2.2.2.2.1)
                           have HS31_ := (hb.cell (World.block_lt_of_cell? _ _ (hHeld.2.2.2.2.2.2.2.2.2.2.2.2.2.2.2.2.2.2.2.2.2.2.2.2.2.2.2.2.2.2.2.1))).trans (hHeld.2.2.2.2.2.2.2.2.2.2.2.2.2.2.2.2.2.2.2.2.2.2.2.2.2.2.2.2.2.2.2.1)
                           have HS32_ := (hb.cell (World.block_lt_of_cell? _ _ (hHeld.2.2.2.2.2.2.2.2.2.2.2.2.2.2.2.2.2.2.2.2.2.2.2.2.2.2.2.2.2.2.2.2.1))).trans (hHeld.2.2.2.2.2.2.2.2.2.2.2.2.2.2.2.2.2.2.2.2.2.2.2.2.2.2.2.2.2.2.2.2.1)
                           have HS33_ := (hb.cell (World.block_lt_of_cell? _ _ (hHeld.2.2.2.2.2.2.2.2.2.2.2.2.2.2.2.2.2.2.2.2.2.2.2.2.2.2.2.2.2.2.2.2.2.1))).trans (hHeld.2.2.2.2.2.2.2.2.2.2.2.2.2.2.2.2.2.2.2.2.2.2.2.2.2.2.2.2.2.2.2.2.2.1)
                           have HS34_ := (hb.cell (World.block_lt_of_cell? _ _ (hHeld.2.2.2.2.2.2.2.2.2.2.2.2.2.2.2.2.2.2.2.2.2.2.2.2.2.2.2.2.2.2.2.2.2.2.1))).trans (hHeld.2.2.2.2.2.2.2.2.2.2.2.2.2.2.2.2.2.2.2.2.2.2.2.2.2.2.2.2.2.2.2.2.2.2.1)
                           have HS35_ := (hb.cell (World.block_lt_of_cell? _ _ (hHeld.2.2.2.2.2.2.2.2.2.2.2.2.2.2.2.2.2.2.2.2.2.2.2.2.2.2.2.2.2.2.2.2.2.2.2.1))).trans (hHeld.2.2.2.2.2.2.2.2.2.2.2.2.2.2.2.2.2.2.2.2.2.2.2.2.2.2.2.2.2.2.2.2.2.2.2.1)
                           have HS36_ := (hb.cell (World.block_lt_of_cell? _ _ (hHeld.2.2.2.2.2.2.2.2.2.2.2.2.2.2.2.2.2.2.2.2.2.2.2.2.2.2.2.2.2.2.2.2.2.2.2.2.1))).trans (hHeld.2.2.2.2.2.2.2.2.2.2.2.2.2.2.2.2.2.2.2.2.2.2.2.2.2.2.2.2.2.2.2.2.2.2.2.2.1)
                           have HS37_ := (hb.cell (World.block_lt_of_cell? _ _ (hHeld.2.2.2.2.2.2.2.2.2.2.2.2.2.2.2.2.2.2.2.2.2.2.2.2.2.2.2.2.2.2.2.2.2.2.2.2.2.1))).trans (hHeld.2.2.2.2.2.2.2.2.2.2.2.2.2.2.2.2.2.2.2.2.2.2.2.2.2.2.2.2.2.2.2.2.2.2.2.2.2.1)
                           have HS38_ := (hb.cell (World.block_lt_of_cell? _ _ (hHeld.2.2.2.2.2.2.2.2.2.2.2.2.2.2.2.2.2.2.2.2.2.2.2.2.2.2.2.2.2.2.2.2.2.2.2.2.2.2.1))).trans (hHeld.2.2.2.2.2.2.2.2.2.2.2.2.2.2.2.2.2.2.2.2.2.2.2.2.2.2.2.2.2.2.2.2.2.2.2.2.2.2.1)
                           have HS39_ := (hb.cell (World.block_lt_of_cell? _ _ (hHeld.2.2.2.2.2.2.2.2.2.2.2.2.2.2.2.2.2.2.2.2.2.2.2.2.2.2.2.2.2.2.2.2.2.2.2.2.2.2.2.1))).trans (hHeld.2.2.2.2.2.2.2.2.2.2.2.2.2.2.2.2.2.2.2.2.2.2.2.2.2.2.2.2.2.2.2.2.2.2.2.2.2.2.2.1)
                           have HS40_ := (hb.cell (World.block_lt_of_cell? _ _ (hHeld.2.2.2.2.2.2.2.2.2.2.2.2.2.2.2.2.2.2.2.2.2.2.2.2.2.2.2.2.2.2.2.2.2.2.2.2.2.2.2.2.1))).trans (hHeld.2.2.2.2.2.2.2.2.2.2.2.2.2.2.2.2.2.2.2.2.2.2.2.2.2.2.2.2.2.2.2.2.2.2.2.2.2.2.2.2.1)
                           have HS41_ := (hb.cell (World.block_lt_of_cell? _ _ (hHeld.2.2.2.2.2.2.2.2.2.2.2.2.2.2.2.2.2.2.2.2.2.2.2.2.2.2.2.2.2.2.2.2.2.2.2.2.2.2.2.2.2.1))).trans (hHeld.2.2.2.2.2.2.2.2.2.2.2.2.2.2.2.2.2.2.2.2.2.2.2.2.2.2.2.2.2.2.2.2.2.2.2.2.2.2.2.2.2.1)
                           have HS42_ := (hb.cell (World.block_lt_of_cell? _ _ (hHeld.2.2.2.2.2.2.2.2.2.2.2.2.2.2.2.2.2.2.2.2.2.2.2.2.2.2.2.2.2.2.2.2.2.2.2.2.2.2.2.2.2.2.1))).trans (hHeld.2.2.2.2.2.2.2.2.2.2.2.2.2.2.2.2.2.2.2.2.2.2.2.2.2.2.2.2.2.2.2.2.2.2.2.2.2.2.2.2.2.2.1)
                           have HS43_ := (hb.cell (World.block_lt_of_cell? _ _ (hHeld.2.2.2.2.2.2.2.2.2.2.2.2.2.2.2.2.2.2.2.2.2.2.2.2.2.2.2.2.2.2.2.2.2.2.2.2.2.2.2.2.2.2.2.1))).trans (hHeld.2.2.2.2.2.2.2.2.2.2.2.2.2.2.2.2.2.2.2.2.2.2.2.2.2.2.2.2.2.2.2.2.2.2.2.2.2.2.2.2.2.2.2.1)
                           have HS44_ := (hb.cell (World.block_lt_of_cell? _ _ (hHeld.2.2.2.2.2.2.2.2.2.2.2.2.2.2.2.2.2.2.2.2.2.2.2.2.2.2.2.2.2.2.2.2.2.2.2.2.2.2.2.2.2.2.2.2.1))).trans (hHeld.2.2.2.2.2.2.2.2.2.2.2.2.2.2.2.2.2.2.2.2.2.2.2.2.2.2.2.2.2.2.2.2.2.2.2.2.2.2.2.2.2.2.2.2.1)
                           have HS45_ := (hb.cell (World.block_lt_of_cell? _ _ (hHeld.2.2.2.2.2.2.2.2.2.2.2.2.2.2.2.2.2.2.2.2.2.2.2.2.2.2.2.2.2.2.2.2.2.2.2.2.2.2.2.2.2.2.2.2.2.1))).trans (hHeld.2.2.2.2.2.2.2.2.2.2.2.2.2.2.2.2.2.2.2.2.2.2.2.2.2.2.2.2.2.2.2.2.2.2.2.2.2.2.2.2.2.2.2.2.2.1)
                           have HS46_ := (hb.cell (World.block_lt_of_cell? _ _ (hHeld.2.2.2.2.2.2.2.2.2.2.2.2.2.2.2.2.2.2.2.2.2.2.2.2.2.2.2.2.2.2.2.2.2.2.2.2.2.2.2.2.2.2.2.2.2.2.1))).trans (hHeld.2.2.2.2.2.2.2.2.2.2.2.2.2.2.2.2.2.2.2.2.2.2.2.2.2.2.2.2.2.2.2.2.2.2.2.2.2.2.2.2.2.2.2.2.2.2.1)
                           have HS47_ := (hb.cell (World.block_lt_of_cell? _ _ (hHeld.2.2.2.2.2.2.2.2.2.2.2.2.2.2.2.2.2.2.2.2.2.2.2.2.2.2.2.2.2.2.2.2.2.2.2.2.2.2.2.2.2.2.2.2.2.2.2.1))).trans (hHeld.2.2.2.2.2.2.2.2.2.2.2.2.2.2.2.2.2.2.2.2.2.2.2.2.2.2.2.2.2.2.2.2.2.2.2.2.2.2.2.2.2.2.2.2.2.2.2.1)
                           have HS48_ := (hb.cell (World.block_lt_of_cell? _ _ (hHeld.2.2.2.2.2.2.2.2.2.2.2.2.2.2.2.2.2.2.2.2.2.2.2.2.2.2.2.2.2.2.2.2.2.2.2.2.2.2.2.2.2.2.2.2.2.2.2.2.1))).trans (hHeld.2.2.2.2.2.2.2.2.2.2.2.2.2.2.2.2.2.2.2.2.2.2.2.2.2.2.2.2.2.2.2.2.2.2.2.2.2.2.2.2.2.2.2.2.2.2.2.2.1)
                           have HS49_ := (hb.cell (World.block_lt_of_cell? _ _ (hHeld.2.2.2.2.2.2.2.2.2.2.2.2.2.2.2.2.2.2.2.2.2.2.2.2.2.2.2.2.2.2.2.2.2.2.2.2.2.2.2.2.2.2.2.2.2.2.2.2.2.1))).trans (hHeld.2.2.2.2.2.2.2.2.2.2.2.2.2.2.2.2.2.2.2.2.2.2.2.2.2.2.2.2.2.2.2.2.2.2.2.2.2.2.2.2.2.2.2.2.2.2.2.2.2.1)
                           have HS50_ := (hb.cell (World.block_lt_of_cell? _ _ (hHeld.2.2.2.2.2.2.2.2.2.2.2.2.2.2.2.2.2.2.2.2.2.2.2.2.2.2.2.2.2.2.2.2.2.2.2.2.2.2.2.2.2.2.2.2.2.2.2.2.2.2.1))).trans (hHeld.2.2.2.2.2.2.2.2.2.2.2.2.2.2.2.2.2.2.2.2.2.2.2.2.2.2.2.2.2.2.2.2.2.2.2.2.2.2.2.2.2.2.2.2.2.2.2.2.2.2.1)
                           have HS51_ := (hb.cell (World.block_lt_of_cell? _ _ (hHeld.2.2.2.2.2.2.2.2.2.2.2.2.2.2.2.2.2.2.2.2.2.2.2.2.2.2.2.2.2.2.2.2.2.2.2.2.2.2.2.2.2.2.2.2.2.2.2.2.2.2.2.1))).trans (hHeld.2.2.2.2.2.2.2.2.2.2.2.2.2.2.2.2.2.2.2.2.2.2.2.2.2.2.2.2.2.2.2.2.2.2.2.2.2.2.2.2.2.2.2.2.2.2.2.2.2.2.2.1)
                           have HS52_ := (hb.cell (World.block_lt_of_cell? _ _ (hHeld.2.2.2.2.2.2.2.2.2.2.2.2.2.2.2.2.2.2.2.2.2.2.2.2.2.2.2.2.2.2.2.2.2.2.2.2.2.2.2.2.2.2.2.2.2.2.2.2.2.2.2.2.1))).trans (hHeld.2.2.2.2.2.2.2.2.2.2.2.2.2.2.2.2.2.2.2.2.2.2.2.2.2.2.2.2.2.2.2.2.2.2.2.2.2.2.2.2.2.2.2.2.2.2.2.2.2.2.2.2.1)
                           have HS53_ := (hb.cell (World.block_lt_of_cell? _ _ (hHeld.2.2.2.2.2.2.2.2.2.2.2.2.2.2.2.2.2.2.2.2.2.2.2.2.2.2.2.2.2.2.2.2.2.2.2.2.2.2.2.2.2.2.2.2.2.2.2.2.2.2.2.2.2.1))).trans (hHeld.2.2.2.2.2.2.2.2.2.2.2.2.2.2.2.2.2.2.2.2.2.2.2.2.2.2.2.2.2.2.2.2.2.2.2.2.2.2.2.2.2.2.2.2.2.2.2.2.2.2.2.2.2.1)
                           have HS54_ := (hb.cell (World.block_lt_of_cell? _ _ (hHeld.2.2.2.2.2.2.2.2.2.2.2.2.2.2.2.2.2.2.2.2.2.2.2.2.2.2.2.2.2.2.2.2.2.2.2.2.2.2.2.2.2.2.2.2.2.2.2.2.2.2.2.2.2.2.1))).trans (hHeld.2.2.2.2.2.2.2.2.2.2.2.2.2.2.2.2.2.2.2.2.2.2.2.2.2.2.2.2.2.2.2.2.2.2.2.2.2.2.2.2.2.2.2.2.2.2.2.2.2.2.2.2.2.2.1)
                           have HS55_ := (hb.cell (World.block_lt_of_cell? _ _ (hHeld.2.2.2.2.2.2.2.2.2.2.2.2.2.2.2.2.2.2.2.2.2.2.2.2.2.2.2.2.2.2.2.2.2.2.2.2.2.2.2.2.2.2.2.2.2.2.2.2.2.2.2.2.2.2.2.1))).trans (hHeld.2.2.2.2.2.2.2.2.2.2.2.2.2.2.2.2.2.2.2.2.2.2.2.2.2.2.2.2.2.2.2.2.2.2.2.2.2.2.2.2.2.2.2.2.2.2.2.2.2.2.2.2.2.2.2.1)
                           have HS56_ := (hb.cell (World.block_lt_of_cell? _ _ (hHeld.2.2.2.2.2.2.2.2.2.2.2.2.2.2.2.2.2.2.2.2.2.2.2.2.2.2.2.2.2.2.2.2.2.2.2.2.2.2.2.2.2.2.2.2.2.2.2.2.2.2.2.2.2.2.2.2.1))).trans (hHeld.2.2.2.2.2.2.2.2.2.2.2.2.2.2.2.2.2.2.2.2.2.2.2.2.2.2.2.2.2.2.2.2.2.2.2.2.2.2.2.2.2.2.2.2.2.2.2.2.2.2.2.2.2.2.2.2.1)
                           have HS57_ := (hb.cell (World.block_lt_of_cell? _ _ (hHeld.2.2.2.2.2.2.2.2.2.2.2.2.2.2.2.2.2.2.2.2.2.2.2.2.2.2.2.2.2.2.2.2.2.2.2.2.2.2.2.2.2.2.2.2.2.2.2.2.2.2.2.2.2.2.2.2.2.1))).trans (hHeld.2.2.2.2.2.2.2.2.2.2.2.2.2.2.2.2.2.2.2.2.2.2.2.2.2.2.2.2.2.2.2.2.2.2.2.2.2.2.2.2.2.2.2.2.2.2.2.2.2.2.2.2.2.2.2.2.2.1)
                           have HS58_ := (hb.cell (World.block_lt_of_cell? _ _ (hHeld.2.2.2.2.2.2.2.2.2.2.2.2.2.2.2.2.2.2.2.2.2.2.2.2.2.2.2.2.2.2.2.2.2.2.2.2.2.2.2.2.2.2.2.2.2.2.2.2.2.2.2.2.2.2.2.2.2.2.1))).trans (hHeld.2.2.2.2.2.2.2.2.2.2.2.2.2.2.2.2.2.2.2.2.2.2.2.2.2.2.2.2.2.2.2.2.2.2.2.2.2.2.2.2.2.2.2.2.2.2.2.2.2.2.2.2.2.2.2.2.2.2.1)
                           have HS59_ := (hb.cell (World.block_lt_of_cell? _ _ (hHeld.2.2.2.2.2.2.2.2.2.2.2.2.2.2.2.2.2.2.2.2.2.2.2.2.2.2.2.2.2.2.2.2.2.2.2.2.2.2.2.2.2.2.2.2.2.2.2.2.2.2.2.2.2.2.2.2.2.2.2.1))).trans (hHeld.2.2.2.2.2.2.2.2.2.2.2.2.2.2.2.2.2.2.2.2.2.2.2.2.2.2.2.2.2.2.2.2.2.2.2.2.2.2.2.2.2.2.2.2.2.2.2.2.2.2.2.2.2.2.2.2.2.2.2.1)
                           have HS60_ := (hb.cell (World.block_lt_of_cell? _ _ (hHeld.2.2.2.2.2.2.2.2.2.2.2.2.2.2.2.2.2.2.2.2.2.2.2.2.2.2.2.2.2.2.2.2.2.2.2.2.2.2.2.2.2.2.2.2.2.2.2.2.2.2.2.2.2.2.2.2.2.2.2.2.1))).trans (hHeld.2.2.2.2.2.2.2.2.2.2.2.2.2.2.2.2.2.2.2.2.2.2.2.2.2.2.2.2.2.2.2.2.2.2.2.2.2.2.2.2.2.2.2.2.2.2.2.2.2.2.2.2.2.2.2.2.2.2.2.2.1)
                           have HS61_ := (hb.cell (World.block_lt_of_cell? _ _ (hHeld.2.2.2.2.2.2.2.2.2.2.2.2.2.2.2.2.2.2.2.2.2.2.2.2.2.2.2.2.2.2.2.2.2.2.2.2.2.2.2.2.2.2.2.2.2.2.2.2.2.2.2.2.2.2.2.2.2.2.2.2.2.1))).trans (hHeld.2.2.2.2.2.2.2.2.2.2.2.2.2.2.2.2.2.2.2.2.2.2.2.2.2.2.2.2.2.2.2.2.2.2.2.2.2.2.2.2.2.2.2.2.2.2.2.2.2.2.2.2.2.2.2.2.2.2.2.2.2.1)
                           have HS62_ := (hb.cell (World.block_lt_of_cell? _ _ (hHeld.2.2.2.2.2.2.2.2.2.2.2.2.2.2.2.2.2.2.2.2.2.2.2.2.2.2.2.2.2.2.2.2.2.2.2.2.2.2.2.2.2.2.2.2.2.2.2.2.2.2.2.2.2.2.2.2.2.2.2.2.2.2.1))).trans (hHeld.2.2.2.2.2.2.2.2.2.2.2.2.2.2.2.2.2.2.2.2.2.2.2.2.2.2.2.2.2.2.2.2.2.2.2.2.2.2.2.2.2.2.2.2.2.2.2.2.2.2.2.2.2.2.2.2.2.2.2.2.2.2.1)
                           have HS63_ := (hb.cell (World.block_lt_of_cell? _ _ (hHeld.2.2.2.2.2.2.2.2.2.2.2.2.2.2.2.2.2.2.2.2.2.2.2.2.2.2.2.2.2.2.2.2.2.2.2.2.2.2.2.2.2.2.2.2.2.2.2.2.2.2.2.2.2.2.2.2.2.2.2.2.2.2.2.1))).trans (hHeld.2.2.2.2.2.2.2.2.2.2.2.2.2.2.2.2.2.2.2.2.2.2.2.2.2.2.2.2.2.2.2.2.2.2.2.2.2.2.2.2.2.2.2.2.2.2.2.2.2.2.2.2.2.2.2.2.2.2.2.2.2.2.2.1)
                           have HS64_ := (hb.cell (World.block_lt_of_cell? _ _ (hHeld.2.2.2.2.2.2.2.2.2.2.2.2.2.2.2.2.2.2.2.2.2.2.2.2.2.2.2.2.2.2.2.2.2.2.2.2.2.2.2.2.2.2.2.2.2.2.2.2.2.2.2.2.2.2.2.2.2.2.2.2.2.2.2.2.1))).trans (hHeld.2.2.2.2.2.2.2.2.2.2.2.2.2.2.2.2.2.2.2.2.2.2.2.2.2.2.2.2.2.2.2.2.2.2.2.2.2.2.2.2.2.2.2.2.2.2.2.2.2.2.2.2.2.2.2.2.2.2.2.2.2.2.2.2.1)
                           have HS65_ := (hb.cell (World.block_lt_of_cell? _ _ (hHeld.2.2.2.2.2.2.2.2.2.2.2.2.2.2.2.2.2.2.2.2.2.2.2.2.2.2.2.2.2.2.2.2.2.2.2.2.2.2.2.2.2.2.2.2.2.2.2.2.2.2.2.2.2.2.2.2.2.2.2.2.2.2.2.2.2.1))).trans (hHeld.2.2.2.2.2.2.2.2.2.2.2.2.2.2.2.2.2.2.2.2.2.2.2.2.2.2.2.2.2.2.2.2.2.2.2.2.2.2.2.2.2.2.2.2.2.2.2.2.2.2.2.2.2.2.2.2.2.2.2.2.2.2.2.2.2.1)
                           have HS66_ := (hb.cell (World.block_lt_of_cell? _ _ (hHeld.2.2.2.2.2.2.2.2.2.2.2.2.2.2.2.2.2.2.2.2.2.2.2.2.2.2.2.2.2.2.2.2.2.2.2.2.2.2.2.2.2.2.2.2.2.2.2.2.2.2.2.2.2.2.2.2.2.2.2.2.2.2.2.2.2.2.1))).trans (hHeld.2.2.2.2.2.2.2.2.2.2.2.2.2.2.2.2.2.2.2.2.2.2.2.2.2.2.2.2.2.2.2.2.2.2.2.2.2.2.2.2.2.2.2.2.2.2.2.2.2.2.2.2.2.2.2.2.2.2.2.2.2.2.2.2.2.2.1)
                           have HS67_ := (hb.cell (World.block_lt_of_cell? _ _ (hHeld.2.2.2.2.2.2.2.2.2.2.2.2.2.2.2.2.2.2.2.2.2.2.2.2.2.2.2.2.2.2.2.2.2.2.2.2.2.2.2.2.2.2.2.2.2.2.2.2.2.2.2.2.2.2.2.2.2.2.2.2.2.2.2.2.2.2.2))).trans (hHeld.2.2.2.2.2.2.2.2.2.2.2.2.2.2.2.2.2.2.2.2.2.2.2.2.2.2.2.2.2.2.2.2.2.2.2.2.2.2.2.2.2.2.2.2.2.2.2.2.2.2.2.2.2.2.2.2.2.2.2.2.2.2.2.2.2.2.2)
                           refine ⟨_, rfl, ?_⟩
                           have n0_ := Aside0.mk (Kd.V_below (by (with_reducible repeat (first | apply Kd.V_alloc | apply Kd.V_drewN | apply Kd.V_drew)); exact HO_4.out) hb)
                           have n1_ := Aside0.mk (Kd.V_below (by (with_reducible repeat (first | apply Kd.V_alloc | apply Kd.V_drewN | apply Kd.V_drew)); exact HL268_1.out) hb)
                           have n2_ := Aside0.mk (Kd.V_below (by (with_reducible repeat (first | apply Kd.V_alloc | apply Kd.V_drewN | apply Kd.V_drew)); exact HL268_31.out) hb)
                           have n3_ := Aside0.mk (Kd.V_below (by (with_reducible repeat (first | apply Kd.V_alloc | apply Kd.V_drewN | apply Kd.V_drew)); exact HL269_1.out) hb)
                           have n4_ := Aside0.mk (Kd.V_below (by (with_reducible repeat (first | apply Kd.V_alloc | apply Kd.V_drewN | apply Kd.V_drew)); exact HL269_31.out) hb)
                           have n5_ := Aside0.mk (Kd.V_below (by (with_reducible repeat (first | apply Kd.V_alloc | apply Kd.V_drewN | apply Kd.V_drew)); exact HL271_1.out) hb)
                           have n6_ := Aside0.mk (Kd.V_below (by (with_reducible repeat (first | apply Kd.V_alloc | apply Kd.V_drewN | apply Kd.V_drew)); exact HL271_31.out) hb)
                           have n7_ := Aside0.mk (Kd.V_below (by (with_reducible repeat (first | apply Kd.V_alloc | apply Kd.V_drewN | apply Kd.V_drew)); exact HL272_1.out) hb)
                           have n8_ := Aside0.mk (Kd.V_below (by (with_reducible repeat (first | apply Kd.V_alloc | apply Kd.V_drewN | apply Kd.V_drew)); exact HL272_31.out) hb)
                           have n9_ := Aside0.mk (Kd.C_below (by repeat (first | (with_reducible exact HR268_1.out) | (with_reducible refine Kd.C_alloc ?_ _) | (with_reducible refine Kd.C_drewN ?_ _) | (with_reducible refine Kd.C_drew ?_) | exact HR268_1.out)) hb)
                           have n10_ := Aside0.mk (Kd.C_below (by repeat (first | (with_reducible exact HR268_31.out) | (with_reducible refine Kd.C_alloc ?_ _) | (with_reducible refine Kd.C_drewN ?_ _) | (with_reducible refine Kd.C_drew ?_) | exact HR268_31.out)) hb)
                           have n11_ := Aside0.mk (Kd.C_below (by repeat (first | (with_reducible exact HR269_1.out) | (with_reducible refine Kd.C_alloc ?_ _) | (with_reducible refine Kd.C_drewN ?_ _) | (with_reducible refine Kd.C_drew ?_) | exact HR269_1.out)) hb)
                           have n12_ := Aside0.mk (Kd.C_below (by repeat (first | (with_reducible exact HR269_31.out) | (with_reducible refine Kd.C_alloc ?_ _) | (with_reducible refine Kd.C_drewN ?_ _) | (with_reducible refine Kd.C_drew ?_) | exact HR269_31.out)) hb)
                           have n13_ := Aside0.mk (Kd.C_below (by repeat (first | (with_reducible exact HR271_1.out) | (with_reducible refine Kd.C_alloc ?_ _) | (with_reducible refine Kd.C_drewN ?_ _) | (with_reducible refine Kd.C_drew ?_) | exact HR271_1.out)) hb)
                           have n14_ := Aside0.mk (Kd.C_below (by repeat (first | (with_reducible exact HR271_31.out) | (with_reducible refine Kd.C_alloc ?_ _) | (with_reducible refine Kd.C_drewN ?_ _) | (with_reducible refine Kd.C_drew ?_) | exact HR271_31.out)) hb)
                           have n15_ := Aside0.mk (Kd.C_below (by repeat (first | (with_reducible exact HR272_1.out) | (with_reducible refine Kd.C_alloc ?_ _) | (with_reducible refine Kd.C_drewN ?_ _) | (with_reducible refine Kd.C_drew ?_) | exact HR272_1.out)) hb)
                           have n16_ := Aside0.mk (Kd.C_below (by repeat (first | (with_reducible exact HR272_31.out) | (with_reducible refine Kd.C_alloc ?_ _) | (with_reducible refine Kd.C_drewN ?_ _) | (with_reducible refine Kd.C_drew ?_) | exact HR272_31.out)) hb)
                           have n17_ := Aside0.mk (below_step (by repeat (first | (with_reducible first | exact HB.out | apply below_alloc | apply pw_below_drewN | apply below_drew1) | exact HB.out)) hb)
                           clear HO_4
                           clear HL268_1
                           clear HL268_31
                           clear HL269_1
                           clear HL269_31
                           clear HL271_1
                           clear HL271_31
                           clear HL272_1
                           clear HL272_31
                           clear HR268_1
                           clear HR268_31
                           clear HR269_1
                           clear HR269_31
                           clear HR271_1
                           clear HR271_31
                           clear HR272_1
                           clear HR272_31
                           clear HB
                           have HO_4 := n0_
                           have HL268_1 := n1_
                           have HL268_31 := n2_
                           have HL269_1 := n3_
                           have HL269_31 := n4_
                           have HL271_1 := n5_
                           have HL271_31 := n6_
                           have HL272_1 := n7_
                           have HL272_31 := n8_
                           have HR268_1 := n9_
                           have HR268_31 := n10_
                           have HR269_1 := n11_
                           have HR269_31 := n12_
                           have HR271_1 := n13_
                           have HR271_31 := n14_
                           have HR272_1 := n15_
                           have HR272_31 := n16_
                           have HB := n17_
                           clear n0_ n1_ n2_ n3_ n4_ n5_ n6_ n7_ n8_ n9_ n10_ n11_ n12_ n13_ n14_ n15_ n16_ n17_
                           (try clear hb)
                           (try clear hb2)
                           (try clear hk)
                           (try clear hi)
                           refine hK.out _ _ ⟨HS0_, HS1_, HS2_, HS3_, HS4_, HS5_, HS6_, HS7_, HS8_, HS9_, HS10_, HS11_, HS12_, HS13_, HS14_, HS15_, HS16_, HS17_, HS18_, HS19_, HS20_, HS21_, HS22_, HS23_, HS24_, HS25_, HS26_, HS27_, HS28_, HS29_, HS30_, HS31_, HS32_, HS33_, HS34_, HS35_, HS36_, HS37_, HS38_, HS39_, HS40_, HS41_, HS42_, HS43_, HS44_, HS45_, HS46_, HS47_, HS48_, HS49_, HS50_, HS51_, HS52_, HS53_, HS54_, HS55_, HS56_, HS57_, HS58_, HS59_, HS60_, HS61_, HS62_, HS63_, HS64_, HS65_, HS66_, HS67_⟩ (fun hHeld => ?_)
                           clear hK K
                           refine norm_ (a' := ?_) ?_ ?_
                           rotate_left
                           · show Act.put _ (some 62) _ = _
                             simp only [Act.put, List.setIfInBounds_toArray, List.set_cons_zero, List.set_cons_succ, i64_w, i32_w]
                             rfl
                           refine pure_ (i := 20) (N := some 63) (v := ?_) (a' := ?_) #[true, true, true, true, true, true, true, true, true, true, true, true, true, true, true, true, true, true, true, true, true, false] rfl rfl (any_of HT_.out (by kernel_rfl)) (fun _ _ _ h => h) (Or.inl ⟨by rfl, ?_⟩) ?_ ?_
                           rotate_left
                           · intro w'
                             go_simp
                             with_reducible rfl
                           rotate_left
                           · simp only [Act.put, List.setIfInBounds_toArray, List.set_cons_zero, List.set_cons_succ, i64_w, i32_w]
                             rfl
                           refine pure_ (i := 21) (N := some 64) (v := ?_) (a' := ?_) #[true, true, true, true, true, true, true, true, true, true, true, true, true, true, true, true, true, true, true, true, true, true] rfl rfl (any_of HT_.out (by kernel_rfl)) (fun _ _ _ h => h) (Or.inl ⟨by rfl, ?_⟩) ?_ ?_
                           rotate_left
                           · intro w'
                             go_simp
                             with_reducible rfl
                           rotate_left
                           · simp only [Act.put, List.setIfInBounds_toArray, List.set_cons_zero, List.set_cons_succ, i64_w, i32_w]
                             rfl
                           refine done_ (done_of HT_.out (by kernel_rfl)) ?_
                           try go_wp2
                           go_roundg k2
                           case measure => have := HK1.out; have := HK2.out; omega
                           case rel => exact ⟨(wrap64 (x7_2 + 1)), (by first | rfl | (simp; done) | (simp [*]; done)), H', ⟨by have := HK1.out; have := HK2.out; omega⟩, ⟨by (with_reducible repeat (first | apply Kd.V_alloc | apply Kd.V_drewN | apply Kd.V_drew)); exact HO_4.out⟩, ⟨by repeat (first | (with_reducible first | exact HB.out | apply below_alloc | apply pw_below_drewN | apply below_drew1) | exact HB.out)⟩⟩
                         · replace c23 := Bool.eq_false_iff.mpr c23
                           subst c23
                           have H1 : (some false) = some r := by rw [if_neg (show ¬ (false = true) by decide)] at H; exact H
                           clear H
                           have H := H1
                           clear H1
                           obtain rfl := Option.some.inj H
                           have p268 : 0 ≤ (x6_1 : Int) := of_decide_eq_true (by first | (with_reducible assumption) | assumption)
                           have q268 : x6_1 < (t264.length : Int) := of_decide_eq_true (by first | (with_reducible assumption) | assumption)
                           obtain ⟨ad268, A268_1, c268_1, A268_31, c268_31, e268, hx268_0, hx268_1, hx268_2, hx268_3, hx268_4, hx268_5, hx268_6, hx268_7, hx268_8, hx268_9, hx268_10, hx268_11, hx268_12, hx268_13, hx268_14, hx268_15, hx268_16, hx268_17, hx268_18, hx268_19, hx268_20, hx268_21, hx268_22, hx268_23, hx268_24, hx268_25, hx268_26, hx268_27, hx268_28, hx268_29, hx268_30, hx268_31, hx268_32, hx268_33, hl268_1, hi268_1, hl268_31, hi268_31⟩ := at_T43 (Kd.V_reads' HO_4.out).2.2 x6_1 p268 q268
                           cases e268
                           obtain ⟨ce268, hce268, hMe268, hcc268⟩ := Kd.V_get HO_4.out z43 x6_1 p268 (by first | exact q268 | exact of_decide_eq_true (by first | (with_reducible assumption) | assumption) | (have e_ := (Kd.V_reads' HO_4.out).1; omega))
                           obtain ⟨ua268_1, uc268_1, ua268_31, uc268_31, rfl, ul268_1, ge268_1, ul268_31, ge268_31⟩ := k43_openF hMe268
                           have hv268_1 := hcc268 1 _ rfl
                           rw [add_field _ _ 1 (by omega)] at hv268_1
                           replace hv268_1 := Option.some.inj (hv268_1.symm.trans hx268_1)
                           injection hv268_1 with hva_ hvn_ hvc_
                           rw [hva_] at ge268_1
                           rw [hvc_] at ul268_1
                           have HL268_1 := Aside0.mk (show Kd.V (Kd.int .i64) 3 _ w.heap.size _ _ ((rd_T43 t264 x6_1).f1) from Kd.V_mk ul268_1 ge268_1)
                           clear hva_ hvn_ hvc_ ge268_1 ul268_1
                           have hv268_31 := hcc268 31 _ rfl
                           rw [add_field _ _ 31 (by omega)] at hv268_31
                           replace hv268_31 := Option.some.inj (hv268_31.symm.trans hx268_31)
                           injection hv268_31 with hva_ hvn_ hvc_
                           rw [hva_] at ge268_31
                           rw [hvc_] at ul268_31
                           have HL268_31 := Aside0.mk (show Kd.V (Kd.int .i64) 2 _ w.heap.size _ _ ((rd_T43 t264 x6_1).f3) from Kd.V_mk ul268_31 ge268_31)
                           clear hva_ hvn_ hvc_ ge268_31 ul268_31
                           clear hcc268 hce268
                           have HR268_1 := Aside0.mk hi268_1
                           have HC268_1 := Aside0.mk hl268_1
                           clear hi268_1 hl268_1
                           have HR268_31 := Aside0.mk hi268_31
                           have HC268_31 := Aside0.mk hl268_31
                           clear hi268_31 hl268_31
                           replace p268 := eq_true p268
                           replace q268 := eq_true q268
                           have p269 : 0 ≤ (x6_1 : Int) := of_decide_eq_true (by first | (with_reducible assumption) | assumption)
                           have q269 : x6_1 < (t264.length : Int) := of_decide_eq_true (by first | (with_reducible assumption) | assumption)
                           obtain ⟨ad269, A269_1, c269_1, A269_31, c269_31, e269, hx269_0, hx269_1, hx269_2, hx269_3, hx269_4, hx269_5, hx269_6, hx269_7, hx269_8, hx269_9, hx269_10, hx269_11, hx269_12, hx269_13, hx269_14, hx269_15, hx269_16, hx269_17, hx269_18, hx269_19, hx269_20, hx269_21, hx269_22, hx269_23, hx269_24, hx269_25, hx269_26, hx269_27, hx269_28, hx269_29, hx269_30, hx269_31, hx269_32, hx269_33, hl269_1, hi269_1, hl269_31, hi269_31⟩ := at_T43 (Kd.V_reads' HO_4.out).2.2 x6_1 p269 q269
                           obtain rfl : ad268 = ad269 := (by injection e269)
                           obtain ⟨ce269, hce269, hMe269, hcc269⟩ := Kd.V_get HO_4.out z43 x6_1 p269 (by first | exact q269 | exact of_decide_eq_true (by first | (with_reducible assumption) | assumption) | (have e_ := (Kd.V_reads' HO_4.out).1; omega))
                           obtain ⟨ua269_1, uc269_1, ua269_31, uc269_31, rfl, ul269_1, ge269_1, ul269_31, ge269_31⟩ := k43_openF hMe269
                           have hv269_1 := hcc269 1 _ rfl
                           rw [add_field _ _ 1 (by omega)] at hv269_1
                           replace hv269_1 := Option.some.inj (hv269_1.symm.trans hx269_1)
                           injection hv269_1 with hva_ hvn_ hvc_
                           rw [hva_] at ge269_1
                           rw [hvc_] at ul269_1
                           have HL269_1 := Aside0.mk (show Kd.V (Kd.int .i64) 3 _ w.heap.size _ _ ((rd_T43 t264 x6_1).f1) from Kd.V_mk ul269_1 ge269_1)
                           clear hva_ hvn_ hvc_ ge269_1 ul269_1
                           have hv269_31 := hcc269 31 _ rfl
                           rw [add_field _ _ 31 (by omega)] at hv269_31
                           replace hv269_31 := Option.some.inj (hv269_31.symm.trans hx269_31)
                           injection hv269_31 with hva_ hvn_ hvc_
                           rw [hva_] at ge269_31
                           rw [hvc_] at ul269_31
                           have HL269_31 := Aside0.mk (show Kd.V (Kd.int .i64) 2 _ w.heap.size _ _ ((rd_T43 t264 x6_1).f3) from Kd.V_mk ul269_31 ge269_31)
                           clear hva_ hvn_ hvc_ ge269_31 ul269_31
                           clear hcc269 hce269
                           have HR269_1 := Aside0.mk hi269_1
                           have HC269_1 := Aside0.mk hl269_1
                           clear hi269_1 hl269_1
                           have HR269_31 := Aside0.mk hi269_31
                           have HC269_31 := Aside0.mk hl269_31
                           clear hi269_31 hl269_31
                           replace p269 := eq_true p269
                           replace q269 := eq_true q269
                           have ea_ := Option.some.inj (hx268_1.symm.trans hx269_1)
                           injection ea_ with ea_ en_ ec_
                           subst ea_
                           subst ec_
                           clear en_
                           have ea_ := Option.some.inj (hx268_31.symm.trans hx269_31)
                           injection ea_ with ea_ en_ ec_
                           subst ea_
                           subst ec_
                           clear en_
                           have p270 : 0 ≤ (x7_2 : Int) := of_decide_eq_true (by first | (with_reducible assumption) | assumption)
                           have q270 : x7_2 < (((rd_T43 t264 x6_1).f1).length : Int) := of_decide_eq_true (by first | (with_reducible assumption) | assumption)
                           obtain ⟨ad270, e270, hx270_0⟩ := Kd.at_int (by repeat (first | (with_reducible exact HR269_1.out) | (with_reducible refine Kd.C_alloc ?_ _) | (with_reducible refine Kd.C_drewN ?_ _) | (with_reducible refine Kd.C_drew ?_) | exact HR269_1.out)) x7_2 p270 q270
                           cases e270
                           replace p270 := eq_true p270
                           replace q270 := eq_true q270
                           try go_wp2
                           have n0_ := Aside0.mk (Kd.V_drew HO_4.out)
                           have n1_ := Aside0.mk (Kd.V_drew HL268_1.out)
                           have n2_ := Aside0.mk (Kd.V_drew HL268_31.out)
                           have n3_ := Aside0.mk (Kd.V_drew HL269_1.out)
                           have n4_ := Aside0.mk (Kd.V_drew HL269_31.out)
                           have n5_ := Aside0.mk (Kd.C_drew HR268_1.out)
                           have n6_ := Aside0.mk (Kd.C_drew HR268_31.out)
                           have n7_ := Aside0.mk (Kd.C_drew HR269_1.out)
                           have n8_ := Aside0.mk (Kd.C_drew HR269_31.out)
                           have n9_ := Aside0.mk (below_drew1 HB.out)
                           clear HO_4
                           clear HL268_1
                           clear HL268_31
                           clear HL269_1
                           clear HL269_31
                           clear HR268_1
                           clear HR268_31
                           clear HR269_1
                           clear HR269_31
                           clear HB
                           have HO_4 := n0_
                           have HL268_1 := n1_
                           have HL268_31 := n2_
                           have HL269_1 := n3_
                           have HL269_31 := n4_
                           have HR268_1 := n5_
                           have HR268_31 := n6_
                           have HR269_1 := n7_
                           have HR269_31 := n8_
                           have HB := n9_
                           clear n0_ n1_ n2_ n3_ n4_ n5_ n6_ n7_ n8_ n9_
                           have p271 : 0 ≤ (x6_1 : Int) := of_decide_eq_true (by first | (with_reducible assumption) | assumption)
                           have q271 : x6_1 < (t264.length : Int) := of_decide_eq_true (by first | (with_reducible assumption) | assumption)
                           obtain ⟨ad271, A271_1, c271_1, A271_31, c271_31, e271, hx271_0, hx271_1, hx271_2, hx271_3, hx271_4, hx271_5, hx271_6, hx271_7, hx271_8, hx271_9, hx271_10, hx271_11, hx271_12, hx271_13, hx271_14, hx271_15, hx271_16, hx271_17, hx271_18, hx271_19, hx271_20, hx271_21, hx271_22, hx271_23, hx271_24, hx271_25, hx271_26, hx271_27, hx271_28, hx271_29, hx271_30, hx271_31, hx271_32, hx271_33, hl271_1, hi271_1, hl271_31, hi271_31⟩ := at_T43 (Kd.V_reads' HO_4.out).2.2 x6_1 p271 q271
                           obtain rfl : ad268 = ad271 := (by injection e271)
                           obtain ⟨ce271, hce271, hMe271, hcc271⟩ := Kd.V_get HO_4.out z43 x6_1 p271 (by first | exact q271 | exact of_decide_eq_true (by first | (with_reducible assumption) | assumption) | (have e_ := (Kd.V_reads' HO_4.out).1; omega))
                           obtain ⟨ua271_1, uc271_1, ua271_31, uc271_31, rfl, ul271_1, ge271_1, ul271_31, ge271_31⟩ := k43_openF hMe271
                           have hv271_1 := hcc271 1 _ rfl
                           rw [add_field _ _ 1 (by omega)] at hv271_1
                           replace hv271_1 := Option.some.inj (hv271_1.symm.trans hx271_1)
                           injection hv271_1 with hva_ hvn_ hvc_
                           rw [hva_] at ge271_1
                           rw [hvc_] at ul271_1
                           have HL271_1 := Aside0.mk (show Kd.V (Kd.int .i64) 3 _ w.heap.size _ _ ((rd_T43 t264 x6_1).f1) from Kd.V_mk ul271_1 ge271_1)
                           clear hva_ hvn_ hvc_ ge271_1 ul271_1
                           have hv271_31 := hcc271 31 _ rfl
                           rw [add_field _ _ 31 (by omega)] at hv271_31
                           replace hv271_31 := Option.some.inj (hv271_31.symm.trans hx271_31)
                           injection hv271_31 with hva_ hvn_ hvc_
                           rw [hva_] at ge271_31
                           rw [hvc_] at ul271_31
                           have HL271_31 := Aside0.mk (show Kd.V (Kd.int .i64) 2 _ w.heap.size _ _ ((rd_T43 t264 x6_1).f3) from Kd.V_mk ul271_31 ge271_31)
                           clear hva_ hvn_ hvc_ ge271_31 ul271_31
                           clear hcc271 hce271
                           have HR271_1 := Aside0.mk hi271_1
                           have HC271_1 := Aside0.mk hl271_1
                           clear hi271_1 hl271_1
                           have HR271_31 := Aside0.mk hi271_31
                           have HC271_31 := Aside0.mk hl271_31
                           clear hi271_31 hl271_31
                           replace p271 := eq_true p271
                           replace q271 := eq_true q271
                           have p272 : 0 ≤ ((rd ((rd_T43 t264 x6_1).f1) x7_2) : Int) := of_decide_eq_true (by first | (with_reducible assumption) | assumption)
                           have q272 : (rd ((rd_T43 t264 x6_1).f1) x7_2) < (t264.length : Int) := of_decide_eq_true (by first | (with_reducible assumption) | assumption)
                           obtain ⟨ad272, A272_1, c272_1, A272_31, c272_31, e272, hx272_0, hx272_1, hx272_2, hx272_3, hx272_4, hx272_5, hx272_6, hx272_7, hx272_8, hx272_9, hx272_10, hx272_11, hx272_12, hx272_13, hx272_14, hx272_15, hx272_16, hx272_17, hx272_18, hx272_19, hx272_20, hx272_21, hx272_22, hx272_23, hx272_24, hx272_25, hx272_26, hx272_27, hx272_28, hx272_29, hx272_30, hx272_31, hx272_32, hx272_33, hl272_1, hi272_1, hl272_31, hi272_31⟩ := at_T43 (Kd.V_reads' HO_4.out).2.2 (rd ((rd_T43 t264 x6_1).f1) x7_2) p272 q272
                           obtain rfl : ad268 = ad272 := (by injection e272)
                           obtain ⟨ce272, hce272, hMe272, hcc272⟩ := Kd.V_get HO_4.out z43 (rd ((rd_T43 t264 x6_1).f1) x7_2) p272 (by first | exact q272 | exact of_decide_eq_true (by first | (with_reducible assumption) | assumption) | (have e_ := (Kd.V_reads' HO_4.out).1; omega))
                           obtain ⟨ua272_1, uc272_1, ua272_31, uc272_31, rfl, ul272_1, ge272_1, ul272_31, ge272_31⟩ := k43_openF hMe272
                           have hv272_1 := hcc272 1 _ rfl
                           rw [add_field _ _ 1 (by omega)] at hv272_1
                           replace hv272_1 := Option.some.inj (hv272_1.symm.trans hx272_1)
                           injection hv272_1 with hva_ hvn_ hvc_
                           rw [hva_] at ge272_1
                           rw [hvc_] at ul272_1
                           have HL272_1 := Aside0.mk (show Kd.V (Kd.int .i64) 3 _ w.heap.size _ _ ((rd_T43 t264 (rd ((rd_T43 t264 x6_1).f1) x7_2)).f1) from Kd.V_mk ul272_1 ge272_1)
                           clear hva_ hvn_ hvc_ ge272_1 ul272_1
                           have hv272_31 := hcc272 31 _ rfl
                           rw [add_field _ _ 31 (by omega)] at hv272_31
                           replace hv272_31 := Option.some.inj (hv272_31.symm.trans hx272_31)
                           injection hv272_31 with hva_ hvn_ hvc_
                           rw [hva_] at ge272_31
                           rw [hvc_] at ul272_31
                           have HL272_31 := Aside0.mk (show Kd.V (Kd.int .i64) 2 _ w.heap.size _ _ ((rd_T43 t264 (rd ((rd_T43 t264 x6_1).f1) x7_2)).f3) from Kd.V_mk ul272_31 ge272_31)
                           clear hva_ hvn_ hvc_ ge272_31 ul272_31
                           clear hcc272 hce272
                           have HR272_1 := Aside0.mk hi272_1
                           have HC272_1 := Aside0.mk hl272_1
                           clear hi272_1 hl272_1
                           have HR272_31 := Aside0.mk hi272_31
                           have HC272_31 := Aside0.mk hl272_31
                           clear hi272_31 hl272_31
                           replace p272 := eq_true p272
                           replace q272 := eq_true q272
                           refine start_ (n := 22) (S := fun w' => w'.cell? (ad268.add ((x6_1).toNat * 34)) = some (.int .i64 ((rd_T43 t264 x6_1).f0)) ∧ w'.cell? ⟨(ad268.add ((x6_1).toNat * 34)).block, (ad268.add ((x6_1).toNat * 34)).off + 1, none⟩ = some (.slice A271_1 ((rd_T43 t264 x6_1).f1).length c271_1) ∧ w'.cell? ⟨(ad268.add ((x6_1).toNat * 34)).block, (ad268.add ((x6_1).toNat * 34)).off + 2, none⟩ = some (.int .i64 ((rd_T43 t264 x6_1).f2.f0.f0)) ∧ w'.cell? ⟨(ad268.add ((x6_1).toNat * 34)).block, (ad268.add ((x6_1).toNat * 34)).off + 3, none⟩ = some (.int .i64 ((rd_T43 t264 x6_1).f2.f0.f1)) ∧ w'.cell? ⟨(ad268.add ((x6_1).toNat * 34)).block, (ad268.add ((x6_1).toNat * 34)).off + 4, none⟩ = some (.int .i64 ((rd_T43 t264 x6_1).f2.f1.f0)) ∧ w'.cell? ⟨(ad268.add ((x6_1).toNat * 34)).block, (ad268.add ((x6_1).toNat * 34)).off + 5, none⟩ = some (.int .i64 ((rd_T43 t264 x6_1).f2.f1.f1)) ∧ w'.cell? ⟨(ad268.add ((x6_1).toNat * 34)).block, (ad268.add ((x6_1).toNat * 34)).off + 6, none⟩ = some (.int .i64 ((rd_T43 t264 x6_1).f2.f2.f0)) ∧ w'.cell? ⟨(ad268.add ((x6_1).toNat * 34)).block, (ad268.add ((x6_1).toNat * 34)).off + 7, none⟩ = some (.int .i64 ((rd_T43 t264 x6_1).f2.f2.f1)) ∧ w'.cell? ⟨(ad268.add ((x6_1).toNat * 34)).block, (ad268.add ((x6_1).toNat * 34)).off + 8, none⟩ = some (.int .i64 ((rd_T43 t264 x6_1).f2.f2.f2)) ∧ w'.cell? ⟨(ad268.add ((x6_1).toNat * 34)).block, (ad268.add ((x6_1).toNat * 34)).off + 9, none⟩ = some (.int .i64 ((rd_T43 t264 x6_1).f2.f2.f3)) ∧ w'.cell? ⟨(ad268.add ((x6_1).toNat * 34)).block, (ad268.add ((x6_1).toNat * 34)).off + 10, none⟩ = some (.int .i64 ((rd_T43 t264 x6_1).f2.f3.f0.f0)) ∧ w'.cell? ⟨(ad268.add ((x6_1).toNat * 34)).block, (ad268.add ((x6_1).toNat * 34)).off + 11, none⟩ = some (.int .i64 ((rd_T43 t264 x6_1).f2.f3.f0.f1)) ∧ w'.cell? ⟨(ad268.add ((x6_1).toNat * 34)).block, (ad268.add ((x6_1).toNat * 34)).off + 12, none⟩ = some (.int .u32 ((rd_T43 t264 x6_1).f2.f3.f0.f2)) ∧ w'.cell? ⟨(ad268.add ((x6_1).toNat * 34)).block, (ad268.add ((x6_1).toNat * 34)).off + 13, none⟩ = some (.int .i64 ((rd_T43 t264 x6_1).f2.f3.f1.f0)) ∧ w'.cell? ⟨(ad268.add ((x6_1).toNat * 34)).block, (ad268.add ((x6_1).toNat * 34)).off + 14, none⟩ = some (.int .i64 ((rd_T43 t264 x6_1).f2.f3.f1.f1)) ∧ w'.cell? ⟨(ad268.add ((x6_1).toNat * 34)).block, (ad268.add ((x6_1).toNat * 34)).off + 15, none⟩ = some (.int .u32 ((rd_T43 t264 x6_1).f2.f3.f1.f2)) ∧ w'.cell? ⟨(ad268.add ((x6_1).toNat * 34)).block, (ad268.add ((x6_1).toNat * 34)).off + 16, none⟩ = some (.int .i64 ((rd_T43 t264 x6_1).f2.f3.f2.f0)) ∧ w'.cell? ⟨(ad268.add ((x6_1).toNat * 34)).block, (ad268.add ((x6_1).toNat * 34)).off + 17, none⟩ = some (.int .i64 ((rd_T43 t264 x6_1).f2.f3.f2.f1)) ∧ w'.cell? ⟨(ad268.add ((x6_1).toNat * 34)).block, (ad268.add ((x6_1).toNat * 34)).off + 18, none⟩ = some (.int .u32 ((rd_T43 t264 x6_1).f2.f3.f2.f2)) ∧ w'.cell? ⟨(ad268.add ((x6_1).toNat * 34)).block, (ad268.add ((x6_1).toNat * 34)).off + 19, none⟩ = some (.int .i64 ((rd_T43 t264 x6_1).f2.f3.f3.f0)) ∧ w'.cell? ⟨(ad268.add ((x6_1).toNat * 34)).block, (ad268.add ((x6_1).toNat * 34)).off + 20, none⟩ = some (.int .i64 ((rd_T43 t264 x6_1).f2.f3.f3.f1)) ∧ w'.cell? ⟨(ad268.add ((x6_1).toNat * 34)).block, (ad268.add ((x6_1).toNat * 34)).off + 21, none⟩ = some (.int .u32 ((rd_T43 t264 x6_1).f2.f3.f3.f2)) ∧ w'.cell? ⟨(ad268.add ((x6_1).toNat * 34)).block, (ad268.add ((x6_1).toNat * 34)).off + 22, none⟩ = some (.int .i64 ((rd_T43 t264 x6_1).f2.f4)) ∧ w'.cell? ⟨(ad268.add ((x6_1).toNat * 34)).block, (ad268.add ((x6_1).toNat * 34)).off + 23, none⟩ = some (.int .i64 ((rd_T43 t264 x6_1).f2.f5)) ∧ w'.cell? ⟨(ad268.add ((x6_1).toNat * 34)).block, (ad268.add ((x6_1).toNat * 34)).off + 24, none⟩ = some (.int .i64 ((rd_T43 t264 x6_1).f2.f6)) ∧ w'.cell? ⟨(ad268.add ((x6_1).toNat * 34)).block, (ad268.add ((x6_1).toNat * 34)).off + 25, none⟩ = some (.bool ((rd_T43 t264 x6_1).f2.f7)) ∧ w'.cell? ⟨(ad268.add ((x6_1).toNat * 34)).block, (ad268.add ((x6_1).toNat * 34)).off + 26, none⟩ = some (.bool ((rd_T43 t264 x6_1).f2.f8)) ∧ w'.cell? ⟨(ad268.add ((x6_1).toNat * 34)).block, (ad268.add ((x6_1).toNat * 34)).off + 27, none⟩ = some (.int .i64 ((rd_T43 t264 x6_1).f2.f9.f0)) ∧ w'.cell? ⟨(ad268.add ((x6_1).toNat * 34)).block, (ad268.add ((x6_1).toNat * 34)).off + 28, none⟩ = some (.int .i64 ((rd_T43 t264 x6_1).f2.f9.f1)) ∧ w'.cell? ⟨(ad268.add ((x6_1).toNat * 34)).block, (ad268.add ((x6_1).toNat * 34)).off + 29, none⟩ = some (.bool ((rd_T43 t264 x6_1).f2.f10)) ∧ w'.cell? ⟨(ad268.add ((x6_1).toNat * 34)).block, (ad268.add ((x6_1).toNat * 34)).off + 30, none⟩ = some (.bool ((rd_T43 t264 x6_1).f2.f11)) ∧ w'.cell? ⟨(ad268.add ((x6_1).toNat * 34)).block, (ad268.add ((x6_1).toNat * 34)).off + 31, none⟩ = some (.slice A271_31 ((rd_T43 t264 x6_1).f3).length c271_31) ∧ w'.cell? ⟨(ad268.add ((x6_1).toNat * 34)).block, (ad268.add ((x6_1).toNat * 34)).off + 32, none⟩ = some (.int .i64 ((rd_T43 t264 x6_1).f4)) ∧ w'.cell? ⟨(ad268.add ((x6_1).toNat * 34)).block, (ad268.add ((x6_1).toNat * 34)).off + 33, none⟩ = some (.int .i64 ((rd_T43 t264 x6_1).f5)) ∧ w'.cell? (ad268.add (((rd ((rd_T43 t264 x6_1).f1) x7_2)).toNat * 34)) = some (.int .i64 ((rd_T43 t264 (rd ((rd_T43 t264 x6_1).f1) x7_2)).f0)) ∧ w'.cell? ⟨(ad268.add (((rd ((rd_T43 t264 x6_1).f1) x7_2)).toNat * 34)).block, (ad268.add (((rd ((rd_T43 t264 x6_1).f1) x7_2)).toNat * 34)).off + 1, none⟩ = some (.slice A272_1 ((rd_T43 t264 (rd ((rd_T43 t264 x6_1).f1) x7_2)).f1).length c272_1) ∧ w'.cell? ⟨(ad268.add (((rd ((rd_T43 t264 x6_1).f1) x7_2)).toNat * 34)).block, (ad268.add (((rd ((rd_T43 t264 x6_1).f1) x7_2)).toNat * 34)).off + 2, none⟩ = some (.int .i64 ((rd_T43 t264 (rd ((rd_T43 t264 x6_1).f1) x7_2)).f2.f0.f0)) ∧ w'.cell? ⟨(ad268.add (((rd ((rd_T43 t264 x6_1).f1) x7_2)).toNat * 34)).block, (ad268.add (((rd ((rd_T43 t264 x6_1).f1) x7_2)).toNat * 34)).off + 3, none⟩ = some (.int .i64 ((rd_T43 t264 (rd ((rd_T43 t264 x6_1).f1) x7_2)).f2.f0.f1)) ∧ w'.cell? ⟨(ad268.add (((rd ((rd_T43 t264 x6_1).f1) x7_2)).toNat * 34)).block, (ad268.add (((rd ((rd_T43 t264 x6_1).f1) x7_2)).toNat * 34)).off + 4, none⟩ = some (.int .i64 ((rd_T43 t264 (rd ((rd_T43 t264 x6_1).f1) x7_2)).f2.f1.f0)) ∧ w'.cell? ⟨(ad268.add (((rd ((rd_T43 t264 x6_1).f1) x7_2)).toNat * 34)).block, (ad268.add (((rd ((rd_T43 t264 x6_1).f1) x7_2)).toNat * 34)).off + 5, none⟩ = some (.int .i64 ((rd_T43 t264 (rd ((rd_T43 t264 x6_1).f1) x7_2)).f2.f1.f1)) ∧ w'.cell? ⟨(ad268.add (((rd ((rd_T43 t264 x6_1).f1) x7_2)).toNat * 34)).block, (ad268.add (((rd ((rd_T43 t264 x6_1).f1) x7_2)).toNat * 34)).off + 6, none⟩ = some (.int .i64 ((rd_T43 t264 (rd ((rd_T43 t264 x6_1).f1) x7_2)).f2.f2.f0)) ∧ w'.cell? ⟨(ad268.add (((rd ((rd_T43 t264 x6_1).f1) x7_2)).toNat * 34)).block, (ad268.add (((rd ((rd_T43 t264 x6_1).f1) x7_2)).toNat * 34)).off + 7, none⟩ = some (.int .i64 ((rd_T43 t264 (rd ((rd_T43 t264 x6_1).f1) x7_2)).f2.f2.f1)) ∧ w'.cell? ⟨(ad268.add (((rd ((rd_T43 t264 x6_1).f1) x7_2)).toNat * 34)).block, (ad268.add (((rd ((rd_T43 t264 x6_1).f1) x7_2)).toNat * 34)).off + 8, none⟩ = some (.int .i64 ((rd_T43 t264 (rd ((rd_T43 t264 x6_1).f1) x7_2)).f2.f2.f2)) ∧ w'.cell? ⟨(ad268.add (((rd ((rd_T43 t264 x6_1).f1) x7_2)).toNat * 34)).block, (ad268.add (((rd ((rd_T43 t264 x6_1).f1) x7_2)).toNat * 34)).off + 9, none⟩ = some (.int .i64 ((rd_T43 t264 (rd ((rd_T43 t264 x6_1).f1) x7_2)).f2.f2.f3)) ∧ w'.cell? ⟨(ad268.add (((rd ((rd_T43 t264 x6_1).f1) x7_2)).toNat * 34)).block, (ad268.add (((rd ((rd_T43 t264 x6_1).f1) x7_2)).toNat * 34)).off + 10, none⟩ = some (.int .i64 ((rd_T43 t264 (rd ((rd_T43 t264 x6_1).f1) x7_2)).f2.f3.f0.f0)) ∧ w'.cell? ⟨(ad268.add (((rd ((rd_T43 t264 x6_1).f1) x7_2)).toNat * 34)).block, (ad268.add (((rd ((rd_T43 t264 x6_1).f1) x7_2)).toNat * 34)).off + 11, none⟩ = some (.int .i64 ((rd_T43 t264 (rd ((rd_T43 t264 x6_1).f1) x7_2)).f2.f3.f0.f1)) ∧ w'.cell? ⟨(ad268.add (((rd ((rd_T43 t264 x6_1).f1) x7_2)).toNat * 34)).block, (ad268.add (((rd ((rd_T43 t264 x6_1).f1) x7_2)).toNat * 34)).off + 12, none⟩ = some (.int .u32 ((rd_T43 t264 (rd ((rd_T43 t264 x6_1).f1) x7_2)).f2.f3.f0.f2)) ∧ w'.cell? ⟨(ad268.add (((rd ((rd_T43 t264 x6_1).f1) x7_2)).toNat * 34)).block, (ad268.add (((rd ((rd_T43 t264 x6_1).f1) x7_2)).toNat * 34)).off + 13, none⟩ = some (.int .i64 ((rd_T43 t264 (rd ((rd_T43 t264 x6_1).f1) x7_2)).f2.f3.f1.f0)) ∧ w'.cell? ⟨(ad268.add (((rd ((rd_T43 t264 x6_1).f1) x7_2)).toNat * 34)).block, (ad268.add (((rd ((rd_T43 t264 x6_1).f1) x7_2)).toNat * 34)).off + 14, none⟩ = some (.int .i64 ((rd_T43 t264 (rd ((rd_T43 t264 x6_1).f1) x7_2)).f2.f3.f1.f1)) ∧ w'.cell? ⟨(ad268.add (((rd ((rd_T43 t264 x6_1).f1) x7_2)).toNat * 34)).block, (ad268.add (((rd ((rd_T43 t264 x6_1).f1) x7_2)).toNat * 34)).off + 15, none⟩ = some (.int .u32 ((rd_T43 t264 (rd ((rd_T43 t264 x6_1).f1) x7_2)).f2.f3.f1.f2)) ∧ w'.cell? ⟨(ad268.add (((rd ((rd_T43 t264 x6_1).f1) x7_2)).toNat * 34)).block, (ad268.add (((rd ((rd_T43 t264 x6_1).f1) x7_2)).toNat * 34)).off + 16, none⟩ = some (.int .i64 ((rd_T43 t264 (rd ((rd_T43 t264 x6_1).f1) x7_2)).f2.f3.f2.f0)) ∧ w'.cell? ⟨(ad268.add (((rd ((rd_T43 t264 x6_1).f1) x7_2)).toNat * 34)).block, (ad268.add (((rd ((rd_T43 t264 x6_1).f1) x7_2)).toNat * 34)).off + 17, none⟩ = some (.int .i64 ((rd_T43 t264 (rd ((rd_T43 t264 x6_1).f1) x7_2)).f2.f3.f2.f1)) ∧ w'.cell? ⟨(ad268.add (((rd ((rd_T43 t264 x6_1).f1) x7_2)).toNat * 34)).block, (ad268.add (((rd ((rd_T43 t264 x6_1).f1) x7_2)).toNat * 34)).off + 18, none⟩ = some (.int .u32 ((rd_T43 t264 (rd ((rd_T43 t264 x6_1).f1) x7_2)).f2.f3.f2.f2)) ∧ w'.cell? ⟨(ad268.add (((rd ((rd_T43 t264 x6_1).f1) x7_2)).toNat * 34)).block, (ad268.add (((rd ((rd_T43 t264 x6_1).f1) x7_2)).toNat * 34)).off + 19, none⟩ = some (.int .i64 ((rd_T43 t264 (rd ((rd_T43 t264 x6_1).f1) x7_2)).f2.f3.f3.f0)) ∧ w'.cell? ⟨(ad268.add (((rd ((rd_T43 t264 x6_1).f1) x7_2)).toNat * 34)).block, (ad268.add (((rd ((rd_T43 t264 x6_1).f1) x7_2)).toNat * 34)).off + 20, none⟩ = some (.int .i64 ((rd_T43 t264 (rd ((rd_T43 t264 x6_1).f1) x7_2)).f2.f3.f3.f1)) ∧ w'.cell? ⟨(ad268.add (((rd ((rd_T43 t264 x6_1).f1) x7_2)).toNat * 34)).block, (ad268.add (((rd ((rd_T43 t264 x6_1).f1) x7_2)).toNat * 34)).off + 21, none⟩ = some (.int .u32 ((rd_T43 t264 (rd ((rd_T43 t264 x6_1).f1) x7_2)).f2.f3.f3.f2)) ∧ w'.cell? ⟨(ad268.add (((rd ((rd_T43 t264 x6_1).f1) x7_2)).toNat * 34)).block, (ad268.add (((rd ((rd_T43 t264 x6_1).f1) x7_2)).toNat * 34)).off + 22, none⟩ = some (.int .i64 ((rd_T43 t264 (rd ((rd_T43 t264 x6_1).f1) x7_2)).f2.f4)) ∧ w'.cell? ⟨(ad268.add (((rd ((rd_T43 t264 x6_1).f1) x7_2)).toNat * 34)).block, (ad268.add (((rd ((rd_T43 t264 x6_1).f1) x7_2)).toNat * 34)).off + 23, none⟩ = some (.int .i64 ((rd_T43 t264 (rd ((rd_T43 t264 x6_1).f1) x7_2)).f2.f5)) ∧ w'.cell? ⟨(ad268.add (((rd ((rd_T43 t264 x6_1).f1) x7_2)).toNat * 34)).block, (ad268.add (((rd ((rd_T43 t264 x6_1).f1) x7_2)).toNat * 34)).off + 24, none⟩ = some (.int .i64 ((rd_T43 t264 (rd ((rd_T43 t264 x6_1).f1) x7_2)).f2.f6)) ∧ w'.cell? ⟨(ad268.add (((rd ((rd_T43 t264 x6_1).f1) x7_2)).toNat * 34)).block, (ad268.add (((rd ((rd_T43 t264 x6_1).f1) x7_2)).toNat * 34)).off + 25, none⟩ = some (.bool ((rd_T43 t264 (rd ((rd_T43 t264 x6_1).f1) x7_2)).f2.f7)) ∧ w'.cell? ⟨(ad268.add (((rd ((rd_T43 t264 x6_1).f1) x7_2)).toNat * 34)).block, (ad268.add (((rd ((rd_T43 t264 x6_1).f1) x7_2)).toNat * 34)).off + 26, none⟩ = some (.bool ((rd_T43 t264 (rd ((rd_T43 t264 x6_1).f1) x7_2)).f2.f8)) ∧ w'.cell? ⟨(ad268.add (((rd ((rd_T43 t264 x6_1).f1) x7_2)).toNat * 34)).block, (ad268.add (((rd ((rd_T43 t264 x6_1).f1) x7_2)).toNat * 34)).off + 27, none⟩ = some (.int .i64 ((rd_T43 t264 (rd ((rd_T43 t264 x6_1).f1) x7_2)).f2.f9.f0)) ∧ w'.cell? ⟨(ad268.add (((rd ((rd_T43 t264 x6_1).f1) x7_2)).toNat * 34)).block, (ad268.add (((rd ((rd_T43 t264 x6_1).f1) x7_2)).toNat * 34)).off + 28, none⟩ = some (.int .i64 ((rd_T43 t264 (rd ((rd_T43 t264 x6_1).f1) x7_2)).f2.f9.f1)) ∧ w'.cell? ⟨(ad268.add (((rd ((rd_T43 t264 x6_1).f1) x7_2)).toNat * 34)).block, (ad268.add (((rd ((rd_T43 t264 x6_1).f1) x7_2)).toNat * 34)).off + 29, none⟩ = some (.bool ((rd_T43 t264 (rd ((rd_T43 t264 x6_1).f1) x7_2)).f2.f10)) ∧ w'.cell? ⟨(ad268.add (((rd ((rd_T43 t264 x6_1).f1) x7_2)).toNat * 34)).block, (ad268.add (((rd ((rd_T43 t264 x6_1).f1) x7_2)).toNat * 34)).off + 30, none⟩ = some (.bool ((rd_T43 t264 (rd ((rd_T43 t264 x6_1).f1) x7_2)).f2.f11)) ∧ w'.cell? ⟨(ad268.add (((rd ((rd_T43 t264 x6_1).f1) x7_2)).toNat * 34)).block, (ad268.add (((rd ((rd_T43 t264 x6_1).f1) x7_2)).toNat * 34)).off + 31, none⟩ = some (.slice A272_31 ((rd_T43 t264 (rd ((rd_T43 t264 x6_1).f1) x7_2)).f3).length c272_31) ∧ w'.cell? ⟨(ad268.add (((rd ((rd_T43 t264 x6_1).f1) x7_2)).toNat * 34)).block, (ad268.add (((rd ((rd_T43 t264 x6_1).f1) x7_2)).toNat * 34)).off + 32, none⟩ = some (.int .i64 ((rd_T43 t264 (rd ((rd_T43 t264 x6_1).f1) x7_2)).f4)) ∧ w'.cell? ⟨(ad268.add (((rd ((rd_T43 t264 x6_1).f1) x7_2)).toNat * 34)).block, (ad268.add (((rd ((rd_T43 t264 x6_1).f1) x7_2)).toNat * 34)).off + 33, none⟩ = some (.int .i64 ((rd_T43 t264 (rd ((rd_T43 t264 x6_1).f1) x7_2)).f5))) (ds := []) #[false, false, false, false, false, false, false, false, false, false, false, false, false, false, false, false, false, false, false, false, false, false] (by kernel_rfl) rfl rfl ⟨hx271_0, hx271_1, hx271_2, hx271_3, hx271_4, hx271_5, hx271_6, hx271_7, hx271_8, hx271_9, hx271_10, hx271_11, hx271_12, hx271_13, hx271_14, hx271_15, hx271_16, hx271_17, hx271_18, hx271_19, hx271_20, hx271_21, hx271_22, hx271_23, hx271_24, hx271_25, hx271_26, hx271_27, hx271_28, hx271_29, hx271_30, hx271_31, hx271_32, hx271_33, hx272_0, hx272_1, hx272_2, hx272_3, hx272_4, hx272_5, hx272_6, hx272_7, hx272_8, hx272_9, hx272_10, hx272_11, hx272_12, hx272_13, hx272_14, hx272_15, hx272_16, hx272_17, hx272_18, hx272_19, hx272_20, hx272_21, hx272_22, hx272_23, hx272_24, hx272_25, hx272_26, hx272_27, hx272_28, hx272_29, hx272_30, hx272_31, hx272_32, hx272_33⟩ (fun hHeld => ?_); refine with_tabW purflinglaw05_FixupStands.tab12 purflinglaw05_FixupStands.bits12 (fun HT_ HW_ => ?_)
                           generalize wr.drew = w26 at HO_4 HL268_1 HL268_31 HL269_1 HL269_31 HR268_1 HR268_31 HR269_1 HR269_31 HB HL271_1 HL271_31 HL272_1 HL272_31 HR271_1 HR271_31 HR272_1 HR272_31 hx271_0 hx271_1 hx271_10 hx271_11 hx271_12 hx271_13 hx271_14 hx271_15 hx271_16 hx271_17 hx271_18 hx271_19 hx271_2 hx271_20 hx271_21 hx271_22 hx271_23 hx271_24 hx271_25 hx271_26 hx271_27 hx271_28 hx271_29 hx271_3 hx271_30 hx271_31 hx271_32 hx271_33 hx271_4 hx271_5 hx271_6 hx271_7 hx271_8 hx271_9 hx272_0 hx272_1 hx272_10 hx272_11 hx272_12 hx272_13 hx272_14 hx272_15 hx272_16 hx272_17 hx272_18 hx272_19 hx272_2 hx272_20 hx272_21 hx272_22 hx272_23 hx272_24 hx272_25 hx272_26 hx272_27 hx272_28 hx272_29 hx272_3 hx272_30 hx272_31 hx272_32 hx272_33 hx272_4 hx272_5 hx272_6 hx272_7 hx272_8 hx272_9 hHeld ⊢
                           refine pure_ (i := 0) (N := some 43) (v := ?_) (a' := ?_) #[true, false, false, false, false, false, false, false, false, false, false, false, false, false, false, false, false, false, false, false, false, false] rfl rfl (any_of HT_.out (by kernel_rfl)) (fun _ _ _ h => h) (Or.inl ⟨by rfl, ?_⟩) ?_ ?_
                           rotate_left
                           · intro w'
                             go_simp
                             with_reducible rfl
                           rotate_left
                           · simp only [Act.put, List.setIfInBounds_toArray, List.set_cons_zero, List.set_cons_succ, i64_w, i32_w]
                             rfl
                           refine pure_ (i := 1) (N := some 44) (v := ?_) (a' := ?_) #[true, true, false, false, false, false, false, false, false, false, false, false, false, false, false, false, false, false, false, false, false, false] rfl rfl (any_of HT_.out (by kernel_rfl)) (fun _ _ _ h => h) (Or.inl ⟨by rfl, ?_⟩) ?_ ?_
                           rotate_left
                           · intro w'
                             go_simp
                             with_reducible rfl
                           rotate_left
                           · simp only [Act.put, List.setIfInBounds_toArray, List.set_cons_zero, List.set_cons_succ, i64_w, i32_w]
                             rfl
                           refine pure_ (i := 2) (N := some 45) (v := ?_) (a' := ?_) #[true, true, true, false, false, false, false, false, false, false, false, false, false, false, false, false, false, false, false, false, false, false] rfl rfl (any_of HT_.out (by kernel_rfl)) (fun _ _ _ h => h) (Or.inl ⟨by rfl, ?_⟩) ?_ ?_
                           rotate_left
                           · intro w'
                             go_simp
                             with_reducible rfl
                           rotate_left
                           · simp only [Act.put, List.setIfInBounds_toArray, List.set_cons_zero, List.set_cons_succ, i64_w, i32_w]
                             rfl
                           refine pure_ (i := 3) (N := some 46) (v := ?_) (a' := ?_) #[true, true, true, true, false, false, false, false, false, false, false, false, false, false, false, false, false, false, false, false, false, false] rfl rfl (any_of HT_.out (by kernel_rfl)) (fun _ _ _ h => h) (Or.inl ⟨by rfl, ?_⟩) ?_ ?_
                           rotate_left
                           · intro w'
                             go_simp
                             with_reducible rfl
                           rotate_left
                           · simp only [Act.put, List.setIfInBounds_toArray, List.set_cons_zero, List.set_cons_succ, i64_w, i32_w]
                             rfl
                           refine pure_ (i := 4) (N := some 47) (v := ?_) (a' := ?_) #[true, true, true, true, true, false, false, false, false, false, false, false, false, false, false, false, false, false, false, false, false, false] rfl rfl (any_of HT_.out (by kernel_rfl)) (fun _ _ _ h => h) (Or.inl ⟨by rfl, ?_⟩) ?_ ?_
                           rotate_left
                           · intro w'
                             go_simp
                             with_reducible rfl
                           rotate_left
                           · simp only [Act.put, List.setIfInBounds_toArray, List.set_cons_zero, List.set_cons_succ, i64_w, i32_w]
                             rfl
                           refine pure_ (i := 5) (N := some 48) (v := ?_) (a' := ?_) #[true, true, true, true, true, true, false, false, false, false, false, false, false, false, false, false, false, false, false, false, false, false] rfl rfl (any_of HT_.out (by kernel_rfl)) (fun _ _ _ h => h) (Or.inl ⟨by rfl, ?_⟩) ?_ ?_
                           rotate_left
                           · intro w'
                             go_simp
                             with_reducible rfl
                           rotate_left
                           · simp only [Act.put, List.setIfInBounds_toArray, List.set_cons_zero, List.set_cons_succ, i64_w, i32_w]
                             rfl
                           refine pure_ (i := 6) (N := some 49) (v := ?_) (a' := ?_) #[true, true, true, true, true, true, true, false, false, false, false, false, false, false, false, false, false, false, false, false, false, false] rfl rfl (any_of HT_.out (by kernel_rfl)) (fun _ _ _ h => h) (Or.inl ⟨by rfl, ?_⟩) ?_ ?_
                           rotate_left
                           · intro w'
                             go_simp
                             with_reducible rfl
                           rotate_left
                           · simp only [Act.put, List.setIfInBounds_toArray, List.set_cons_zero, List.set_cons_succ, i64_w, i32_w]
                             rfl
                           refine pure_ (i := 7) (N := some 50) (v := ?_) (a' := ?_) #[true, true, true, true, true, true, true, true, false, false, false, false, false, false, false, false, false, false, false, false, false, false] rfl rfl (any_of HT_.out (by kernel_rfl)) (fun _ _ _ h => h) (Or.inl ⟨by rfl, ?_⟩) ?_ ?_
                           rotate_left
                           · intro w'
                             go_simp
                             with_reducible rfl
                           rotate_left
                           · simp only [Act.put, List.setIfInBounds_toArray, List.set_cons_zero, List.set_cons_succ, i64_w, i32_w]
                             rfl
                           refine pure_ (i := 8) (N := some 51) (v := ?_) (a' := ?_) #[true, true, true, true, true, true, true, true, true, false, false, false, false, false, false, false, false, false, false, false, false, false] rfl rfl (any_of HT_.out (by kernel_rfl)) (fun _ _ _ h => h) (Or.inl ⟨by rfl, ?_⟩) ?_ ?_
                           rotate_left
                           · intro w'
                             go_simp
                             with_reducible rfl
                           rotate_left
                           · simp only [Act.put, List.setIfInBounds_toArray, List.set_cons_zero, List.set_cons_succ, i64_w, i32_w]
                             rfl
                           refine pure_ (i := 9) (N := some 52) (v := ?_) (a' := ?_) #[true, true, true, true, true, true, true, true, true, true, false, false, false, false, false, false, false, false, false, false, false, false] rfl rfl (any_of HT_.out (by kernel_rfl)) (fun _ _ _ h => h) (Or.inl ⟨by rfl, ?_⟩) ?_ ?_
                           rotate_left
                           · intro w'
                             go_simp
                             with_reducible rfl
                           rotate_left
                           · simp only [Act.put, List.setIfInBounds_toArray, List.set_cons_zero, List.set_cons_succ, i64_w, i32_w]
                             rfl
                           refine pure_ (i := 10) (N := some 53) (v := ?_) (a' := ?_) #[true, true, true, true, true, true, true, true, true, true, true, false, false, false, false, false, false, false, false, false, false, false] rfl rfl (any_of HT_.out (by kernel_rfl)) (fun _ _ _ h => h) (Or.inl ⟨by rfl, ?_⟩) ?_ ?_
                           rotate_left
                           · intro w'
                             go_simp
                             with_reducible rfl
                           rotate_left
                           · simp only [Act.put, List.setIfInBounds_toArray, List.set_cons_zero, List.set_cons_succ, i64_w, i32_w]
                             rfl
                           refine pure_ (i := 11) (N := some 54) (v := ?_) (a' := ?_) #[true, true, true, true, true, true, true, true, true, true, true, true, false, false, false, false, false, false, false, false, false, false] rfl rfl (any_of HT_.out (by kernel_rfl)) (fun _ _ _ h => h) (Or.inl ⟨by rfl, ?_⟩) ?_ ?_
                           rotate_left
                           · intro w'
                             go_simp
                             with_reducible rfl
                           rotate_left
                           · simp only [Act.put, List.setIfInBounds_toArray, List.set_cons_zero, List.set_cons_succ, i64_w, i32_w]
                             rfl
                           refine pure_ (i := 12) (N := some 55) (v := ?_) (a' := ?_) #[true, true, true, true, true, true, true, true, true, true, true, true, true, false, false, false, false, false, false, false, false, false] rfl rfl (any_of HT_.out (by kernel_rfl)) (fun _ _ _ h => h) (Or.inl ⟨by rfl, ?_⟩) ?_ ?_
                           rotate_left
                           · intro w'
                             go_simp
                             with_reducible rfl
                           rotate_left
                           · simp only [Act.put, List.setIfInBounds_toArray, List.set_cons_zero, List.set_cons_succ, i64_w, i32_w]
                             rfl
                           refine pure_ (i := 14) (N := some 57) (v := ?_) (a' := ?_) #[true, true, true, true, true, true, true, true, true, true, true, true, true, false, true, false, false, false, false, false, false, false] rfl rfl (any_of HT_.out (by kernel_rfl)) (fun _ _ _ h => h) (Or.inl ⟨by rfl, ?_⟩) ?_ ?_
                           rotate_left
                           · intro w'
                             go_simp
                             with_reducible rfl
                           rotate_left
                           · simp only [Act.put, List.setIfInBounds_toArray, List.set_cons_zero, List.set_cons_succ, i64_w, i32_w]
                             rfl
                           refine pure_ (i := 15) (N := some 58) (v := ?_) (a' := ?_) #[true, true, true, true, true, true, true, true, true, true, true, true, true, false, true, true, false, false, false, false, false, false] rfl rfl (any_of HT_.out (by kernel_rfl)) (fun _ _ _ h => h) (Or.inl ⟨by rfl, ?_⟩) ?_ ?_
                           rotate_left
                           · intro w'
                             go_simp
                             with_reducible rfl
                           rotate_left
                           · simp only [Act.put, List.setIfInBounds_toArray, List.set_cons_zero, List.set_cons_succ, i64_w, i32_w]
                             rfl
                           refine pure_ (i := 16) (N := some 59) (v := ?_) (a' := ?_) #[true, true, true, true, true, true, true, true, true, true, true, true, true, false, true, true, true, false, false, false, false, false] rfl rfl (any_of HT_.out (by kernel_rfl)) (fun _ _ _ h => h) (Or.inl ⟨by rfl, ?_⟩) ?_ ?_
                           rotate_left
                           · intro w'
                             go_simp
                             with_reducible rfl
                           rotate_left
                           · simp only [Act.put, List.setIfInBounds_toArray, List.set_cons_zero, List.set_cons_succ, i64_w, i32_w]
                             rfl
                           refine pure_ (i := 17) (N := some 60) (v := ?_) (a' := ?_) #[true, true, true, true, true, true, true, true, true, true, true, true, true, false, true, true, true, true, false, false, false, false] rfl rfl (any_of HT_.out (by kernel_rfl)) (fun _ _ _ h => h) (Or.inl ⟨by rfl, ?_⟩) ?_ ?_
                           rotate_left
                           · intro w'
                             go_simp
                             with_reducible rfl
                           rotate_left
                           · simp only [Act.put, List.setIfInBounds_toArray, List.set_cons_zero, List.set_cons_succ, i64_w, i32_w]
                             rfl
                           refine take_ (i := 13) (N := some 56) (v := ?_) (a' := ?_) #[true, true, true, true, true, true, true, true, true, true, true, true, true, true, true, true, true, true, false, false, false, false] rfl rfl (take_ofW HT_.out HW_.out (by kernel_rfl)) (fun _ _ _ h => h) (Or.inl ⟨by rfl, ?_⟩) hHeld ?_ ?_
                           rotate_left
                           · rintro w' ⟨s0, s1, s2, s3, s4, s5, s6, s7, s8, s9, s10, s11, s12, s13, s14, s15, s16, s17, s18, s19, s20, s21, s22, s23, s24, s25, s26, s27, s28, s29, s30, s31, s32, s33, s34, s35, s36, s37, s38, s39, s40, s41, s42, s43, s44, s45, s46, s47, s48, s49, s50, s51, s52, s53, s54, s55, s56, s57, s58, s59, s60, s61, s62, s63, s64, s65, s66, s67⟩
                             go_simp
                             with_reducible rfl
                           rotate_left
                           · simp only [Act.put, List.setIfInBounds_toArray, List.set_cons_zero, List.set_cons_succ, i64_w, i32_w]
                             rfl
                           refine take_ (i := 18) (N := some 61) (v := ?_) (a' := ?_) #[true, true, true, true, true, true, true, true, true, true, true, true, true, true, true, true, true, true, true, false, false, false] rfl rfl (take_ofW HT_.out HW_.out (by kernel_rfl)) (fun _ _ _ h => h) (Or.inl ⟨by rfl, ?_⟩) hHeld ?_ ?_
                           rotate_left
                           · rintro w' ⟨s0, s1, s2, s3, s4, s5, s6, s7, s8, s9, s10, s11, s12, s13, s14, s15, s16, s17, s18, s19, s20, s21, s22, s23, s24, s25, s26, s27, s28, s29, s30, s31, s32, s33, s34, s35, s36, s37, s38, s39, s40, s41, s42, s43, s44, s45, s46, s47, s48, s49, s50, s51, s52, s53, s54, s55, s56, s57, s58, s59, s60, s61, s62, s63, s64, s65, s66, s67⟩
                             go_simp
                             with_reducible rfl
                           rotate_left
                           · simp only [Act.put, List.setIfInBounds_toArray, List.set_cons_zero, List.set_cons_succ, i64_w, i32_w]
                             rfl
                           refine one_ (i := 19) (N := some 62) #[true, true, true, true, true, true, true, true, true, true, true, true, true, true, true, true, true, true, true, true, false, false] rfl rfl (one_of HT_.out (by kernel_rfl)) (by decide) (fun K hK => ?_)
                           refine goes_ Try.func11 (by kernel_rfl) rfl #[.int .i64 ((rd_T43 t264 x6_1).f0), .int .i64 ((rd_T43 t264 (rd ((rd_T43 t264 x6_1).f1) x7_2)).f0)] (by rfl) rfl rfl (by (try simp only [List.map_toArray, List.map_cons, List.map_nil]); first | done | rfl | (simp only [List.length_drop, List.length_take]; rfl)) ?_
                           with_reducible refine (fixup_May.calls ((rd_T43 t264 x6_1).f0) ((rd_T43 t264 (rd ((rd_T43 t264 x6_1).f1) x7_2)).f0) false _ A22.out).mono ?_
                           rintro e w27 ⟨rfl, hb⟩
                           have HS0_ := (hb.cell (World.block_lt_of_cell? _ _ (hHeld.1))).trans (hHeld.1)
                           have HS1_ := (hb.cell (World.block_lt_of_cell? _ _ (hHeld.2.1))).trans (hHeld.2.1)
                           have HS2_ := (hb.cell (World.block_lt_of_cell? _ _ (hHeld.2.2.1))).trans (hHeld.2.2.1)
                           have HS3_ := (hb.cell (World.block_lt_of_cell? _ _ (hHeld.2.2.2.1))).trans (hHeld.2.2.2.1)
                           have HS4_ := (hb.cell (World.block_lt_of_cell? _ _ (hHeld.2.2.2.2.1))).trans (hHeld.2.2.2.2.1)
                           have HS5_ := (hb.cell (World.block_lt_of_cell? _ _ (hHeld.2.2.2.2.2.1))).trans (hHeld.2.2.2.2.2.1)
                           have HS6_ := (hb.cell (World.block_lt_of_cell? _ _ (hHeld.2.2.2.2.2.2.1))).trans (hHeld.2.2.2.2.2.2.1)
                           have HS7_ := (hb.cell (World.block_lt_of_cell? _ _ (hHeld.2.2.2.2.2.2.2.1))).trans (hHeld.2.2.2.2.2.2.2.1)
                           have HS8_ := (hb.cell (World.block_lt_of_cell? _ _ (hHeld.2.2.2.2.2.2.2.2.1))).trans (hHeld.2.2.2.2.2.2.2.2.1)
                           have HS9_ := (hb.cell (World.block_lt_of_cell? _ _ (hHeld.2.2.2.2.2.2.2.2.2.1))).trans (hHeld.2.2.2.2.2.2.2.2.2.1)
                           have HS10_ := (hb.cell (World.block_lt_of_cell? _ _ (hHeld.2.2.2.2.2.2.2.2.2.2.1))).trans (hHeld.2.2.2.2.2.2.2.2.2.2.1)
                           have HS11_ := (hb.cell (World.block_lt_of_cell? _ _ (hHeld.2.2.2.2.2.2.2.2.2.2.2.1))).trans (hHeld.2.2.2.2.2.2.2.2.2.2.2.1)
                           have HS12_ := (hb.cell (World.block_lt_of_cell? _ _ (hHeld.2.2.2.2.2.2.2.2.2.2.2.2.1))).trans (hHeld.2.2.2.2.2.2.2.2.2.2.2.2.1)
                           have HS13_ := (hb.cell (World.block_lt_of_cell? _ _ (hHeld.2.2.2.2.2.2.2.2.2.2.2.2.2.1))).trans (hHeld.2.2.2.2.2.2.2.2.2.2.2.2.2.1)
                           have HS14_ := (hb.cell (World.block_lt_of_cell? _ _ (hHeld.2.2.2.2.2.2.2.2.2.2.2.2.2.2.1))).trans (hHeld.2.2.2.2.2.2.2.2.2.2.2.2.2.2.1)
                           have HS15_ := (hb.cell (World.block_lt_of_cell? _ _ (hHeld.2.2.2.2.2.2.2.2.2.2.2.2.2.2.2.1))).trans (hHeld.2.2.2.2.2.2.2.2.2.2.2.2.2.2.2.1)
                           have HS16_ := (hb.cell (World.block_lt_of_cell? _ _ (hHeld.2.2.2.2.2.2.2.2.2.2.2.2.2.2.2.2.1))).trans (hHeld.2.2.2.2.2.2.2.2.2.2.2.2.2.2.2.2.1)
                           have HS17_ := (hb.cell (World.block_lt_of_cell? _ _ (hHeld.2.2.2.2.2.2.2.2.2.2.2.2.2.2.2.2.2.1))).trans (hHeld.2.2.2.2.2.2.2.2.2.2.2.2.2.2.2.2.2.1)
                           have HS18_ := (hb.cell (World.block_lt_of_cell? _ _ (hHeld.2.2.2.2.2.2.2.2.2.2.2.2.2.2.2.2.2.2.1))).trans (hHeld.2.2.2.2.2.2.2.2.2.2.2.2.2.2.2.2.2.2.1)
                           have HS19_ := (hb.cell (World.block_lt_of_cell? _ _ (hHeld.2.2.2.2.2.2.2.2.2.2.2.2.2.2.2.2.2.2.2.1))).trans (hHeld.2.2.2.2.2.2.2.2.2.2.2.2.2.2.2.2.2.2.2.1)
                           have HS20_ := (hb.cell (World.block_lt_of_cell? _ _ (hHeld.2.2.2.2.2.2.2.2.2.2.2.2.2.2.2.2.2.2.2.2.1))).trans (hHeld.2.2.2.2.2.2.2.2.2.2.2.2.2.2.2.2.2.2.2.2.1)
                           have HS21_ := (hb.cell (World.block_lt_of_cell? _ _ (hHeld.2.2.2.2.2.2.2.2.2.2.2.2.2.2.2.2.2.2.2.2.2.1))).trans (hHeld.2.2.2.2.2.2.2.2.2.2.2.2.2.2.2.2.2.2.2.2.2.1)
                           have HS22_ := (hb.cell (World.block_lt_of_cell? _ _ (hHeld.2.2.2.2.2.2.2.2.2.2.2.2.2.2.2.2.2.2.2.2.2.2.1))).trans (hHeld.2.2.2.2.2.2.2.2.2.2.2.2.2.2.2.2.2.2.2.2.2.2.1)
                           have HS23_ := (hb.cell (World.block_lt_of_cell? _ _ (hHeld.2.2.2.2.2.2.2.2.2.2.2.2.2.2.2.2.2.2.2.2.2.2.2.1))).trans (hHeld.2.2.2.2.2.2.2.2.2.2.2.2.2.2.2.2.2.2.2.2.2.2.2.1)
                           have HS24_ := (hb.cell (World.block_lt_of_cell? _ _ (hHeld.2.2.2.2.2.2.2.2.2.2.2.2.2.2.2.2.2.2.2.2.2.2.2.2.1))).trans (hHeld.2.2.2.2.2.2.2.2.2.2.2.2.2.2.2.2.2.2.2.2.2.2.2.2.1)
                           have HS25_ := (hb.cell (World.block_lt_of_cell? _ _ (hHeld.2.2.2.2.2.2.2.2.2.2.2.2.2.2.2.2.2.2.2.2.2.2.2.2.2.1))).trans (hHeld.2.2.2.2.2.2.2.2.2.2.2.2.2.2.2.2.2.2.2.2.2.2.2.2.2.1)
                           have HS26_ := (hb.cell (World.block_lt_of_cell? _ _ (hHeld.2.2.2.2.2.2.2.2.2.2.2.2.2.2.2.2.2.2.2.2.2.2.2.2.2.2.1))).trans (hHeld.2.2.2.2.2.2.2.2.2.2.2.2.2.2.2.2.2.2.2.2.2.2.2.2.2.2.1)
                           have HS27_ := (hb.cell (World.block_lt_of_cell? _ _ (hHeld.2.2.2.2.2.2.2.2.2.2.2.2.2.2.2.2.2.2.2.2.2.2.2.2.2.2.2.1))).trans (hHeld.2.2.2.2.2.2.2.2.2.2.2.2.2.2.2.2.2.2.2.2.2.2.2.2.2.2.2.1)
                           have HS28_ := (hb.cell (World.block_lt_of_cell? _ _ (hHeld.2.2.2.2.2.2.2.2.2.2.2.2.2.2.2.2.2.2.2.2.2.2.2.2.2.2.2.2.1))).trans (hHeld.2.2.2.2.2.2.2.2.2.2.2.2.2.2.2.2.2.2.2.2.2.2.2.2.2.2.2.2.1)
                           have HS29_ := (hb.cell (World.block_lt_of_cell? _ _ (hHeld.2.2.2.2.2.2.2.2.2.2.2.2.2.2.2.2.2.2.2.2.2.2.2.2.2.2.2.2.2.1))).trans (hHeld.2.2.2.2.2.2.2.2.2.2.2.2.2.2.2.2.2.2.2.2.2.2.2.2.2.2.2.2.2.1)
                           have HS30_ := (hb.cell (World.block_lt_of_cell? _ _ (hHeld.2.2.2.2.2.2.2.2.2.2.2.2.2.2.2.2.2.2.2.2.2.2.2.2.2.2.2.2.2.2.1))).trans (hHeld.2.2.2.2.2.2.2.2.2.2.2.2.2.2.2.2.2.2.2.2.2.2.2.2.2.2.2.2.2.2.1)
                           have HS31_ := (hb.cell (World.block_lt_of_cell? _ _ (hHeld.2.2.2.2.2.2.2.2.2.2.2.2.2.2.2.2.2.2.2.2.2.2.2.2.2.2.2.2.2.2.2.1))).trans (hHeld.2.2.2.2.2.2.2.2.2.2.2.2.2.2.2.2.2.2.2.2.2.2.2.2.2.2.2.2.2.2.2.1)
                           have HS32_ := (hb.cell (World.block_lt_of_cell? _ _ (hHeld.2.2.2.2.2.2.2.2.2.2.2.2.2.2.2.2.2.2.2.2.2.2.2.2.2.2.2.2.2.2.2.2.1))).trans (hHeld.2.2.2.2.2.2.2.2.2.2.2.2.2.2.2.2.2.2.2.2.2.2.2.2.2.2.2.2.2.2.2.2.1)
                           have HS33_ := (hb.cell (World.block_lt_of_cell? _ _ (hHeld.2.2.2.2.2.2.2.2.2.2.2.2.2.2.2.2.2.2.2.2.2.2.2.2.2.2.2.2.2.2.2.2.2.1))).trans (hHeld.2.2.2.2.2.2.2.2.2.2.2.2.2.2.2.2.2.2.2.2.2.2.2.2.2.2.2.2.2.2.2.2.2.1)
                           have HS34_ := (hb.cell (World.block_lt_of_cell? _ _ (hHeld.2.2.2.2.2.2.2.2.2.2.2.2.2.2.2.2.2.2.2.2.2.2.2.2.2.2.2.2.2.2.2.2.2.2.1))).trans (hHeld.2.2.2.2.2.2.2.2.2.2.2.2.2.2.2.2.2.2.2.2.2.2.2.2.2.2.2.2.2.2.2.2.2.2.1)
                           have HS35_ := (hb.cell (World.block_lt_of_cell? _ _ (hHeld.2.2.2.2.2.2.2.2.2.2.2.2.2.2.2.2.2.2.2.2.2.2.2.2.2.2.2.2.2.2.2.2.2.2.2.1))).trans (hHeld.2.2.2.2.2.2.2.2.2.2.2.2.2.2.2.2.2.2.2.2.2.2.2.2.2.2.2.2.2.2.2.2.2.2.2.1)
                           have HS36_ := (hb.cell (World.block_lt_of_cell? _ _ (hHeld.2.2.2.2.2.2.2.2.2.2.2.2.2.2.2.2.2.2.2.2.2.2.2.2.2.2.2.2.2.2.2.2.2.2.2.2.1))).trans (hHeld.2.2.2.2.2.2.2.2.2.2.2.2.2.2.2.2.2.2.2.2.2.2.2.2.2.2.2.2.2.2.2.2.2.2.2.2.1)
                           have HS37_ := (hb.cell (World.block_lt_of_cell? _ _ (hHeld.2.2.2.2.2.2.2.2.2.2.2.2.2.2.2.2.2.2.2.2.2.2.2.2.2.2.2.2.2.2.2.2.2.2.2.2.2.1))).trans (hHeld.2.2.2.2.2.2.2.2.2.2.2.2.2.2.2.2.2.2.2.2.2.2.2.2.2.2.2.2.2.2.2.2.2.2.2.2.2.1)
                           have HS38_ := (hb.cell (World.block_lt_of_cell? _ _ (hHeld.2.2.2.2.2.2.2.2.2.2.2.2.2.2.2.2.2.2.2.2.2.2.2.2.2.2.2.2.2.2.2.2.2.2.2.2.2.2.1))).trans (hHeld.2.2.2.2.2.2.2.2.2.2.2.2.2.2.2.2.2.2.2.2.2.2.2.2.2.2.2.2.2.2.2.2.2.2.2.2.2.2.1)
                           have HS39_ := (hb.cell (World.block_lt_of_cell? _ _ (hHeld.2.2.2.2.2.2.2.2.2.2.2.2.2.2.2.2.2.2.2.2.2.2.2.2.2.2.2.2.2.2.2.2.2.2.2.2.2.2.2.1))).trans (hHeld.2.2.2.2.2.2.2.2.2.2.2.2.2.2.2.2.2.2.2.2.2.2.2.2.2.2.2.2.2.2.2.2.2.2.2.2.2.2.2.1)
                           have HS40_ := (hb.cell (World.block_lt_of_cell? _ _ (hHeld.2.2.2.2.2.2.2.2.2.2.2.2.2.2.2.2.2.2.2.2.2.2.2.2.2.2.2.2.2.2.2.2.2.2.2.2.2.2.2.2.1))).trans (hHeld.2.2.2.2.2.2.2.2.2.2.2.2.2.2.2.2.2.2.2.2.2.2.2.2.2.2.2.2.2.2.2.2.2.2.2.2.2.2.2.2.1)
                           have HS41_ := (hb.cell (World.block_lt_of_cell? _ _ (hHeld.2.2.2.2.2.2.2.2.2.2.2.2.2.2.2.2.2.2.2.2.2.2.2.2.2.2.2.2.2.2.2.2.2.2.2.2.2.2.2.2.2.1))).trans (hHeld.2.2.2.2.2.2.2.2.2.2.2.2.2.2.2.2.2.2.2.2.2.2.2.2.2.2.2.2.2.2.2.2.2.2.2.2.2.2.2.2.2.1)
                           have HS42_ := (hb.cell (World.block_lt_of_cell? _ _ (hHeld.2.2.2.2.2.2.2.2.2.2.2.2.2.2.2.2.2.2.2.2.2.2.2.2.2.2.2.2.2.2.2.2.2.2.2.2.2.2.2.2.2.2.1))).trans (hHeld.2.2.2.2.2.2.2.2.2.2.2.2.2.2.2.2.2.2.2.2.2.2.2.2.2.2.2.2.2.2.2.2.2.2.2.2.2.2.2.2.2.2.1)
                           have HS43_ := (hb.cell (World.block_lt_of_cell? _ _ (hHeld.2.2.2.2.2.2.2.2.2.2.2.2.2.2.2.2.2.2.2.2.2.2.2.2.2.2.2.2.2.2.2.2.2.2.2.2.2.2.2.2.2.2.2.1))).trans (hHeld.2.2.2.2.2.2.2.2.2.2.2.2.2.2.2.2.2.2.2.2.2.2.2.2.2.2.2.2.2.2.2.2.2.2.2.2.2.2.2.2.2.2.2.1)
                           have HS44_ := (hb.cell (World.block_lt_of_cell? _ _ (hHeld.2.2.2.2.2.2.2.2.2.2.2.2.2.2.2.2.2.2.2.2.2.2.2.2.2.2.2.2.2.2.2.2.2.2.2.2.2.2.2.2.2.2.2.2.1))).trans (hHeld.2.2.2.2.2.2.2.2.2.2.2.2.2.2.2.2.2.2.2.2.2.2.2.2.2.2.2.2.2.2.2.2.2.2.2.2.2.2.2.2.2.2.2.2.1)
                           have HS45_ := (hb.cell (World.block_lt_of_cell? _ _ (hHeld.2.2.2.2.2.2.2.2.2.2.2.2.2.2.2.2.2.2.2.2.2.2.2.2.2.2.2.2.2.2.2.2.2.2.2.2.2.2.2.2.2.2.2.2.2.1))).trans (hHeld.2.2.2.2.2.2.2.2.2.2.2.2.2.2.2.2.2.2.2.2.2.2.2.2.2.2.2.2.2.2.2.2.2.2.2.2.2.2.2.2.2.2.2.2.2.1)
                           have HS46_ := (hb.cell (World.block_lt_of_cell? _ _ (hHeld.2.2.2.2.2.2.2.2.2.2.2.2.2.2.2.2.2.2.2.2.2.2.2.2.2.2.2.2.2.2.2.2.2.2.2.2.2.2.2.2.2.2.2.2.2.2.1))).trans (hHeld.2.2.2.2.2.2.2.2.2.2.2.2.2.2.2.2.2.2.2.2.2.2.2.2.2.2.2.2.2.2.2.2.2.2.2.2.2.2.2.2.2.2.2.2.2.2.1)
                           have HS47_ := (hb.cell (World.block_lt_of_cell? _ _ (hHeld.2.2.2.2.2.2.2.2.2.2.2.2.2.2.2.2.2.2.2.2.2.2.2.2.2.2.2.2.2.2.2.2.2.2.2.2.2.2.2.2.2.2.2.2.2.2.2.1))).trans (hHeld.2.2.2.2.2.2.2.2.2.2.2.2.2.2.2.2.2.2.2.2.2.2.2.2.2.2.2.2.2.2.2.2.2.2.2.2.2.2.2.2.2.2.2.2.2.2.2.1)
                           have HS48_ := (hb.cell (World.block_lt_of_cell? _ _ (hHeld.2.2.2.2.2.2.2.2.2.2.2.2.2.2.2.2.2.2.2.2.2.2.2.2.2.2.2.2.2.2.2.2.2.2.2.2.2.2.2.2.2.2.2.2.2.2.2.2.1))).trans (hHeld.2.2.2.2.2.2.2.2.2.2.2.2.2.2.2.2.2.2.2.2.2.2.2.2.2.2.2.2.2.2.2.2.2.2.2.2.2.2.2.2.2.2.2.2.2.2.2.2.1)
                           have HS49_ := (hb.cell (World.block_lt_of_cell? _ _ (hHeld.2.2.2.2.2.2.2.2.2.2.2.2.2.2.2.2.2.2.2.2.2.2.2.2.2.2.2.2.2.2.2.2.2.2.2.2.2.2.2.2.2.2.2.2.2.2.2.2.2.1))).trans (hHeld.2.2.2.2.2.2.2.2.2.2.2.2.2.2.2.2.2.2.2.2.2.2.2.2.2.2.2.2.2.2.2.2.2.2.2.2.2.2.2.2.2.2.2.2.2.2.2.2.2.1)
                           have HS50_ := (hb.cell (World.block_lt_of_cell? _ _ (hHeld.2.2.2.2.2.2.2.2.2.2.2.2.2.2.2.2.2.2.2.2.2.2.2.2.2.2.2.2.2.2.2.2.2.2.2.2.2.2.2.2.2.2.2.2.2.2.2.2.2.2.1))).trans (hHeld.2.2.2.2.2.2.2.2.2.2.2.2.2.2.2.2.2.2.2.2.2.2.2.2.2.2.2.2.2.2.2.2.2.2.2.2.2.2.2.2.2.2.2.2.2.2.2.2.2.2.1)
                           have HS51_ := (hb.cell (World.block_lt_of_cell? _ _ (hHeld.2.2.2.2.2.2.2.2.2.2.2.2.2.2.2.2.2.2.2.2.2.2.2.2.2.2.2.2.2.2.2.2.2.2.2.2.2.2.2.2.2.2.2.2.2.2.2.2.2.2.2.1))).trans (hHeld.2.2.2.2.2.2.2.2.2.2.2.2.2.2.2.2.2.2.2.2.2.2.2.2.2.2.2.2.2.2.2.2.2.2.2.2.2.2.2.2.2.2.2.2.2.2.2.2.2.2.2.1)
                           have HS52_ := (hb.cell (World.block_lt_of_cell? _ _ (hHeld.2.2.2.2.2.2.2.2.2.2.2.2.2.2.2.2.2.2.2.2.2.2.2.2.2.2.2.2.2.2.2.2.2.2.2.2.2.2.2.2.2.2.2.2.2.2.2.2.2.2.2.2.1))).trans (hHeld.2.2.2.2.2.2.2.2.2.2.2.2.2.2.2.2.2.2.2.2.2.2.2.2.2.2.2.2.2.2.2.2.2.2.2.2.2.2.2.2.2.2.2.2.2.2.2.2.2.2.2.2.1)
                           have HS53_ := (hb.cell (World.block_lt_of_cell? _ _ (hHeld.2.2.2.2.2.2.2.2.2.2.2.2.2.2.2.2.2.2.2.2.2.2.2.2.2.2.2.2.2.2.2.2.2.2.2.2.2.2.2.2.2.2.2.2.2.2.2.2.2.2.2.2.2.1))).trans (hHeld.2.2.2.2.2.2.2.2.2.2.2.2.2.2.2.2.2.2.2.2.2.2.2.2.2.2.2.2.2.2.2.2.2.2.2.2.2.2.2.2.2.2.2.2.2.2.2.2.2.2.2.2.2.1)
                           have HS54_ := (hb.cell (World.block_lt_of_cell? _ _ (hHeld.2.2.2.2.2.2.2.2.2.2.2.2.2.2.2.2.2.2.2.2.2.2.2.2.2.2.2.2.2.2.2.2.2.2.2.2.2.2.2.2.2.2.2.2.2.2.2.2.2.2.2.2.2.2.1))).trans (hHeld.2.2.2.2.2.2.2.2.2.2.2.2.2.2.2.2.2.2.2.2.2.2.2.2.2.2.2.2.2.2.2.2.2.2.2.2.2.2.2.2.2.2.2.2.2.2.2.2.2.2.2.2.2.2.1)
                           have HS55_ := (hb.cell (World.block_lt_of_cell? _ _ (hHeld.2.2.2.2.2.2.2.2.2.2.2.2.2.2.2.2.2.2.2.2.2.2.2.2.2.2.2.2.2.2.2.2.2.2.2.2.2.2.2.2.2.2.2.2.2.2.2.2.2.2.2.2.2.2.2.1))).trans (hHeld.2.2.2.2.2.2.2.2.2.2.2.2.2.2.2.2.2.2.2.2.2.2.2.2.2.2.2.2.2.2.2.2.2.2.2.2.2.2.2.2.2.2.2.2.2.2.2.2.2.2.2.2.2.2.2.1)
                           have HS56_ := (hb.cell (World.block_lt_of_cell? _ _ (hHeld.2.2.2.2.2.2.2.2.2.2.2.2.2.2.2.2.2.2.2.2.2.2.2.2.2.2.2.2.2.2.2.2.2.2.2.2.2.2.2.2.2.2.2.2.2.2.2.2.2.2.2.2.2.2.2.2.1))).trans (hHeld.2.2.2.2.2.2.2.2.2.2.2.2.2.2.2.2.2.2.2.2.2.2.2.2.2.2.2.2.2.2.2.2.2.2.2.2.2.2.2.2.2.2.2.2.2.2.2.2.2.2.2.2.2.2.2.2.1)
                           have HS57_ := (hb.cell (World.block_lt_of_cell? _ _ (hHeld.2.2.2.2.2.2.2.2.2.2.2.2.2.2.2.2.2.2.2.2.2.2.2.2.2.2.2.2.2.2.2.2.2.2.2.2.2.2.2.2.2.2.2.2.2.2.2.2.2.2.2.2.2.2.2.2.2.1))).trans (hHeld.2.2.2.2.2.2.2.2.2.2.2.2.2.2.2.2.2.2.2.2.2.2.2.2.2.2.2.2.2.2.2.2.2.2.2.2.2.2.2.2.2.2.2.2.2.2.2.2.2.2.2.2.2.2.2.2.2.1)
                           have HS58_ := (hb.cell (World.block_lt_of_cell? _ _ (hHeld.2.2.2.2.2.2.2.2.2.2.2.2.2.2.2.2.2.2.2.2.2.2.2.2.2.2.2.2.2.2.2.2.2.2.2.2.2.2.2.2.2.2.2.2.2.2.2.2.2.2.2.2.2.2.2.2.2.2.1))).trans (hHeld.2.2.2.2.2.2.2.2.2.2.2.2.2.2.2.2.2.2.2.2.2.2.2.2.2.2.2.2.2.2.2.2.2.2.2.2.2.2.2.2.2.2.2.2.2.2.2.2.2.2.2.2.2.2.2.2.2.2.1)
                           have HS59_ := (hb.cell (World.block_lt_of_cell? _ _ (hHeld.2.2.2.2.2.2.2.2.2.2.2.2.2.2.2.2.2.2.2.2.2.2.2.2.2.2.2.2.2.2.2.2.2.2.2.2.2.2.2.2.2.2.2.2.2.2.2.2.2.2.2.2.2.2.2.2.2.2.2.1))).trans (hHeld.2.2.2.2.2.2.2.2.2.2.2.2.2.2.2.2.2.2.2.2.2.2.2.2.2.2.2.2.2.2.2.2.2.2.2.2.2.2.2.2.2.2.2.2.2.2.2.2.2.2.2.2.2.2.2.2.2.2.2.1)
                           have HS60_ := (hb.cell (World.block_lt_of_cell? _ _ (hHeld.2.2.2.2.2.2.2.2.2.2.2.2.2.2.2.2.2.2.2.2.2.2.2.2.2.2.2.2.2.2.2.2.2.2.2.2.2.2.2.2.2.2.2.2.2.2.2.2.2.2.2.2.2.2.2.2.2.2.2.2.1))).trans (hHeld.2.2.2.2.2.2.2.2.2.2.2.2.2.2.2.2.2.2.2.2.2.2.2.2.2.2.2.2.2.2.2.2.2.2.2.2.2.2.2.2.2.2.2.2.2.2.2.2.2.2.2.2.2.2.2.2.2.2.2.2.1)
                           have HS61_ := (hb.cell (World.block_lt_of_cell? _ _ (hHeld.2.2.2.2.2.2.2.2.2.2.2.2.2.2.2.2.2.2.2.2.2.2.2.2.2.2.2.2.2.2.2.2.2.2.2.2.2.2.2.2.2.2.2.2.2.2.2.2.2.2.2.2.2.2.2.2.2.2.2.2.2.1))).trans (hHeld.2.2.2.2.2.2.2.2.2.2.2.2.2.2.2.2.2.2.2.2.2.2.2.2.2.2.2.2.2.2.2.2.2.2.2.2.2.2.2.2.2.2.2.2.2.2.2.2.2.2.2.2.2.2.2.2.2.2.2.2.2.1)
                           have HS62_ := (hb.cell (World.block_lt_of_cell? _ _ (hHeld.2.2.2.2.2.2.2.2.2.2.2.2.2.2.2.2.2.2.2.2.2.2.2.2.2.2.2.2.2.2.2.2.2.2.2.2.2.2.2.2.2.2.2.2.2.2.2.2.2.2.2.2.2.2.2.2.2.2.2.2.2.2.1))).trans (hHeld.2.2.2.2.2.2.2.2.2.2.2.2.2.2.2.2.2.2.2.2.2.2.2.2.2.2.2.2.2.2.2.2.2.2.2.2.2.2.2.2.2.2.2.2.2.2.2.2.2.2.2.2.2.2.2.2.2.2.2.2.2.2.1)
                           have HS63_ := (hb.cell (World.block_lt_of_cell? _ _ (hHeld.2.2.2.2.2.2.2.2.2.2.2.2.2.2.2.2.2.2.2.2.2.2.2.2.2.2.2.2.2.2.2.2.2.2.2.2.2.2.2.2.2.2.2.2.2.2.2.2.2.2.2.2.2.2.2.2.2.2.2.2.2.2.2.1))).trans (hHeld.2.2.2.2.2.2.2.2.2.2.2.2.2.2.2.2.2.2.2.2.2.2.2.2.2.2.2.2.2.2.2.2.2.2.2.2.2.2.2.2.2.2.2.2.2.2.2.2.2.2.2.2.2.2.2.2.2.2.2.2.2.2.2.1)
                           have HS64_ := (hb.cell (World.block_lt_of_cell? _ _ (hHeld.2.2.2.2.2.2.2.2.2.2.2.2.2.2.2.2.2.2.2.2.2.2.2.2.2.2.2.2.2.2.2.2.2.2.2.2.2.2.2.2.2.2.2.2.2.2.2.2.2.2.2.2.2.2.2.2.2.2.2.2.2.2.2.2.1))).trans (hHeld.2.2.2.2.2.2.2.2.2.2.2.2.2.2.2.2.2.2.2.2.2.2.2.2.2.2.2.2.2.2.2.2.2.2.2.2.2.2.2.2.2.2.2.2.2.2.2.2.2.2.2.2.2.2.2.2.2.2.2.2.2.2.2.2.1)
                           have HS65_ := (hb.cell (World.block_lt_of_cell? _ _ (hHeld.2.2.2.2.2.2.2.2.2.2.2.2.2.2.2.2.2.2.2.2.2.2.2.2.2.2.2.2.2.2.2.2.2.2.2.2.2.2.2.2.2.2.2.2.2.2.2.2.2.2.2.2.2.2.2.2.2.2.2.2.2.2.2.2.2.1))).trans (hHeld.2.2.2.2.2.2.2.2.2.2.2.2.2.2.2.2.2.2.2.2.2.2.2.2.2.2.2.2.2.2.2.2.2.2.2.2.2.2.2.2.2.2.2.2.2.2.2.2.2.2.2.2.2.2.2.2.2.2.2.2.2.2.2.2.2.1)
                           have HS66_ := (hb.cell (World.block_lt_of_cell? _ _ (hHeld.2.2.2.2.2.2.2.2.2.2.2.2.2.2.2.2.2.2.2.2.2.2.2.2.2.2.2.2.2.2.2.2.2.2.2.2.2.2.2.2.2.2.2.2.2.2.2.2.2.2.2.2.2.2.2.2.2.2.2.2.2.2.2.2.2.2.1))).trans (hHeld.2.2.2.2.2.2.2.2.2.2.2.2.2.2.2.2.2.2.2.2.2.2.2.2.2.2.2.2.2.2.2.2.2.2.2.2.2.2.2.2.2.2.2.2.2.2.2.2.2.2.2.2.2.2.2.2.2.2.2.2.2.2.2.2.2.2.1)
                           have HS67_ := (hb.cell (World.block_lt_of_cell? _ _ (hHeld.2.2.2.2.2.2.2.2.2.2.2.2.2.2.2.2.2.2.2.2.2.2.2.2.2.2.2.2.2.2.2.2.2.2.2.2.2.2.2.2.2.2.2.2.2.2.2.2.2.2.2.2.2.2.2.2.2.2.2.2.2.2.2.2.2.2.2))).trans (hHeld.2.2.2.2.2.2.2.2.2.2.2.2.2.2.2.2.2.2.2.2.2.2.2.2.2.2.2.2.2.2.2.2.2.2.2.2.2.2.2.2.2.2.2.2.2.2.2.2.2.2.2.2.2.2.2.2.2.2.2.2.2.2.2.2.2.2.2)
                           refine ⟨_, rfl, ?_⟩
                           have n0_ := Aside0.mk (Kd.V_below (by (with_reducible repeat (first | apply Kd.V_alloc | apply Kd.V_drewN | apply Kd.V_drew)); exact HO_4.out) hb)
                           have n1_ := Aside0.mk (Kd.V_below (by (with_reducible repeat (first | apply Kd.V_alloc | apply Kd.V_drewN | apply Kd.V_drew)); exact HL268_1.out) hb)
                           have n2_ := Aside0.mk (Kd.V_below (by (with_reducible repeat (first | apply Kd.V_alloc | apply Kd.V_drewN | apply Kd.V_drew)); exact HL268_31.out) hb)
                           have n3_ := Aside0.mk (Kd.V_below (by (with_reducible repeat (first | apply Kd.V_alloc | apply Kd.V_drewN | apply Kd.V_drew)); exact HL269_1.out) hb)
                           have n4_ := Aside0.mk (Kd.V_below (by (with_reducible repeat (first | apply Kd.V_alloc | apply Kd.V_drewN | apply Kd.V_drew)); exact HL269_31.out) hb)
                           have n5_ := Aside0.mk (Kd.V_below (by (with_reducible repeat (first | apply Kd.V_alloc | apply Kd.V_drewN | apply Kd.V_drew)); exact HL271_1.out) hb)
                           have n6_ := Aside0.mk (Kd.V_below (by (with_reducible repeat (first | apply Kd.V_alloc | apply Kd.V_drewN | apply Kd.V_drew)); exact HL271_31.out) hb)
                           have n7_ := Aside0.mk (Kd.V_below (by (with_reducible repeat (first | apply Kd.V_alloc | apply Kd.V_drewN | apply Kd.V_drew)); exact HL272_1.out) hb)
                           have n8_ := Aside0.mk (Kd.V_below (by (with_reducible repeat (first | apply Kd.V_alloc | apply Kd.V_drewN | apply Kd.V_drew)); exact HL272_31.out) hb)
                           have n9_ := Aside0.mk (Kd.C_below (by repeat (first | (with_reducible exact HR268_1.out) | (with_reducible refine Kd.C_alloc ?_ _) | (with_reducible refine Kd.C_drewN ?_ _) | (with_reducible refine Kd.C_drew ?_) | exact HR268_1.out)) hb)
                           have n10_ := Aside0.mk (Kd.C_below (by repeat (first | (with_reducible exact HR268_31.out) | (with_reducible refine Kd.C_alloc ?_ _) | (with_reducible refine Kd.C_drewN ?_ _) | (with_reducible refine Kd.C_drew ?_) | exact HR268_31.out)) hb)
                           have n11_ := Aside0.mk (Kd.C_below (by repeat (first | (with_reducible exact HR269_1.out) | (with_reducible refine Kd.C_alloc ?_ _) | (with_reducible refine Kd.C_drewN ?_ _) | (with_reducible refine Kd.C_drew ?_) | exact HR269_1.out)) hb)
                           have n12_ := Aside0.mk (Kd.C_below (by repeat (first | (with_reducible exact HR269_31.out) | (with_reducible refine Kd.C_alloc ?_ _) | (with_reducible refine Kd.C_drewN ?_ _) | (with_reducible refine Kd.C_drew ?_) | exact HR269_31.out)) hb)
                           have n13_ := Aside0.mk (Kd.C_below (by repeat (first | (with_reducible exact HR271_1.out) | (with_reducible refine Kd.C_alloc ?_ _) | (with_reducible refine Kd.C_drewN ?_ _) | (with_reducible refine Kd.C_drew ?_) | exact HR271_1.out)) hb)
                           have n14_ := Aside0.mk (Kd.C_below (by repeat (first | (with_reducible exact HR271_31.out) | (with_reducible refine Kd.C_alloc ?_ _) | (with_reducible refine Kd.C_drewN ?_ _) | (with_reducible refine Kd.C_drew ?_) | exact HR271_31.out)) hb)
                           have n15_ := Aside0.mk (Kd.C_below (by repeat (first | (with_reducible exact HR272_1.out) | (with_reducible refine Kd.C_alloc ?_ _) | (with_reducible refine Kd.C_drewN ?_ _) | (with_reducible refine Kd.C_drew ?_) | exact HR272_1.out)) hb)
                           have n16_ := Aside0.mk (Kd.C_below (by repeat (first | (with_reducible exact HR272_31.out) | (with_reducible refine Kd.C_alloc ?_ _) | (with_reducible refine Kd.C_drewN ?_ _) | (with_reducible refine Kd.C_drew ?_) | exact HR272_31.out)) hb)
                           have n17_ := Aside0.mk (below_step (by repeat (first | (with_reducible first | exact HB.out | apply below_alloc | apply pw_below_drewN | apply below_drew1) | exact HB.out)) hb)
                           clear HO_4
                           clear HL268_1
                           clear HL268_31
                           clear HL269_1
                           clear HL269_31
                           clear HL271_1
                           clear HL271_31
                           clear HL272_1
                           clear HL272_31
                           clear HR268_1
                           clear HR268_31
                           clear HR269_1
                           clear HR269_31
                           clear HR271_1
                           clear HR271_31
                           clear HR272_1
                           clear HR272_31
                           clear HB
                           have HO_4 := n0_
                           have HL268_1 := n1_
                           have HL268_31 := n2_
                           have HL269_1 := n3_
                           have HL269_31 := n4_
                           have HL271_1 := n5_
                           have HL271_31 := n6_
                           have HL272_1 := n7_
                           have HL272_31 := n8_
                           have HR268_1 := n9_
                           have HR268_31 := n10_
                           have HR269_1 := n11_
                           have HR269_31 := n12_
                           have HR271_1 := n13_
                           have HR271_31 := n14_
                           have HR272_1 := n15_
                           have HR272_31 := n16_
                           have HB := n17_
                           clear n0_ n1_ n2_ n3_ n4_ n5_ n6_ n7_ n8_ n9_ n10_ n11_ n12_ n13_ n14_ n15_ n16_ n17_
                           (try clear hb)
                           (try clear hb2)
                           (try clear hk)
                           (try clear hi)
                           refine hK.out _ _ ⟨HS0_, HS1_, HS2_, HS3_, HS4_, HS5_, HS6_, HS7_, HS8_, HS9_, HS10_, HS11_, HS12_, HS13_, HS14_, HS15_, HS16_, HS17_, HS18_, HS19_, HS20_, HS21_, HS22_, HS23_, HS24_, HS25_, HS26_, HS27_, HS28_, HS29_, HS30_, HS31_, HS32_, HS33_, HS34_, HS35_, HS36_, HS37_, HS38_, HS39_, HS40_, HS41_, HS42_, HS43_, HS44_, HS45_, HS46_, HS47_, HS48_, HS49_, HS50_, HS51_, HS52_, HS53_, HS54_, HS55_, HS56_, HS57_, HS58_, HS59_, HS60_, HS61_, HS62_, HS63_, HS64_, HS65_, HS66_, HS67_⟩ (fun hHeld => ?_)
                           clear hK K
                           refine norm_ (a' := ?_) ?_ ?_
                           rotate_left
                           · show Act.put _ (some 62) _ = _
                             simp only [Act.put, List.setIfInBounds_toArray, List.set_cons_zero, List.set_cons_succ, i64_w, i32_w]
                             rfl
                           refine pure_ (i := 20) (N := some 63) (v := ?_) (a' := ?_) #[true, true, true, true, true, true, true, true, true, true, true, true, true, true, true, true, true, true, true, true, true, false] rfl rfl (any_of HT_.out (by kernel_rfl)) (fun _ _ _ h => h) (Or.inl ⟨by rfl, ?_⟩) ?_ ?_
                           rotate_left
                           · intro w'
                             go_simp
                             with_reducible rfl
                           rotate_left
                           · simp only [Act.put, List.setIfInBounds_toArray, List.set_cons_zero, List.set_cons_succ, i64_w, i32_w]
                             rfl
                           refine pure_ (i := 21) (N := some 64) (v := ?_) (a' := ?_) #[true, true, true, true, true, true, true, true, true, true, true, true, true, true, true, true, true, true, true, true, true, true] rfl rfl (any_of HT_.out (by kernel_rfl)) (fun _ _ _ h => h) (Or.inl ⟨by rfl, ?_⟩) ?_ ?_
                           rotate_left
                           · intro w'
                             go_simp
                             with_reducible rfl
                           rotate_left
                           · simp only [Act.put, List.setIfInBounds_toArray, List.set_cons_zero, List.set_cons_succ, i64_w, i32_w]
                             rfl
                           refine done_ (done_of HT_.out (by kernel_rfl)) ?_
                           try go_wp2
                           go_ret
                           exact ⟨by first | rfl | (simp [errW_none, errW_some] <;> rfl) | (simp [*, errW_none, errW_some] <;> rfl), by repeat (first | (with_reducible first | exact HB.out | apply below_alloc | apply pw_below_drewN | apply below_drew1) | exact HB.out)⟩
                       · rw [if_neg c21] at H
                         exact absurd H (by simp)
                     · rw [if_neg c20] at H
                       exact absurd H (by simp)
               · rw [if_neg c15] at H
                 exact absurd H (by simp)
             · rw [if_neg c14] at H
               have c14b0 : decide (x7_2 < (((rd_T43 t264 x6_1).f1).length : Int)) = false := decide_eq_false c14
               clear c14
               have H' := Aside0.mk H
               clear H
               have p268 : 0 ≤ (x6_1 : Int) := of_decide_eq_true (by first | (with_reducible assumption) | assumption)
               have q268 : x6_1 < (t264.length : Int) := of_decide_eq_true (by first | (with_reducible assumption) | assumption)
               obtain ⟨ad268, A268_1, c268_1, A268_31, c268_31, e268, hx268_0, hx268_1, hx268_2, hx268_3, hx268_4, hx268_5, hx268_6, hx268_7, hx268_8, hx268_9, hx268_10, hx268_11, hx268_12, hx268_13, hx268_14, hx268_15, hx268_16, hx268_17, hx268_18, hx268_19, hx268_20, hx268_21, hx268_22, hx268_23, hx268_24, hx268_25, hx268_26, hx268_27, hx268_28, hx268_29, hx268_30, hx268_31, hx268_32, hx268_33, hl268_1, hi268_1, hl268_31, hi268_31⟩ := at_T43 (Kd.V_reads' HO_4.out).2.2 x6_1 p268 q268
               cases e268
               obtain ⟨ce268, hce268, hMe268, hcc268⟩ := Kd.V_get HO_4.out z43 x6_1 p268 (by first | exact q268 | exact of_decide_eq_true (by first | (with_reducible assumption) | assumption) | (have e_ := (Kd.V_reads' HO_4.out).1; omega))
               obtain ⟨ua268_1, uc268_1, ua268_31, uc268_31, rfl, ul268_1, ge268_1, ul268_31, ge268_31⟩ := k43_openF hMe268
               have hv268_1 := hcc268 1 _ rfl
               rw [add_field _ _ 1 (by omega)] at hv268_1
               replace hv268_1 := Option.some.inj (hv268_1.symm.trans hx268_1)
               injection hv268_1 with hva_ hvn_ hvc_
               rw [hva_] at ge268_1
               rw [hvc_] at ul268_1
               have HL268_1 := Aside0.mk (show Kd.V (Kd.int .i64) 3 _ w.heap.size _ _ ((rd_T43 t264 x6_1).f1) from Kd.V_mk ul268_1 ge268_1)
               clear hva_ hvn_ hvc_ ge268_1 ul268_1
               have hv268_31 := hcc268 31 _ rfl
               rw [add_field _ _ 31 (by omega)] at hv268_31
               replace hv268_31 := Option.some.inj (hv268_31.symm.trans hx268_31)
               injection hv268_31 with hva_ hvn_ hvc_
               rw [hva_] at ge268_31
               rw [hvc_] at ul268_31
               have HL268_31 := Aside0.mk (show Kd.V (Kd.int .i64) 2 _ w.heap.size _ _ ((rd_T43 t264 x6_1).f3) from Kd.V_mk ul268_31 ge268_31)
               clear hva_ hvn_ hvc_ ge268_31 ul268_31
               clear hcc268 hce268
               have HR268_1 := Aside0.mk hi268_1
               have HC268_1 := Aside0.mk hl268_1
               clear hi268_1 hl268_1
               have HR268_31 := Aside0.mk hi268_31
               have HC268_31 := Aside0.mk hl268_31
               clear hi268_31 hl268_31
               replace p268 := eq_true p268
               replace q268 := eq_true q268
               go_wp2
               go_roundg k2
               case measure => have := HK1.out; have := HK2.out; omega
               case rel => exact ⟨(wrap64 (x6_1 + 1)), (by first | rfl | (simp; done) | (simp [*]; done)), H', ⟨by have := HK1.out; have := HK2.out; omega⟩, ⟨by (with_reducible repeat (first | apply Kd.V_alloc | apply Kd.V_drewN | apply Kd.V_drew)); exact HO_4.out⟩, ⟨by repeat (first | (with_reducible first | exact HB.out | apply below_alloc | apply pw_below_drewN | apply below_drew1) | exact HB.out)⟩⟩
           · rw [if_neg c13] at H
             exact absurd H (by simp)
         · rw [if_neg c12] at H
           exact absurd H (by simp)
     · rw [if_neg c10] at H
       have c10b0 : decide (x6_1 < (t264.length : Int)) = false := decide_eq_false c10
       clear c10
       obtain rfl := Option.some.inj H
       obtain ⟨Ao28, co28, eo28⟩ := Kd.V_slice HO_4.out
       subst eo28
       go_wp2
       go_ret
       exact ⟨by first | rfl | (simp [errW_none, errW_some] <;> rfl) | (simp [*, errW_none, errW_some] <;> rfl), by repeat (first | (with_reducible first | exact HB.out | apply below_alloc | apply pw_below_drewN | apply below_drew1) | exact HB.out)⟩
 · rw [if_neg c5] at H
   have c5b0 : (t267 == 0) = false := beq_eq_false_iff_ne.mpr c5
   have c5b1 : (t267 != 0) = true := bne_iff_ne.mpr c5
   obtain rfl := Option.some.inj H
   go_enter Try.func4, Try.ntmps4
   go_wp2_with (first | ((with_reducible refine gate_callee (f := 10) rfl ?_); refine goesL_ (some 9) rfl rfl Try.func10 (by kernel_rfl) rfl #[] rfl (by (try simp only [List.map_toArray, List.map_cons, List.map_nil]); first | done | rfl | (simp only [List.length_drop, List.length_take]; rfl)) ?_; (with_reducible refine (purflinglaw05_shown.calls  t260 _ A2.out).mono ?_); rintro e w29 ⟨rfl, hb⟩; refine ⟨_, rfl, ?_⟩; have n0_ := Aside0.mk (below_step (by repeat (first | (with_reducible first | exact HB.out | apply below_alloc | apply pw_below_drewN | apply below_drew1) | exact HB.out)) hb); clear HB; have HB := n0_; clear n0_; (try clear hb); (try clear hb2); (try clear hk); (try clear hi)) | ((with_reducible refine gate_callee (f := 16) rfl ?_); refine goesL_ (some 12) rfl rfl Try.func16 (by kernel_rfl) rfl #[.slice A0 l0.length c0] rfl (by (try simp only [List.map_toArray, List.map_cons, List.map_nil]); first | done | rfl | (simp only [List.length_drop, List.length_take]; rfl)) ?_; (with_reducible refine (purflinglaw04_Cut.calls k (fun k_ => k_ < w.heap.size) _ _ l0 t261 _ ?side1 A3.out).mono ?_); (case side1 => exact Kd.V_mk HC0.out (Kd.F_below (Kd.C_F k43_heap HR0.out) (by repeat (first | (with_reducible first | exact HB.out | apply below_alloc | apply pw_below_drewN | apply below_drew1) | exact HB.out)))); rintro e w30 ⟨v262, rfl, ho0, hb⟩; refine ⟨_, rfl, ?_⟩; have n0_ := Aside0.mk (Kd.N_lower (Kd.N_mono (ok' := fun k_ => True) ho0 (fun k_ hk_ => trivial)) (below_size (by repeat (first | (with_reducible first | exact HB.out | apply below_alloc | apply pw_below_drewN | apply below_drew1) | exact HB.out)))); have n1_ := Aside0.mk (below_step (by repeat (first | (with_reducible first | exact HB.out | apply below_alloc | apply pw_below_drewN | apply below_drew1) | exact HB.out)) hb); clear HB; have HO263 := n0_; have HB := n1_; clear n0_ n1_; (try clear hb); (try clear hb2); (try clear hk); (try clear hi); (try clear ho0); obtain ⟨Ao31, co31, eo31⟩ := Kd.N_slice HO263.out; subst eo31) | ((with_reducible refine gate_callee (f := 15) rfl ?_); refine goesL_ (some 13) rfl rfl Try.func15 (by kernel_rfl) rfl #[.slice Ao31 t261.length co31] rfl (by (try simp only [List.map_toArray, List.map_cons, List.map_nil]); first | done | rfl | (simp only [List.length_drop, List.length_take]; rfl)) ?_; (with_reducible refine (fixup_Fix.calls _ _ t261 t264 t267 _ ?side1 ?side2 A4.out).mono ?_); (case side1 => repeat (first | exact (Kd.N_reads' HO263.out).2.2 | (with_reducible refine Kd.C_alloc ?_ _) | (with_reducible refine Kd.C_drewN ?_ _) | (with_reducible refine Kd.C_drew ?_))); (case side2 => exact (Kd.N_reads' HO263.out).2.1); rintro e w32 ⟨v265, rfl, ho0, hb⟩; refine ⟨_, rfl, ?_⟩; have n0_ := Aside0.mk (Kd.N_below (by (with_reducible repeat (first | apply Kd.N_alloc | apply Kd.N_drewN | apply Kd.N_drew)); exact HO263.out) hb); have n1_ := Aside0.mk (Kd.V_lower (Kd.V_mono (ok' := fun k_ => some k_ ≠ (.slice Ao31 t261.length co31 : Value).ownBlock) ho0 (fun k_ hk_ => (Kd.fresh' (Kd.N_lt (by (with_reducible repeat (first | apply Kd.N_alloc | apply Kd.N_drewN | apply Kd.N_drew)); exact HO263.out)) k_ hk_))) (below_size (by repeat (first | (with_reducible first | exact HB.out | apply below_alloc | apply pw_below_drewN | apply below_drew1) | exact HB.out)))); have n2_ := Aside0.mk (below_step (by repeat (first | (with_reducible first | exact HB.out | apply below_alloc | apply pw_below_drewN | apply below_drew1) | exact HB.out)) hb); clear HO263; clear HB; have HO263 := n0_; have HO266 := n1_; have HB := n2_; clear n0_ n1_ n2_; (try clear hb); (try clear hb2); (try clear hk); (try clear hi); (try clear ho0)))
   go_ret
   exact ⟨by first | rfl | (simp [errW_none, errW_some] <;> rfl) | (simp [*, errW_none, errW_some] <;> rfl), by repeat (first | (with_reducible first | exact HB.out | apply below_alloc | apply pw_below_drewN | apply below_drew1) | exact HB.out)⟩

end Go.Proofs.Ytjhpkikgajgdmaa.K
