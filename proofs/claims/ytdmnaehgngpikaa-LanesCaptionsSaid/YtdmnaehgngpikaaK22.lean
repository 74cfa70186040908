-- PRINTED by print.py (a twelfth state) out of the translation. Not trusted: Lean checks it.
import Derived.Test.YtdmnaehgngpikaaLaB
import Derived.Test.YtdmnaehgngpikaaLaC
import Derived.Test.YtdmnaehgngpikaaLb2
import Derived.Test.YtdmnaehgngpikaaK0
import Derived.Test.YtdmnaehgngpikaaK10
namespace Go.Proofs.Ytdmnaehgngpikaa.K
open Go.RowKit Go.Proofs.YtdmnaehgngpikaaW.PrintWords Go.Proofs.YtdmnaehgngpikaaW.PrintLast Go.Proofs.YtdmnaehgngpikaaW.PrintMore
attribute [local go_sem] max2_int min2_int max_two min_two max_three min_three max_four min_four   -- for this text's walks alone
set_option linter.unusedVariables false
set_option linter.unusedSimpArgs false
/-! ### purflinglaw06_LanesCaptions: function 8 -/
mutual
def purflinglaw06_LanesCaptions.l0 : Nat → List (S48) → Int → Bool → List Int → List (S35) → Int → Int → Int → Option (Bool)
 | 0, _, _, _, _, _, _, _, _ => none
 | k + 1, x0, x1, x5, x6, x8, x9, x10, x11 => if 0 ≤ x1 then (if x1 < (x0.length : Int) then (if x11 < (((rd_T48 x0 x1).f1).length : Int) then (if 0 ≤ x11 then (if 0 ≤ (rd ((rd_T48 x0 x1).f1) x11) then (if (rd ((rd_T48 x0 x1).f1) x11) < (x0.length : Int) then (if ((rd_T48 x0 (rd ((rd_T48 x0 x1).f1) x11)).f0) = 3 then (if x10 ≥ (x6.length : Int) then (some false) else (if 0 ≤ x10 then (if x10 < (x6.length : Int) then (if (rd x6 x10) = (rd ((rd_T48 x0 x1).f1) x11) then (purflinglaw06_LanesCaptions.l0 k x0 x1 x5 x6 x8 x9 (wrap64 (x10 + 1)) (wrap64 (x11 + 1))) else (some false)) else (none)) else (none))) else (purflinglaw06_LanesCaptions.l0 k x0 x1 x5 x6 x8 x9 x10 (wrap64 (x11 + 1)))) else (none)) else (none)) else (none)) else (purflinglaw06_LanesCaptions.l1 k x0 x5 x6 x8 x9 x10 0)) else (none)) else (none)
def purflinglaw06_LanesCaptions.l1 : Nat → List (S48) → Bool → List Int → List (S35) → Int → Int → Int → Option (Bool)
 | 0, _, _, _, _, _, _, _ => none
 | k + 1, x0, x5, x6, x8, x9, x10, x12 => if x12 < (x8.length : Int) then (if 0 ≤ x12 then (if 0 ≤ ((rd_T35 x8 x12).f0) then (if ((rd_T35 x8 x12).f0) < (x0.length : Int) then (if ((rd_T48 x0 ((rd_T35 x8 x12).f0)).f0) = 3 then (some false) else (purflinglaw06_LanesCaptions.l1 k x0 x5 x6 x8 x9 x10 (wrap64 (x12 + 1)))) else (none)) else (none)) else (none)) else (if x5 = true then (if x10 = (x6.length : Int) then (some (x9 == 0)) else (some false)) else (some false))
end
def purflinglaw06_LanesCaptions.f (k : Nat) (l0 : List (S48)) (a1 : Int) : Option (Bool) := (purflinglaw06_shown.f).bind fun t397 => ((purflinglaw04_Cut.f k l0).bind fun t398 => ((lanes_Captions.f t398 a1).bind fun bt401 => ((lanes_Rows.f t398 a1).bind fun bt405 => (if bt401.2 = 0 then (purflinglaw06_LanesCaptions.l0 k t398 a1 t397 bt401.1 bt405.1 bt405.2 0 0) else (if t397 = true then (some (bt401.2 == bt405.2)) else (some false))))))
theorem purflinglaw06_LanesCaptions.mono_l : ∀ k, (∀ y0 y1 y2 y3 y4 y5 y6 y7, LeO (purflinglaw06_LanesCaptions.l0 k y0 y1 y2 y3 y4 y5 y6 y7) (purflinglaw06_LanesCaptions.l0 (k + 1) y0 y1 y2 y3 y4 y5 y6 y7)) ∧ (∀ y0 y1 y2 y3 y4 y5 y6, LeO (purflinglaw06_LanesCaptions.l1 k y0 y1 y2 y3 y4 y5 y6) (purflinglaw06_LanesCaptions.l1 (k + 1) y0 y1 y2 y3 y4 y5 y6))
 | 0 => ⟨fun _ _ _ _ _ _ _ _ r h => by simp [purflinglaw06_LanesCaptions.l0] at h, fun _ _ _ _ _ _ _ r h => by simp [purflinglaw06_LanesCaptions.l1] at h⟩
 | k + 1 => by
  obtain ⟨ih0, ih1⟩ := purflinglaw06_LanesCaptions.mono_l k
  refine ⟨?_, ?_⟩
  · intro y0 y1 y2 y3 y4 y5 y6 y7
    unfold purflinglaw06_LanesCaptions.l0
    repeat' first
    | (with_reducible exact ih0 _ _ _ _ _ _ _ _)
    | (with_reducible exact ih1 _ _ _ _ _ _ _)
    | (with_reducible exact purflinglaw04_Cut.mono _ _)
    | (with_reducible exact LeO.refl _)
    | (with_reducible exact LeO.none _)
    | (with_reducible refine LeO.ite ?_ ?_)
    | (with_reducible refine LeO.bind ?_ (fun _ => ?_))
    | exact ih0 _ _ _ _ _ _ _ _
    | exact ih1 _ _ _ _ _ _ _
    | exact purflinglaw04_Cut.mono _ _
    | exact LeO.none _
    | refine LeO.ite ?_ ?_
    | refine LeO.bind ?_ (fun _ => ?_)
  · intro y0 y1 y2 y3 y4 y5 y6
    unfold purflinglaw06_LanesCaptions.l1
    repeat' first
    | (with_reducible exact ih0 _ _ _ _ _ _ _ _)
    | (with_reducible exact ih1 _ _ _ _ _ _ _)
    | (with_reducible exact purflinglaw04_Cut.mono _ _)
    | (with_reducible exact LeO.refl _)
    | (with_reducible exact LeO.none _)
    | (with_reducible refine LeO.ite ?_ ?_)
    | (with_reducible refine LeO.bind ?_ (fun _ => ?_))
    | exact ih0 _ _ _ _ _ _ _ _
    | exact ih1 _ _ _ _ _ _ _
    | exact purflinglaw04_Cut.mono _ _
    | exact LeO.none _
    | refine LeO.ite ?_ ?_
    | refine LeO.bind ?_ (fun _ => ?_)
theorem purflinglaw06_LanesCaptions.mono : ∀ a0 a1 k, LeO (purflinglaw06_LanesCaptions.f k a0 a1) (purflinglaw06_LanesCaptions.f (k + 1) a0 a1) := by
 intro a0 a1 k
 obtain ⟨ih0, ih1⟩ := purflinglaw06_LanesCaptions.mono_l k
 unfold purflinglaw06_LanesCaptions.f
 repeat' first
  | (with_reducible exact ih0 _ _ _ _ _ _ _ _)
  | (with_reducible exact ih1 _ _ _ _ _ _ _)
  | (with_reducible exact purflinglaw04_Cut.mono _ _)
  | (with_reducible exact LeO.refl _)
  | (with_reducible exact LeO.none _)
  | (with_reducible refine LeO.ite ?_ ?_)
  | (with_reducible refine LeO.bind ?_ (fun _ => ?_))
  | exact ih0 _ _ _ _ _ _ _ _
  | exact ih1 _ _ _ _ _ _ _
  | exact purflinglaw04_Cut.mono _ _
  | exact LeO.none _
  | refine LeO.ite ?_ ?_
  | refine LeO.bind ?_ (fun _ => ?_)
set_option maxHeartbeats 8000000 in
set_option maxRecDepth 100000 in
theorem purflinglaw06_LanesCaptions.calls (k : Nat) (A0 : Option Addr) (c0 : Nat) (l0 : List (S48)) (a1 : Int) (r : Bool) (w : World) (hr0 : Kd.C k48 w A0 l0.length l0) (hc0 : l0.length ≤ c0) (h : purflinglaw06_LanesCaptions.f k l0 a1 = some r) :
 Calls Try.prog 8 #[.slice A0 l0.length c0, .int .i64 a1] w fun e w' => e = .returned (.bool r) ∧ Below w.heap.size w w' := by
 have HR0 := Aside0.mk hr0
 have HC0 := Aside0.mk hc0
 clear hr0 hc0
 have HB := Aside0.mk (Below.refl w.heap.size w)
 have H : ((purflinglaw06_shown.f).bind fun t397 => ((purflinglaw04_Cut.f k l0).bind fun t398 => ((lanes_Captions.f t398 a1).bind fun bt401 => ((lanes_Rows.f t398 a1).bind fun bt405 => (if bt401.2 = 0 then (purflinglaw06_LanesCaptions.l0 k t398 a1 t397 bt401.1 bt405.1 bt405.2 0 0) else (if t397 = true then (some (bt401.2 == bt405.2)) else (some false))))))) = some r := h
 clear h
 replace H := Option.bind_eq_some_iff.mp H
 obtain ⟨t397, A30, H⟩ := H
 replace H : ((purflinglaw04_Cut.f k l0).bind fun t398 => ((lanes_Captions.f t398 a1).bind fun bt401 => ((lanes_Rows.f t398 a1).bind fun bt405 => (if bt401.2 = 0 then (purflinglaw06_LanesCaptions.l0 k t398 a1 t397 bt401.1 bt405.1 bt405.2 0 0) else (if t397 = true then (some (bt401.2 == bt405.2)) else (some false)))))) = some r := H
 have A3 := Aside0.mk A30
 clear A30
 replace H := Option.bind_eq_some_iff.mp H
 obtain ⟨t398, A40, H⟩ := H
 replace H : ((lanes_Captions.f t398 a1).bind fun bt401 => ((lanes_Rows.f t398 a1).bind fun bt405 => (if bt401.2 = 0 then (purflinglaw06_LanesCaptions.l0 k t398 a1 t397 bt401.1 bt405.1 bt405.2 0 0) else (if t397 = true then (some (bt401.2 == bt405.2)) else (some false))))) = some r := H
 have A4 := Aside0.mk A40
 clear A40
 replace H := Option.bind_eq_some_iff.mp H
 obtain ⟨⟨t401, t402⟩, A50, H⟩ := H
 replace H : ((lanes_Rows.f t398 a1).bind fun bt405 => (if t402 = 0 then (purflinglaw06_LanesCaptions.l0 k t398 a1 t397 t401 bt405.1 bt405.2 0 0) else (if t397 = true then (some (t402 == bt405.2)) else (some false)))) = some r := H
 have A5 := Aside0.mk A50
 clear A50
 replace H := Option.bind_eq_some_iff.mp H
 obtain ⟨⟨t405, t406⟩, A60, H⟩ := H
 replace H : (if t402 = 0 then (purflinglaw06_LanesCaptions.l0 k t398 a1 t397 t401 t405 t406 0 0) else (if t397 = true then (some (t402 == t406)) else (some false))) = some r := H
 have A6 := Aside0.mk A60
 clear A60
 by_cases c7 : t402 = 0
 · rw [if_pos c7] at H
   have c7b0 : (t402 == 0) = true := beq_iff_eq.mpr c7
   have c7b1 : (t402 != 0) = false := bne_eq_false_iff_eq.mpr c7
   clear c7
   have H' := Aside0.mk H
   clear H
   go_enter Try.func8, Try.ntmps8
   go_wp2_with (first | (go_at_call 10; (with_reducible refine (purflinglaw06_shown.calls  t397 _ A3.out).mono ?_); rintro e w8 ⟨rfl, hb⟩; have n0_ := Aside0.mk (below_step (by repeat (first | (with_reducible first | exact HB.out | apply below_alloc | apply pw_below_drewN | apply below_drew1) | exact HB.out)) hb); clear HB; have HB := n0_; clear n0_; (try clear hb); (try clear hb2); (try clear hk); (try clear hi)) | (go_at_call 11; (with_reducible refine (purflinglaw04_Cut.calls k (fun k_ => k_ < w.heap.size) _ _ l0 t398 _ ?side1 A4.out).mono ?_); (case side1 => exact Kd.V_mk HC0.out (Kd.F_below (Kd.C_F k48_heap HR0.out) (by repeat (first | (with_reducible first | exact HB.out | apply below_alloc | apply pw_below_drewN | apply below_drew1) | exact HB.out)))); rintro e w9 ⟨v399, rfl, ho0, hb⟩; have n0_ := Aside0.mk (Kd.N_lower (Kd.N_mono (ok' := fun k_ => True) ho0 (fun k_ hk_ => trivial)) (below_size (by repeat (first | (with_reducible first | exact HB.out | apply below_alloc | apply pw_below_drewN | apply below_drew1) | exact HB.out)))); have n1_ := Aside0.mk (below_step (by repeat (first | (with_reducible first | exact HB.out | apply below_alloc | apply pw_below_drewN | apply below_drew1) | exact HB.out)) hb); clear HB; have HO400 := n0_; have HB := n1_; clear n0_ n1_; (try clear hb); (try clear hb2); (try clear hk); (try clear hi); (try clear ho0); obtain ⟨Ao10, co10, eo10⟩ := Kd.N_slice HO400.out; subst eo10) | (go_at_call 17; (with_reducible refine (lanes_Captions.calls _ _ t398 a1 t401 t402 _ ?side1 ?side2 A5.out).mono ?_); (case side1 => repeat (first | exact (Kd.N_reads' HO400.out).2.2 | (with_reducible refine Kd.C_alloc ?_ _) | (with_reducible refine Kd.C_drewN ?_ _) | (with_reducible refine Kd.C_drew ?_))); (case side2 => exact (Kd.N_reads' HO400.out).2.1); rintro e w11 ⟨v403, rfl, ho0, hb⟩; have n0_ := Aside0.mk (Kd.N_elder' (by (with_reducible repeat (first | apply Kd.N_alloc | apply Kd.N_drewN | apply Kd.N_drew)); exact HO400.out) (Kd.R_base ho0) hb); have n1_ := Aside0.mk (Kd.R_lower ho0 (below_size (by repeat (first | (with_reducible first | exact HB.out | apply below_alloc | apply pw_below_drewN | apply below_drew1) | exact HB.out)))); have n2_ := Aside0.mk (below_step (by repeat (first | (with_reducible first | exact HB.out | apply below_alloc | apply pw_below_drewN | apply below_drew1) | exact HB.out)) hb); clear HO400; clear HB; have HO400 := n0_; have HO404 := n1_; have HB := n2_; clear n0_ n1_ n2_; (try clear hb); (try clear hb2); (try clear hk); (try clear hi); (try clear ho0)) | (go_at_call 16; (with_reducible refine (lanes_Rows.calls _ _ t398 a1 t405 t406 _ ?side1 ?side2 A6.out).mono ?_); (case side1 => repeat (first | exact (Kd.N_reads' HO400.out).2.2 | (with_reducible refine Kd.C_alloc ?_ _) | (with_reducible refine Kd.C_drewN ?_ _) | (with_reducible refine Kd.C_drew ?_))); (case side2 => exact (Kd.N_reads' HO400.out).2.1); rintro e w12 ⟨v407, rfl, ho0, hb⟩; have n0_ := Aside0.mk (Kd.N_elder' (by (with_reducible repeat (first | apply Kd.N_alloc | apply Kd.N_drewN | apply Kd.N_drew)); exact HO400.out) (Kd.R_base ho0) hb); have n1_ := Aside0.mk (Kd.R_below (by (with_reducible repeat (first | apply Kd.R_alloc | apply Kd.R_drewN | apply Kd.R_drew)); exact HO404.out) hb); have n2_ := Aside0.mk (Kd.R_lower ho0 (below_size (by repeat (first | (with_reducible first | exact HB.out | apply below_alloc | apply pw_below_drewN | apply below_drew1) | exact HB.out)))); have n3_ := Aside0.mk (below_step (by repeat (first | (with_reducible first | exact HB.out | apply below_alloc | apply pw_below_drewN | apply below_drew1) | exact HB.out)) hb); clear HO400; clear HO404; clear HB; have HO400 := n0_; have HO404 := n1_; have HO408 := n2_; have HB := n3_; clear n0_ n1_ n2_ n3_; (try clear hb); (try clear hb2); (try clear hk); (try clear hi); (try clear ho0)))
   repeat (go_quiet (first | (go_at_call 10; (with_reducible refine (purflinglaw06_shown.calls  t397 _ A3.out).mono ?_); rintro e w8 ⟨rfl, hb⟩; have n0_ := Aside0.mk (below_step (by repeat (first | (with_reducible first | exact HB.out | apply below_alloc | apply pw_below_drewN | apply below_drew1) | exact HB.out)) hb); clear HB; have HB := n0_; clear n0_; (try clear hb); (try clear hb2); (try clear hk); (try clear hi)) | (go_at_call 11; (with_reducible refine (purflinglaw04_Cut.calls k (fun k_ => k_ < w.heap.size) _ _ l0 t398 _ ?side1 A4.out).mono ?_); (case side1 => exact Kd.V_mk HC0.out (Kd.F_below (Kd.C_F k48_heap HR0.out) (by repeat (first | (with_reducible first | exact HB.out | apply below_alloc | apply pw_below_drewN | apply below_drew1) | exact HB.out)))); rintro e w9 ⟨v399, rfl, ho0, hb⟩; have n0_ := Aside0.mk (Kd.N_lower (Kd.N_mono (ok' := fun k_ => True) ho0 (fun k_ hk_ => trivial)) (below_size (by repeat (first | (with_reducible first | exact HB.out | apply below_alloc | apply pw_below_drewN | apply below_drew1) | exact HB.out)))); have n1_ := Aside0.mk (below_step (by repeat (first | (with_reducible first | exact HB.out | apply below_alloc | apply pw_below_drewN | apply below_drew1) | exact HB.out)) hb); clear HB; have HO400 := n0_; have HB := n1_; clear n0_ n1_; (try clear hb); (try clear hb2); (try clear hk); (try clear hi); (try clear ho0); obtain ⟨Ao10, co10, eo10⟩ := Kd.N_slice HO400.out; subst eo10) | (go_at_call 17; (with_reducible refine (lanes_Captions.calls _ _ t398 a1 t401 t402 _ ?side1 ?side2 A5.out).mono ?_); (case side1 => repeat (first | exact (Kd.N_reads' HO400.out).2.2 | (with_reducible refine Kd.C_alloc ?_ _) | (with_reducible refine Kd.C_drewN ?_ _) | (with_reducible refine Kd.C_drew ?_))); (case side2 => exact (Kd.N_reads' HO400.out).2.1); rintro e w11 ⟨v403, rfl, ho0, hb⟩; have n0_ := Aside0.mk (Kd.N_elder' (by (with_reducible repeat (first | apply Kd.N_alloc | apply Kd.N_drewN | apply Kd.N_drew)); exact HO400.out) (Kd.R_base ho0) hb); have n1_ := Aside0.mk (Kd.R_lower ho0 (below_size (by repeat (first | (with_reducible first | exact HB.out | apply below_alloc | apply pw_below_drewN | apply below_drew1) | exact HB.out)))); have n2_ := Aside0.mk (below_step (by repeat (first | (with_reducible first | exact HB.out | apply below_alloc | apply pw_below_drewN | apply below_drew1) | exact HB.out)) hb); clear HO400; clear HB; have HO400 := n0_; have HO404 := n1_; have HB := n2_; clear n0_ n1_ n2_; (try clear hb); (try clear hb2); (try clear hk); (try clear hi); (try clear ho0)) | (go_at_call 16; (with_reducible refine (lanes_Rows.calls _ _ t398 a1 t405 t406 _ ?side1 ?side2 A6.out).mono ?_); (case side1 => repeat (first | exact (Kd.N_reads' HO400.out).2.2 | (with_reducible refine Kd.C_alloc ?_ _) | (with_reducible refine Kd.C_drewN ?_ _) | (with_reducible refine Kd.C_drew ?_))); (case side2 => exact (Kd.N_reads' HO400.out).2.1); rintro e w12 ⟨v407, rfl, ho0, hb⟩; have n0_ := Aside0.mk (Kd.N_elder' (by (with_reducible repeat (first | apply Kd.N_alloc | apply Kd.N_drewN | apply Kd.N_drew)); exact HO400.out) (Kd.R_base ho0) hb); have n1_ := Aside0.mk (Kd.R_below (by (with_reducible repeat (first | apply Kd.R_alloc | apply Kd.R_drewN | apply Kd.R_drew)); exact HO404.out) hb); have n2_ := Aside0.mk (Kd.R_lower ho0 (below_size (by repeat (first | (with_reducible first | exact HB.out | apply below_alloc | apply pw_below_drewN | apply below_drew1) | exact HB.out)))); have n3_ := Aside0.mk (below_step (by repeat (first | (with_reducible first | exact HB.out | apply below_alloc | apply pw_below_drewN | apply below_drew1) | exact HB.out)) hb); clear HO400; clear HO404; clear HB; have HO400 := n0_; have HO404 := n1_; have HO408 := n2_; have HB := n3_; clear n0_ n1_ n2_ n3_; (try clear hb); (try clear hb2); (try clear hk); (try clear hi); (try clear ho0))); try go_wp2_with (first | (go_at_call 10; (with_reducible refine (purflinglaw06_shown.calls  t397 _ A3.out).mono ?_); rintro e w8 ⟨rfl, hb⟩; have n0_ := Aside0.mk (below_step (by repeat (first | (with_reducible first | exact HB.out | apply below_alloc | apply pw_below_drewN | apply below_drew1) | exact HB.out)) hb); clear HB; have HB := n0_; clear n0_; (try clear hb); (try clear hb2); (try clear hk); (try clear hi)) | (go_at_call 11; (with_reducible refine (purflinglaw04_Cut.calls k (fun k_ => k_ < w.heap.size) _ _ l0 t398 _ ?side1 A4.out).mono ?_); (case side1 => exact Kd.V_mk HC0.out (Kd.F_below (Kd.C_F k48_heap HR0.out) (by repeat (first | (with_reducible first | exact HB.out | apply below_alloc | apply pw_below_drewN | apply below_drew1) | exact HB.out)))); rintro e w9 ⟨v399, rfl, ho0, hb⟩; have n0_ := Aside0.mk (Kd.N_lower (Kd.N_mono (ok' := fun k_ => True) ho0 (fun k_ hk_ => trivial)) (below_size (by repeat (first | (with_reducible first | exact HB.out | apply below_alloc | apply pw_below_drewN | apply below_drew1) | exact HB.out)))); have n1_ := Aside0.mk (below_step (by repeat (first | (with_reducible first | exact HB.out | apply below_alloc | apply pw_below_drewN | apply below_drew1) | exact HB.out)) hb); clear HB; have HO400 := n0_; have HB := n1_; clear n0_ n1_; (try clear hb); (try clear hb2); (try clear hk); (try clear hi); (try clear ho0); obtain ⟨Ao10, co10, eo10⟩ := Kd.N_slice HO400.out; subst eo10) | (go_at_call 17; (with_reducible refine (lanes_Captions.calls _ _ t398 a1 t401 t402 _ ?side1 ?side2 A5.out).mono ?_); (case side1 => repeat (first | exact (Kd.N_reads' HO400.out).2.2 | (with_reducible refine Kd.C_alloc ?_ _) | (with_reducible refine Kd.C_drewN ?_ _) | (with_reducible refine Kd.C_drew ?_))); (case side2 => exact (Kd.N_reads' HO400.out).2.1); rintro e w11 ⟨v403, rfl, ho0, hb⟩; have n0_ := Aside0.mk (Kd.N_elder' (by (with_reducible repeat (first | apply Kd.N_alloc | apply Kd.N_drewN | apply Kd.N_drew)); exact HO400.out) (Kd.R_base ho0) hb); have n1_ := Aside0.mk (Kd.R_lower ho0 (below_size (by repeat (first | (with_reducible first | exact HB.out | apply below_alloc | apply pw_below_drewN | apply below_drew1) | exact HB.out)))); have n2_ := Aside0.mk (below_step (by repeat (first | (with_reducible first | exact HB.out | apply below_alloc | apply pw_below_drewN | apply below_drew1) | exact HB.out)) hb); clear HO400; clear HB; have HO400 := n0_; have HO404 := n1_; have HB := n2_; clear n0_ n1_ n2_; (try clear hb); (try clear hb2); (try clear hk); (try clear hi); (try clear ho0)) | (go_at_call 16; (with_reducible refine (lanes_Rows.calls _ _ t398 a1 t405 t406 _ ?side1 ?side2 A6.out).mono ?_); (case side1 => repeat (first | exact (Kd.N_reads' HO400.out).2.2 | (with_reducible refine Kd.C_alloc ?_ _) | (with_reducible refine Kd.C_drewN ?_ _) | (with_reducible refine Kd.C_drew ?_))); (case side2 => exact (Kd.N_reads' HO400.out).2.1); rintro e w12 ⟨v407, rfl, ho0, hb⟩; have n0_ := Aside0.mk (Kd.N_elder' (by (with_reducible repeat (first | apply Kd.N_alloc | apply Kd.N_drewN | apply Kd.N_drew)); exact HO400.out) (Kd.R_base ho0) hb); have n1_ := Aside0.mk (Kd.R_below (by (with_reducible repeat (first | apply Kd.R_alloc | apply Kd.R_drewN | apply Kd.R_drew)); exact HO404.out) hb); have n2_ := Aside0.mk (Kd.R_lower ho0 (below_size (by repeat (first | (with_reducible first | exact HB.out | apply below_alloc | apply pw_below_drewN | apply below_drew1) | exact HB.out)))); have n3_ := Aside0.mk (below_step (by repeat (first | (with_reducible first | exact HB.out | apply below_alloc | apply pw_below_drewN | apply below_drew1) | exact HB.out)) hb); clear HO400; clear HO404; clear HB; have HO400 := n0_; have HO404 := n1_; have HO408 := n2_; have HB := n3_; clear n0_ n1_ n2_ n3_; (try clear hb); (try clear hb2); (try clear hk); (try clear hi); (try clear ho0))))
   go_loopg [10, 11] k (fun kq v10 v11 w' => ∃ (x10_1 : Int) (x11_1 : Int), v10 = .int .i64 x10_1 ∧ v11 = .int .i64 x11_1 ∧ Aside0 (purflinglaw06_LanesCaptions.l0 kq t398 a1 t397 t401 t405 t406 x10_1 x11_1 = some r) ∧ Aside0 (kq ≤ k) ∧ Aside0 (Kd.N k48 48 w' w.heap.size (fun k_ => some k_ ≠ (v403 : Value).ownBlock ∧ some k_ ≠ (v407 : Value).ownBlock) (.slice Ao10 t398.length co10) t398) ∧ Aside0 (Kd.R (Kd.int .i64) 3 w' w.heap.size (fun _ => True) v403 t401) ∧ Aside0 (Kd.R k35 35 w' w.heap.size (fun _ => True) v407 t405) ∧ Aside0 (Below w.heap.size w w'))
   case atStart => exact ⟨(0), (0), (by first | rfl | (simp; done) | (simp [*]; done)), (by first | rfl | (simp; done) | (simp [*]; done)), H', ⟨Nat.le_refl _⟩, ⟨by (with_reducible repeat (first | apply Kd.N_alloc | apply Kd.N_drewN | apply Kd.N_drew)); exact Kd.N_mono HO400.out (fun _ hk => ⟨hk.1.2, hk.2⟩)⟩, ⟨by (with_reducible repeat (first | apply Kd.R_alloc | apply Kd.R_drewN | apply Kd.R_drew)); exact HO404.out⟩, ⟨by (with_reducible repeat (first | apply Kd.R_alloc | apply Kd.R_drewN | apply Kd.R_drew)); exact HO408.out⟩, ⟨by repeat (first | (with_reducible first | exact HB.out | apply below_alloc | apply pw_below_drewN | apply below_drew1) | exact HB.out)⟩⟩
   case round =>
    clear H'
    try clear p2
    try clear c7
    try clear c7b0
    try clear c7b1
    try clear c8
    obtain ⟨x10_1, x11_1, rfl, rfl, HA, HK1, HO_0, HO_6, HO_8, HB⟩ := hrel
    cases gk with
    | zero => exact absurd HA.out (by simp [purflinglaw06_LanesCaptions.l0])
    | succ k1 =>
     have H := HA.out
     clear HA
     simp only [purflinglaw06_LanesCaptions.l0] at H
     by_cases c13 : 0 ≤ a1
     · rw [if_pos c13] at H
       have c13b0 : decide (0 ≤ a1) = true := decide_eq_true c13
       clear c13
       by_cases c14 : a1 < (t398.length : Int)
       · rw [if_pos c14] at H
         have c14b0 : decide (a1 < (t398.length : Int)) = true := decide_eq_true c14
         clear c14
         by_cases c15 : x11_1 < (((rd_T48 t398 a1).f1).length : Int)
         · rw [if_pos c15] at H
           have c15b0 : decide (x11_1 < (((rd_T48 t398 a1).f1).length : Int)) = true := decide_eq_true c15
           clear c15
           by_cases c16 : 0 ≤ x11_1
           · rw [if_pos c16] at H
             have c16b0 : decide (0 ≤ x11_1) = true := decide_eq_true c16
             clear c16
             by_cases c17 : 0 ≤ (rd ((rd_T48 t398 a1).f1) x11_1)
             · rw [if_pos c17] at H
               have c17b0 : decide (0 ≤ (rd ((rd_T48 t398 a1).f1) x11_1)) = true := decide_eq_true c17
               clear c17
               by_cases c18 : (rd ((rd_T48 t398 a1).f1) x11_1) < (t398.length : Int)
               · rw [if_pos c18] at H
                 have c18b0 : decide ((rd ((rd_T48 t398 a1).f1) x11_1) < (t398.length : Int)) = true := decide_eq_true c18
                 clear c18
                 by_cases c19 : ((rd_T48 t398 (rd ((rd_T48 t398 a1).f1) x11_1)).f0) = 3
                 · rw [if_pos c19] at H
                   have c19b0 : (((rd_T48 t398 (rd ((rd_T48 t398 a1).f1) x11_1)).f0) == 3) = true := beq_iff_eq.mpr c19
                   have c19b1 : (((rd_T48 t398 (rd ((rd_T48 t398 a1).f1) x11_1)).f0) != 3) = false := bne_eq_false_iff_eq.mpr c19
                   clear c19
                   by_cases c20 : x10_1 ≥ (t401.length : Int)
                   · rw [if_pos c20] at H
                     have c20b0 : decide ((t401.length : Int) ≤ x10_1) = true := decide_eq_true c20
                     clear c20
                     obtain rfl := Option.some.inj H
                     have p409 : 0 ≤ (a1 : Int) := of_decide_eq_true (by first | (with_reducible assumption) | assumption)
                     have q409 : a1 < (t398.length : Int) := of_decide_eq_true (by first | (with_reducible assumption) | assumption)
                     obtain ⟨ad409, A409_1, c409_1, A409_31, c409_31, e409, hx409_0, hx409_1, hx409_2, hx409_3, hx409_4, hx409_5, hx409_6, hx409_7, hx409_8, hx409_9, hx409_10, hx409_11, hx409_12, hx409_13, hx409_14, hx409_15, hx409_16, hx409_17, hx409_18, hx409_19, hx409_20, hx409_21, hx409_22, hx409_23, hx409_24, hx409_25, hx409_26, hx409_27, hx409_28, hx409_29, hx409_30, hx409_31, hx409_32, hx409_33, hl409_1, hi409_1, hl409_31, hi409_31⟩ := at_T48 (Kd.N_reads' HO_0.out).2.2 a1 p409 q409
                     cases e409
                     obtain ⟨ce409, hce409, hMe409, hcc409⟩ := Kd.N_get HO_0.out z48 a1 p409 (by first | exact q409 | exact of_decide_eq_true (by first | (with_reducible assumption) | assumption) | (have e_ := (Kd.N_reads' HO_0.out).1; omega))
                     obtain ⟨ua409_1, uc409_1, ua409_31, uc409_31, rfl, ul409_1, ge409_1, ul409_31, ge409_31⟩ := k48_openF hMe409
                     have hv409_1 := hcc409 1 _ rfl
                     rw [add_field _ _ 1 (by omega)] at hv409_1
                     replace hv409_1 := Option.some.inj (hv409_1.symm.trans hx409_1)
                     injection hv409_1 with hva_ hvn_ hvc_
                     rw [hva_] at ge409_1
                     rw [hvc_] at ul409_1
                     have HL409_1 := Aside0.mk (show Kd.V (Kd.int .i64) 3 _ w.heap.size _ _ ((rd_T48 t398 a1).f1) from Kd.V_mk ul409_1 ge409_1)
                     clear hva_ hvn_ hvc_ ge409_1 ul409_1
                     have hv409_31 := hcc409 31 _ rfl
                     rw [add_field _ _ 31 (by omega)] at hv409_31
                     replace hv409_31 := Option.some.inj (hv409_31.symm.trans hx409_31)
                     injection hv409_31 with hva_ hvn_ hvc_
                     rw [hva_] at ge409_31
                     rw [hvc_] at ul409_31
                     have HL409_31 := Aside0.mk (show Kd.V (Kd.int .i64) 2 _ w.heap.size _ _ ((rd_T48 t398 a1).f3) from Kd.V_mk ul409_31 ge409_31)
                     clear hva_ hvn_ hvc_ ge409_31 ul409_31
                     clear hcc409 hce409
                     have HR409_1 := Aside0.mk hi409_1
                     have HC409_1 := Aside0.mk hl409_1
                     clear hi409_1 hl409_1
                     have HR409_31 := Aside0.mk hi409_31
                     have HC409_31 := Aside0.mk hl409_31
                     clear hi409_31 hl409_31
                     replace p409 := eq_true p409
                     replace q409 := eq_true q409
                     have p410 : 0 ≤ (a1 : Int) := of_decide_eq_true (by first | (with_reducible assumption) | assumption)
                     have q410 : a1 < (t398.length : Int) := of_decide_eq_true (by first | (with_reducible assumption) | assumption)
                     obtain ⟨ad410, A410_1, c410_1, A410_31, c410_31, e410, hx410_0, hx410_1, hx410_2, hx410_3, hx410_4, hx410_5, hx410_6, hx410_7, hx410_8, hx410_9, hx410_10, hx410_11, hx410_12, hx410_13, hx410_14, hx410_15, hx410_16, hx410_17, hx410_18, hx410_19, hx410_20, hx410_21, hx410_22, hx410_23, hx410_24, hx410_25, hx410_26, hx410_27, hx410_28, hx410_29, hx410_30, hx410_31, hx410_32, hx410_33, hl410_1, hi410_1, hl410_31, hi410_31⟩ := at_T48 (Kd.N_reads' HO_0.out).2.2 a1 p410 q410
                     obtain rfl : ad409 = ad410 := (by injection e410)
                     obtain ⟨ce410, hce410, hMe410, hcc410⟩ := Kd.N_get HO_0.out z48 a1 p410 (by first | exact q410 | exact of_decide_eq_true (by first | (with_reducible assumption) | assumption) | (have e_ := (Kd.N_reads' HO_0.out).1; omega))
                     obtain ⟨ua410_1, uc410_1, ua410_31, uc410_31, rfl, ul410_1, ge410_1, ul410_31, ge410_31⟩ := k48_openF hMe410
                     have hv410_1 := hcc410 1 _ rfl
                     rw [add_field _ _ 1 (by omega)] at hv410_1
                     replace hv410_1 := Option.some.inj (hv410_1.symm.trans hx410_1)
                     injection hv410_1 with hva_ hvn_ hvc_
                     rw [hva_] at ge410_1
                     rw [hvc_] at ul410_1
                     have HL410_1 := Aside0.mk (show Kd.V (Kd.int .i64) 3 _ w.heap.size _ _ ((rd_T48 t398 a1).f1) from Kd.V_mk ul410_1 ge410_1)
                     clear hva_ hvn_ hvc_ ge410_1 ul410_1
                     have hv410_31 := hcc410 31 _ rfl
                     rw [add_field _ _ 31 (by omega)] at hv410_31
                     replace hv410_31 := Option.some.inj (hv410_31.symm.trans hx410_31)
                     injection hv410_31 with hva_ hvn_ hvc_
                     rw [hva_] at ge410_31
                     rw [hvc_] at ul410_31
                     have HL410_31 := Aside0.mk (show Kd.V (Kd.int .i64) 2 _ w.heap.size _ _ ((rd_T48 t398 a1).f3) from Kd.V_mk ul410_31 ge410_31)
                     clear hva_ hvn_ hvc_ ge410_31 ul410_31
                     clear hcc410 hce410
                     have HR410_1 := Aside0.mk hi410_1
                     have HC410_1 := Aside0.mk hl410_1
                     clear hi410_1 hl410_1
                     have HR410_31 := Aside0.mk hi410_31
                     have HC410_31 := Aside0.mk hl410_31
                     clear hi410_31 hl410_31
                     replace p410 := eq_true p410
                     replace q410 := eq_true q410
                     have ea_ := Option.some.inj (hx409_1.symm.trans hx410_1)
                     injection ea_ with ea_ en_ ec_
                     subst ea_
                     subst ec_
                     clear en_
                     have ea_ := Option.some.inj (hx409_31.symm.trans hx410_31)
                     injection ea_ with ea_ en_ ec_
                     subst ea_
                     subst ec_
                     clear en_
                     have p411 : 0 ≤ (x11_1 : Int) := of_decide_eq_true (by first | (with_reducible assumption) | assumption)
                     have q411 : x11_1 < (((rd_T48 t398 a1).f1).length : Int) := of_decide_eq_true (by first | (with_reducible assumption) | assumption)
                     obtain ⟨ad411, e411, hx411_0⟩ := Kd.at_int (by repeat (first | (with_reducible exact HR410_1.out) | (with_reducible refine Kd.C_alloc ?_ _) | (with_reducible refine Kd.C_drewN ?_ _) | (with_reducible refine Kd.C_drew ?_) | exact HR410_1.out)) x11_1 p411 q411
                     cases e411
                     replace p411 := eq_true p411
                     replace q411 := eq_true q411
                     have p412 : 0 ≤ ((rd ((rd_T48 t398 a1).f1) x11_1) : Int) := of_decide_eq_true (by first | (with_reducible assumption) | assumption)
                     have q412 : (rd ((rd_T48 t398 a1).f1) x11_1) < (t398.length : Int) := of_decide_eq_true (by first | (with_reducible assumption) | assumption)
                     obtain ⟨ad412, A412_1, c412_1, A412_31, c412_31, e412, hx412_0, hx412_1, hx412_2, hx412_3, hx412_4, hx412_5, hx412_6, hx412_7, hx412_8, hx412_9, hx412_10, hx412_11, hx412_12, hx412_13, hx412_14, hx412_15, hx412_16, hx412_17, hx412_18, hx412_19, hx412_20, hx412_21, hx412_22, hx412_23, hx412_24, hx412_25, hx412_26, hx412_27, hx412_28, hx412_29, hx412_30, hx412_31, hx412_32, hx412_33, hl412_1, hi412_1, hl412_31, hi412_31⟩ := at_T48 (Kd.N_reads' HO_0.out).2.2 (rd ((rd_T48 t398 a1).f1) x11_1) p412 q412
                     obtain rfl : ad409 = ad412 := (by injection e412)
                     obtain ⟨ce412, hce412, hMe412, hcc412⟩ := Kd.N_get HO_0.out z48 (rd ((rd_T48 t398 a1).f1) x11_1) p412 (by first | exact q412 | exact of_decide_eq_true (by first | (with_reducible assumption) | assumption) | (have e_ := (Kd.N_reads' HO_0.out).1; omega))
                     obtain ⟨ua412_1, uc412_1, ua412_31, uc412_31, rfl, ul412_1, ge412_1, ul412_31, ge412_31⟩ := k48_openF hMe412
                     have hv412_1 := hcc412 1 _ rfl
                     rw [add_field _ _ 1 (by omega)] at hv412_1
                     replace hv412_1 := Option.some.inj (hv412_1.symm.trans hx412_1)
                     injection hv412_1 with hva_ hvn_ hvc_
                     rw [hva_] at ge412_1
                     rw [hvc_] at ul412_1
                     have HL412_1 := Aside0.mk (show Kd.V (Kd.int .i64) 3 _ w.heap.size _ _ ((rd_T48 t398 (rd ((rd_T48 t398 a1).f1) x11_1)).f1) from Kd.V_mk ul412_1 ge412_1)
                     clear hva_ hvn_ hvc_ ge412_1 ul412_1
                     have hv412_31 := hcc412 31 _ rfl
                     rw [add_field _ _ 31 (by omega)] at hv412_31
                     replace hv412_31 := Option.some.inj (hv412_31.symm.trans hx412_31)
                     injection hv412_31 with hva_ hvn_ hvc_
                     rw [hva_] at ge412_31
                     rw [hvc_] at ul412_31
                     have HL412_31 := Aside0.mk (show Kd.V (Kd.int .i64) 2 _ w.heap.size _ _ ((rd_T48 t398 (rd ((rd_T48 t398 a1).f1) x11_1)).f3) from Kd.V_mk ul412_31 ge412_31)
                     clear hva_ hvn_ hvc_ ge412_31 ul412_31
                     clear hcc412 hce412
                     have HR412_1 := Aside0.mk hi412_1
                     have HC412_1 := Aside0.mk hl412_1
                     clear hi412_1 hl412_1
                     have HR412_31 := Aside0.mk hi412_31
                     have HC412_31 := Aside0.mk hl412_31
                     clear hi412_31 hl412_31
                     replace p412 := eq_true p412
                     replace q412 := eq_true q412
                     obtain ⟨Ao21, co21, eo21⟩ := Kd.R_slice HO_6.out
                     subst eo21
                     go_wp2
                     repeat (go_quiet (fail); try go_wp2)
                     go_ret
                     exact ⟨by first | rfl | (simp [errW_none, errW_some] <;> rfl) | (simp [*, errW_none, errW_some] <;> rfl), by repeat (first | (with_reducible first | exact HB.out | apply below_alloc | apply pw_below_drewN | apply below_drew1) | exact HB.out)⟩
                   · rw [if_neg c20] at H
                     have c20b0 : decide ((t401.length : Int) ≤ x10_1) = false := decide_eq_false c20
                     clear c20
                     by_cases c22 : 0 ≤ x10_1
                     · rw [if_pos c22] at H
                       have c22b0 : decide (0 ≤ x10_1) = true := decide_eq_true c22
                       clear c22
                       by_cases c23 : x10_1 < (t401.length : Int)
                       · rw [if_pos c23] at H
                         have c23b0 : decide (x10_1 < (t401.length : Int)) = true := decide_eq_true c23
                         clear c23
                         by_cases c24 : (rd t401 x10_1) = (rd ((rd_T48 t398 a1).f1) x11_1)
                         · rw [if_pos c24] at H
                           have c24b0 : ((rd t401 x10_1) == (rd ((rd_T48 t398 a1).f1) x11_1)) = true := beq_iff_eq.mpr c24
                           have c24b1 : ((rd t401 x10_1) != (rd ((rd_T48 t398 a1).f1) x11_1)) = false := bne_eq_false_iff_eq.mpr c24
                           clear c24
                           have H' := Aside0.mk H
                           clear H
                           have p409 : 0 ≤ (a1 : Int) := of_decide_eq_true (by first | (with_reducible assumption) | assumption)
                           have q409 : a1 < (t398.length : Int) := of_decide_eq_true (by first | (with_reducible assumption) | assumption)
                           obtain ⟨ad409, A409_1, c409_1, A409_31, c409_31, e409, hx409_0, hx409_1, hx409_2, hx409_3, hx409_4, hx409_5, hx409_6, hx409_7, hx409_8, hx409_9, hx409_10, hx409_11, hx409_12, hx409_13, hx409_14, hx409_15, hx409_16, hx409_17, hx409_18, hx409_19, hx409_20, hx409_21, hx409_22, hx409_23, hx409_24, hx409_25, hx409_26, hx409_27, hx409_28, hx409_29, hx409_30, hx409_31, hx409_32, hx409_33, hl409_1, hi409_1, hl409_31, hi409_31⟩ := at_T48 (Kd.N_reads' HO_0.out).2.2 a1 p409 q409
                           cases e409
                           obtain ⟨ce409, hce409, hMe409, hcc409⟩ := Kd.N_get HO_0.out z48 a1 p409 (by first | exact q409 | exact of_decide_eq_true (by first | (with_reducible assumption) | assumption) | (have e_ := (Kd.N_reads' HO_0.out).1; omega))
                           obtain ⟨ua409_1, uc409_1, ua409_31, uc409_31, rfl, ul409_1, ge409_1, ul409_31, ge409_31⟩ := k48_openF hMe409
                           have hv409_1 := hcc409 1 _ rfl
                           rw [add_field _ _ 1 (by omega)] at hv409_1
                           replace hv409_1 := Option.some.inj (hv409_1.symm.trans hx409_1)
                           injection hv409_1 with hva_ hvn_ hvc_
                           rw [hva_] at ge409_1
                           rw [hvc_] at ul409_1
                           have HL409_1 := Aside0.mk (show Kd.V (Kd.int .i64) 3 _ w.heap.size _ _ ((rd_T48 t398 a1).f1) from Kd.V_mk ul409_1 ge409_1)
                           clear hva_ hvn_ hvc_ ge409_1 ul409_1
                           have hv409_31 := hcc409 31 _ rfl
                           rw [add_field _ _ 31 (by omega)] at hv409_31
                           replace hv409_31 := Option.some.inj (hv409_31.symm.trans hx409_31)
                           injection hv409_31 with hva_ hvn_ hvc_
                           rw [hva_] at ge409_31
                           rw [hvc_] at ul409_31
                           have HL409_31 := Aside0.mk (show Kd.V (Kd.int .i64) 2 _ w.heap.size _ _ ((rd_T48 t398 a1).f3) from Kd.V_mk ul409_31 ge409_31)
                           clear hva_ hvn_ hvc_ ge409_31 ul409_31
                           clear hcc409 hce409
                           have HR409_1 := Aside0.mk hi409_1
                           have HC409_1 := Aside0.mk hl409_1
                           clear hi409_1 hl409_1
                           have HR409_31 := Aside0.mk hi409_31
                           have HC409_31 := Aside0.mk hl409_31
                           clear hi409_31 hl409_31
                           replace p409 := eq_true p409
                           replace q409 := eq_true q409
                           have p410 : 0 ≤ (a1 : Int) := of_decide_eq_true (by first | (with_reducible assumption) | assumption)
                           have q410 : a1 < (t398.length : Int) := of_decide_eq_true (by first | (with_reducible assumption) | assumption)
                           obtain ⟨ad410, A410_1, c410_1, A410_31, c410_31, e410, hx410_0, hx410_1, hx410_2, hx410_3, hx410_4, hx410_5, hx410_6, hx410_7, hx410_8, hx410_9, hx410_10, hx410_11, hx410_12, hx410_13, hx410_14, hx410_15, hx410_16, hx410_17, hx410_18, hx410_19, hx410_20, hx410_21, hx410_22, hx410_23, hx410_24, hx410_25, hx410_26, hx410_27, hx410_28, hx410_29, hx410_30, hx410_31, hx410_32, hx410_33, hl410_1, hi410_1, hl410_31, hi410_31⟩ := at_T48 (Kd.N_reads' HO_0.out).2.2 a1 p410 q410
                           obtain rfl : ad409 = ad410 := (by injection e410)
                           obtain ⟨ce410, hce410, hMe410, hcc410⟩ := Kd.N_get HO_0.out z48 a1 p410 (by first | exact q410 | exact of_decide_eq_true (by first | (with_reducible assumption) | assumption) | (have e_ := (Kd.N_reads' HO_0.out).1; omega))
                           obtain ⟨ua410_1, uc410_1, ua410_31, uc410_31, rfl, ul410_1, ge410_1, ul410_31, ge410_31⟩ := k48_openF hMe410
                           have hv410_1 := hcc410 1 _ rfl
                           rw [add_field _ _ 1 (by omega)] at hv410_1
                           replace hv410_1 := Option.some.inj (hv410_1.symm.trans hx410_1)
                           injection hv410_1 with hva_ hvn_ hvc_
                           rw [hva_] at ge410_1
                           rw [hvc_] at ul410_1
                           have HL410_1 := Aside0.mk (show Kd.V (Kd.int .i64) 3 _ w.heap.size _ _ ((rd_T48 t398 a1).f1) from Kd.V_mk ul410_1 ge410_1)
                           clear hva_ hvn_ hvc_ ge410_1 ul410_1
                           have hv410_31 := hcc410 31 _ rfl
                           rw [add_field _ _ 31 (by omega)] at hv410_31
                           replace hv410_31 := Option.some.inj (hv410_31.symm.trans hx410_31)
                           injection hv410_31 with hva_ hvn_ hvc_
                           rw [hva_] at ge410_31
                           rw [hvc_] at ul410_31
                           have HL410_31 := Aside0.mk (show Kd.V (Kd.int .i64) 2 _ w.heap.size _ _ ((rd_T48 t398 a1).f3) from Kd.V_mk ul410_31 ge410_31)
                           clear hva_ hvn_ hvc_ ge410_31 ul410_31
                           clear hcc410 hce410
                           have HR410_1 := Aside0.mk hi410_1
                           have HC410_1 := Aside0.mk hl410_1
                           clear hi410_1 hl410_1
                           have HR410_31 := Aside0.mk hi410_31
                           have HC410_31 := Aside0.mk hl410_31
                           clear hi410_31 hl410_31
                           replace p410 := eq_true p410
                           replace q410 := eq_true q410
                           have ea_ := Option.some.inj (hx409_1.symm.trans hx410_1)
                           injection ea_ with ea_ en_ ec_
                           subst ea_
                           subst ec_
                           clear en_
                           have ea_ := Option.some.inj (hx409_31.symm.trans hx410_31)
                           injection ea_ with ea_ en_ ec_
                           subst ea_
                           subst ec_
                           clear en_
                           have p411 : 0 ≤ (x11_1 : Int) := of_decide_eq_true (by first | (with_reducible assumption) | assumption)
                           have q411 : x11_1 < (((rd_T48 t398 a1).f1).length : Int) := of_decide_eq_true (by first | (with_reducible assumption) | assumption)
                           obtain ⟨ad411, e411, hx411_0⟩ := Kd.at_int (by repeat (first | (with_reducible exact HR410_1.out) | (with_reducible refine Kd.C_alloc ?_ _) | (with_reducible refine Kd.C_drewN ?_ _) | (with_reducible refine Kd.C_drew ?_) | exact HR410_1.out)) x11_1 p411 q411
                           cases e411
                           replace p411 := eq_true p411
                           replace q411 := eq_true q411
                           have p412 : 0 ≤ ((rd ((rd_T48 t398 a1).f1) x11_1) : Int) := of_decide_eq_true (by first | (with_reducible assumption) | assumption)
                           have q412 : (rd ((rd_T48 t398 a1).f1) x11_1) < (t398.length : Int) := of_decide_eq_true (by first | (with_reducible assumption) | assumption)
                           obtain ⟨ad412, A412_1, c412_1, A412_31, c412_31, e412, hx412_0, hx412_1, hx412_2, hx412_3, hx412_4, hx412_5, hx412_6, hx412_7, hx412_8, hx412_9, hx412_10, hx412_11, hx412_12, hx412_13, hx412_14, hx412_15, hx412_16, hx412_17, hx412_18, hx412_19, hx412_20, hx412_21, hx412_22, hx412_23, hx412_24, hx412_25, hx412_26, hx412_27, hx412_28, hx412_29, hx412_30, hx412_31, hx412_32, hx412_33, hl412_1, hi412_1, hl412_31, hi412_31⟩ := at_T48 (Kd.N_reads' HO_0.out).2.2 (rd ((rd_T48 t398 a1).f1) x11_1) p412 q412
                           obtain rfl : ad409 = ad412 := (by injection e412)
                           obtain ⟨ce412, hce412, hMe412, hcc412⟩ := Kd.N_get HO_0.out z48 (rd ((rd_T48 t398 a1).f1) x11_1) p412 (by first | exact q412 | exact of_decide_eq_true (by first | (with_reducible assumption) | assumption) | (have e_ := (Kd.N_reads' HO_0.out).1; omega))
                           obtain ⟨ua412_1, uc412_1, ua412_31, uc412_31, rfl, ul412_1, ge412_1, ul412_31, ge412_31⟩ := k48_openF hMe412
                           have hv412_1 := hcc412 1 _ rfl
                           rw [add_field _ _ 1 (by omega)] at hv412_1
                           replace hv412_1 := Option.some.inj (hv412_1.symm.trans hx412_1)
                           injection hv412_1 with hva_ hvn_ hvc_
                           rw [hva_] at ge412_1
                           rw [hvc_] at ul412_1
                           have HL412_1 := Aside0.mk (show Kd.V (Kd.int .i64) 3 _ w.heap.size _ _ ((rd_T48 t398 (rd ((rd_T48 t398 a1).f1) x11_1)).f1) from Kd.V_mk ul412_1 ge412_1)
                           clear hva_ hvn_ hvc_ ge412_1 ul412_1
                           have hv412_31 := hcc412 31 _ rfl
                           rw [add_field _ _ 31 (by omega)] at hv412_31
                           replace hv412_31 := Option.some.inj (hv412_31.symm.trans hx412_31)
                           injection hv412_31 with hva_ hvn_ hvc_
                           rw [hva_] at ge412_31
                           rw [hvc_] at ul412_31
                           have HL412_31 := Aside0.mk (show Kd.V (Kd.int .i64) 2 _ w.heap.size _ _ ((rd_T48 t398 (rd ((rd_T48 t398 a1).f1) x11_1)).f3) from Kd.V_mk ul412_31 ge412_31)
                           clear hva_ hvn_ hvc_ ge412_31 ul412_31
                           clear hcc412 hce412
                           have HR412_1 := Aside0.mk hi412_1
                           have HC412_1 := Aside0.mk hl412_1
                           clear hi412_1 hl412_1
                           have HR412_31 := Aside0.mk hi412_31
                           have HC412_31 := Aside0.mk hl412_31
                           clear hi412_31 hl412_31
                           replace p412 := eq_true p412
                           replace q412 := eq_true q412
                           obtain ⟨Ao25, co25, eo25⟩ := Kd.R_slice HO_6.out
                           subst eo25
                           have p413 : 0 ≤ (x10_1 : Int) := of_decide_eq_true (by first | (with_reducible assumption) | assumption)
                           have q413 : x10_1 < (t401.length : Int) := of_decide_eq_true (by first | (with_reducible assumption) | assumption)
                           obtain ⟨ad413, e413, hx413_0⟩ := Kd.at_int (Kd.R_reads' HO_6.out).2.2 x10_1 p413 q413
                           cases e413
                           replace p413 := eq_true p413
                           replace q413 := eq_true q413
                           have p414 : 0 ≤ (a1 : Int) := of_decide_eq_true (by first | (with_reducible assumption) | assumption)
                           have q414 : a1 < (t398.length : Int) := of_decide_eq_true (by first | (with_reducible assumption) | assumption)
                           obtain ⟨ad414, A414_1, c414_1, A414_31, c414_31, e414, hx414_0, hx414_1, hx414_2, hx414_3, hx414_4, hx414_5, hx414_6, hx414_7, hx414_8, hx414_9, hx414_10, hx414_11, hx414_12, hx414_13, hx414_14, hx414_15, hx414_16, hx414_17, hx414_18, hx414_19, hx414_20, hx414_21, hx414_22, hx414_23, hx414_24, hx414_25, hx414_26, hx414_27, hx414_28, hx414_29, hx414_30, hx414_31, hx414_32, hx414_33, hl414_1, hi414_1, hl414_31, hi414_31⟩ := at_T48 (Kd.N_reads' HO_0.out).2.2 a1 p414 q414
                           obtain rfl : ad409 = ad414 := (by injection e414)
                           obtain ⟨ce414, hce414, hMe414, hcc414⟩ := Kd.N_get HO_0.out z48 a1 p414 (by first | exact q414 | exact of_decide_eq_true (by first | (with_reducible assumption) | assumption) | (have e_ := (Kd.N_reads' HO_0.out).1; omega))
                           obtain ⟨ua414_1, uc414_1, ua414_31, uc414_31, rfl, ul414_1, ge414_1, ul414_31, ge414_31⟩ := k48_openF hMe414
                           have hv414_1 := hcc414 1 _ rfl
                           rw [add_field _ _ 1 (by omega)] at hv414_1
                           replace hv414_1 := Option.some.inj (hv414_1.symm.trans hx414_1)
                           injection hv414_1 with hva_ hvn_ hvc_
                           rw [hva_] at ge414_1
                           rw [hvc_] at ul414_1
                           have HL414_1 := Aside0.mk (show Kd.V (Kd.int .i64) 3 _ w.heap.size _ _ ((rd_T48 t398 a1).f1) from Kd.V_mk ul414_1 ge414_1)
                           clear hva_ hvn_ hvc_ ge414_1 ul414_1
                           have hv414_31 := hcc414 31 _ rfl
                           rw [add_field _ _ 31 (by omega)] at hv414_31
                           replace hv414_31 := Option.some.inj (hv414_31.symm.trans hx414_31)
                           injection hv414_31 with hva_ hvn_ hvc_
                           rw [hva_] at ge414_31
                           rw [hvc_] at ul414_31
                           have HL414_31 := Aside0.mk (show Kd.V (Kd.int .i64) 2 _ w.heap.size _ _ ((rd_T48 t398 a1).f3) from Kd.V_mk ul414_31 ge414_31)
                           clear hva_ hvn_ hvc_ ge414_31 ul414_31
                           clear hcc414 hce414
                           have HR414_1 := Aside0.mk hi414_1
                           have HC414_1 := Aside0.mk hl414_1
                           clear hi414_1 hl414_1
                           have HR414_31 := Aside0.mk hi414_31
                           have HC414_31 := Aside0.mk hl414_31
                           clear hi414_31 hl414_31
                           replace p414 := eq_true p414
                           replace q414 := eq_true q414
                           have ea_ := Option.some.inj (hx409_1.symm.trans hx414_1)
                           injection ea_ with ea_ en_ ec_
                           subst ea_
                           subst ec_
                           clear en_
                           have ea_ := Option.some.inj (hx409_31.symm.trans hx414_31)
                           injection ea_ with ea_ en_ ec_
                           subst ea_
                           subst ec_
                           clear en_
                           have p415 : 0 ≤ (x11_1 : Int) := of_decide_eq_true (by first | (with_reducible assumption) | assumption)
                           have q415 : x11_1 < (((rd_T48 t398 a1).f1).length : Int) := of_decide_eq_true (by first | (with_reducible assumption) | assumption)
                           obtain ⟨ad415, e415, hx415_0⟩ := Kd.at_int (by repeat (first | (with_reducible exact HR414_1.out) | (with_reducible refine Kd.C_alloc ?_ _) | (with_reducible refine Kd.C_drewN ?_ _) | (with_reducible refine Kd.C_drew ?_) | exact HR414_1.out)) x11_1 p415 q415
                           cases e415
                           replace p415 := eq_true p415
                           replace q415 := eq_true q415
                           go_wp2
                           repeat (go_quiet (fail); try go_wp2)
                           go_roundg k1
                           case measure => have := HK1.out; omega
                           case rel => exact ⟨(wrap64 (x10_1 + 1)), (wrap64 (x11_1 + 1)), (by first | rfl | (simp; done) | (simp [*]; done)), (by first | rfl | (simp; done) | (simp [*]; done)), H', ⟨by have := HK1.out; omega⟩, ⟨by (with_reducible repeat (first | apply Kd.N_alloc | apply Kd.N_drewN | apply Kd.N_drew)); exact HO_0.out⟩, ⟨by (with_reducible repeat (first | apply Kd.R_alloc | apply Kd.R_drewN | apply Kd.R_drew)); exact HO_6.out⟩, ⟨by (with_reducible repeat (first | apply Kd.R_alloc | apply Kd.R_drewN | apply Kd.R_drew)); exact HO_8.out⟩, ⟨by repeat (first | (with_reducible first | exact HB.out | apply below_alloc | apply pw_below_drewN | apply below_drew1) | exact HB.out)⟩⟩
                         · rw [if_neg c24] at H
                           have c24b0 : ((rd t401 x10_1) == (rd ((rd_T48 t398 a1).f1) x11_1)) = false := beq_eq_false_iff_ne.mpr c24
                           have c24b1 : ((rd t401 x10_1) != (rd ((rd_T48 t398 a1).f1) x11_1)) = true := bne_iff_ne.mpr c24
                           obtain rfl := Option.some.inj H
                           have p409 : 0 ≤ (a1 : Int) := of_decide_eq_true (by first | (with_reducible assumption) | assumption)
                           have q409 : a1 < (t398.length : Int) := of_decide_eq_true (by first | (with_reducible assumption) | assumption)
                           obtain ⟨ad409, A409_1, c409_1, A409_31, c409_31, e409, hx409_0, hx409_1, hx409_2, hx409_3, hx409_4, hx409_5, hx409_6, hx409_7, hx409_8, hx409_9, hx409_10, hx409_11, hx409_12, hx409_13, hx409_14, hx409_15, hx409_16, hx409_17, hx409_18, hx409_19, hx409_20, hx409_21, hx409_22, hx409_23, hx409_24, hx409_25, hx409_26, hx409_27, hx409_28, hx409_29, hx409_30, hx409_31, hx409_32, hx409_33, hl409_1, hi409_1, hl409_31, hi409_31⟩ := at_T48 (Kd.N_reads' HO_0.out).2.2 a1 p409 q409
                           cases e409
                           obtain ⟨ce409, hce409, hMe409, hcc409⟩ := Kd.N_get HO_0.out z48 a1 p409 (by first | exact q409 | exact of_decide_eq_true (by first | (with_reducible assumption) | assumption) | (have e_ := (Kd.N_reads' HO_0.out).1; omega))
                           obtain ⟨ua409_1, uc409_1, ua409_31, uc409_31, rfl, ul409_1, ge409_1, ul409_31, ge409_31⟩ := k48_openF hMe409
                           have hv409_1 := hcc409 1 _ rfl
                           rw [add_field _ _ 1 (by omega)] at hv409_1
                           replace hv409_1 := Option.some.inj (hv409_1.symm.trans hx409_1)
                           injection hv409_1 with hva_ hvn_ hvc_
                           rw [hva_] at ge409_1
                           rw [hvc_] at ul409_1
                           have HL409_1 := Aside0.mk (show Kd.V (Kd.int .i64) 3 _ w.heap.size _ _ ((rd_T48 t398 a1).f1) from Kd.V_mk ul409_1 ge409_1)
                           clear hva_ hvn_ hvc_ ge409_1 ul409_1
                           have hv409_31 := hcc409 31 _ rfl
                           rw [add_field _ _ 31 (by omega)] at hv409_31
                           replace hv409_31 := Option.some.inj (hv409_31.symm.trans hx409_31)
                           injection hv409_31 with hva_ hvn_ hvc_
                           rw [hva_] at ge409_31
                           rw [hvc_] at ul409_31
                           have HL409_31 := Aside0.mk (show Kd.V (Kd.int .i64) 2 _ w.heap.size _ _ ((rd_T48 t398 a1).f3) from Kd.V_mk ul409_31 ge409_31)
                           clear hva_ hvn_ hvc_ ge409_31 ul409_31
                           clear hcc409 hce409
                           have HR409_1 := Aside0.mk hi409_1
                           have HC409_1 := Aside0.mk hl409_1
                           clear hi409_1 hl409_1
                           have HR409_31 := Aside0.mk hi409_31
                           have HC409_31 := Aside0.mk hl409_31
                           clear hi409_31 hl409_31
                           replace p409 := eq_true p409
                           replace q409 := eq_true q409
                           have p410 : 0 ≤ (a1 : Int) := of_decide_eq_true (by first | (with_reducible assumption) | assumption)
                           have q410 : a1 < (t398.length : Int) := of_decide_eq_true (by first | (with_reducible assumption) | assumption)
                           obtain ⟨ad410, A410_1, c410_1, A410_31, c410_31, e410, hx410_0, hx410_1, hx410_2, hx410_3, hx410_4, hx410_5, hx410_6, hx410_7, hx410_8, hx410_9, hx410_10, hx410_11, hx410_12, hx410_13, hx410_14, hx410_15, hx410_16, hx410_17, hx410_18, hx410_19, hx410_20, hx410_21, hx410_22, hx410_23, hx410_24, hx410_25, hx410_26, hx410_27, hx410_28, hx410_29, hx410_30, hx410_31, hx410_32, hx410_33, hl410_1, hi410_1, hl410_31, hi410_31⟩ := at_T48 (Kd.N_reads' HO_0.out).2.2 a1 p410 q410
                           obtain rfl : ad409 = ad410 := (by injection e410)
                           obtain ⟨ce410, hce410, hMe410, hcc410⟩ := Kd.N_get HO_0.out z48 a1 p410 (by first | exact q410 | exact of_decide_eq_true (by first | (with_reducible assumption) | assumption) | (have e_ := (Kd.N_reads' HO_0.out).1; omega))
                           obtain ⟨ua410_1, uc410_1, ua410_31, uc410_31, rfl, ul410_1, ge410_1, ul410_31, ge410_31⟩ := k48_openF hMe410
                           have hv410_1 := hcc410 1 _ rfl
                           rw [add_field _ _ 1 (by omega)] at hv410_1
                           replace hv410_1 := Option.some.inj (hv410_1.symm.trans hx410_1)
                           injection hv410_1 with hva_ hvn_ hvc_
                           rw [hva_] at ge410_1
                           rw [hvc_] at ul410_1
                           have HL410_1 := Aside0.mk (show Kd.V (Kd.int .i64) 3 _ w.heap.size _ _ ((rd_T48 t398 a1).f1) from Kd.V_mk ul410_1 ge410_1)
                           clear hva_ hvn_ hvc_ ge410_1 ul410_1
                           have hv410_31 := hcc410 31 _ rfl
                           rw [add_field _ _ 31 (by omega)] at hv410_31
                           replace hv410_31 := Option.some.inj (hv410_31.symm.trans hx410_31)
                           injection hv410_31 with hva_ hvn_ hvc_
                           rw [hva_] at ge410_31
                           rw [hvc_] at ul410_31
                           have HL410_31 := Aside0.mk (show Kd.V (Kd.int .i64) 2 _ w.heap.size _ _ ((rd_T48 t398 a1).f3) from Kd.V_mk ul410_31 ge410_31)
                           clear hva_ hvn_ hvc_ ge410_31 ul410_31
                           clear hcc410 hce410
                           have HR410_1 := Aside0.mk hi410_1
                           have HC410_1 := Aside0.mk hl410_1
                           clear hi410_1 hl410_1
                           have HR410_31 := Aside0.mk hi410_31
                           have HC410_31 := Aside0.mk hl410_31
                           clear hi410_31 hl410_31
                           replace p410 := eq_true p410
                           replace q410 := eq_true q410
                           have ea_ := Option.some.inj (hx409_1.symm.trans hx410_1)
                           injection ea_ with ea_ en_ ec_
                           subst ea_
                           subst ec_
                           clear en_
                           have ea_ := Option.some.inj (hx409_31.symm.trans hx410_31)
                           injection ea_ with ea_ en_ ec_
                           subst ea_
                           subst ec_
                           clear en_
                           have p411 : 0 ≤ (x11_1 : Int) := of_decide_eq_true (by first | (with_reducible assumption) | assumption)
                           have q411 : x11_1 < (((rd_T48 t398 a1).f1).length : Int) := of_decide_eq_true (by first | (with_reducible assumption) | assumption)
                           obtain ⟨ad411, e411, hx411_0⟩ := Kd.at_int (by repeat (first | (with_reducible exact HR410_1.out) | (with_reducible refine Kd.C_alloc ?_ _) | (with_reducible refine Kd.C_drewN ?_ _) | (with_reducible refine Kd.C_drew ?_) | exact HR410_1.out)) x11_1 p411 q411
                           cases e411
                           replace p411 := eq_true p411
                           replace q411 := eq_true q411
                           have p412 : 0 ≤ ((rd ((rd_T48 t398 a1).f1) x11_1) : Int) := of_decide_eq_true (by first | (with_reducible assumption) | assumption)
                           have q412 : (rd ((rd_T48 t398 a1).f1) x11_1) < (t398.length : Int) := of_decide_eq_true (by first | (with_reducible assumption) | assumption)
                           obtain ⟨ad412, A412_1, c412_1, A412_31, c412_31, e412, hx412_0, hx412_1, hx412_2, hx412_3, hx412_4, hx412_5, hx412_6, hx412_7, hx412_8, hx412_9, hx412_10, hx412_11, hx412_12, hx412_13, hx412_14, hx412_15, hx412_16, hx412_17, hx412_18, hx412_19, hx412_20, hx412_21, hx412_22, hx412_23, hx412_24, hx412_25, hx412_26, hx412_27, hx412_28, hx412_29, hx412_30, hx412_31, hx412_32, hx412_33, hl412_1, hi412_1, hl412_31, hi412_31⟩ := at_T48 (Kd.N_reads' HO_0.out).2.2 (rd ((rd_T48 t398 a1).f1) x11_1) p412 q412
                           obtain rfl : ad409 = ad412 := (by injection e412)
                           obtain ⟨ce412, hce412, hMe412, hcc412⟩ := Kd.N_get HO_0.out z48 (rd ((rd_T48 t398 a1).f1) x11_1) p412 (by first | exact q412 | exact of_decide_eq_true (by first | (with_reducible assumption) | assumption) | (have e_ := (Kd.N_reads' HO_0.out).1; omega))
                           obtain ⟨ua412_1, uc412_1, ua412_31, uc412_31, rfl, ul412_1, ge412_1, ul412_31, ge412_31⟩ := k48_openF hMe412
                           have hv412_1 := hcc412 1 _ rfl
                           rw [add_field _ _ 1 (by omega)] at hv412_1
                           replace hv412_1 := Option.some.inj (hv412_1.symm.trans hx412_1)
                           injection hv412_1 with hva_ hvn_ hvc_
                           rw [hva_] at ge412_1
                           rw [hvc_] at ul412_1
                           have HL412_1 := Aside0.mk (show Kd.V (Kd.int .i64) 3 _ w.heap.size _ _ ((rd_T48 t398 (rd ((rd_T48 t398 a1).f1) x11_1)).f1) from Kd.V_mk ul412_1 ge412_1)
                           clear hva_ hvn_ hvc_ ge412_1 ul412_1
                           have hv412_31 := hcc412 31 _ rfl
                           rw [add_field _ _ 31 (by omega)] at hv412_31
                           replace hv412_31 := Option.some.inj (hv412_31.symm.trans hx412_31)
                           injection hv412_31 with hva_ hvn_ hvc_
                           rw [hva_] at ge412_31
                           rw [hvc_] at ul412_31
                           have HL412_31 := Aside0.mk (show Kd.V (Kd.int .i64) 2 _ w.heap.size _ _ ((rd_T48 t398 (rd ((rd_T48 t398 a1).f1) x11_1)).f3) from Kd.V_mk ul412_31 ge412_31)
                           clear hva_ hvn_ hvc_ ge412_31 ul412_31
                           clear hcc412 hce412
                           have HR412_1 := Aside0.mk hi412_1
                           have HC412_1 := Aside0.mk hl412_1
                           clear hi412_1 hl412_1
                           have HR412_31 := Aside0.mk hi412_31
                           have HC412_31 := Aside0.mk hl412_31
                           clear hi412_31 hl412_31
                           replace p412 := eq_true p412
                           replace q412 := eq_true q412
                           obtain ⟨Ao26, co26, eo26⟩ := Kd.R_slice HO_6.out
                           subst eo26
                           have p413 : 0 ≤ (x10_1 : Int) := of_decide_eq_true (by first | (with_reducible assumption) | assumption)
                           have q413 : x10_1 < (t401.length : Int) := of_decide_eq_true (by first | (with_reducible assumption) | assumption)
                           obtain ⟨ad413, e413, hx413_0⟩ := Kd.at_int (Kd.R_reads' HO_6.out).2.2 x10_1 p413 q413
                           cases e413
                           replace p413 := eq_true p413
                           replace q413 := eq_true q413
                           have p414 : 0 ≤ (a1 : Int) := of_decide_eq_true (by first | (with_reducible assumption) | assumption)
                           have q414 : a1 < (t398.length : Int) := of_decide_eq_true (by first | (with_reducible assumption) | assumption)
                           obtain ⟨ad414, A414_1, c414_1, A414_31, c414_31, e414, hx414_0, hx414_1, hx414_2, hx414_3, hx414_4, hx414_5, hx414_6, hx414_7, hx414_8, hx414_9, hx414_10, hx414_11, hx414_12, hx414_13, hx414_14, hx414_15, hx414_16, hx414_17, hx414_18, hx414_19, hx414_20, hx414_21, hx414_22, hx414_23, hx414_24, hx414_25, hx414_26, hx414_27, hx414_28, hx414_29, hx414_30, hx414_31, hx414_32, hx414_33, hl414_1, hi414_1, hl414_31, hi414_31⟩ := at_T48 (Kd.N_reads' HO_0.out).2.2 a1 p414 q414
                           obtain rfl : ad409 = ad414 := (by injection e414)
                           obtain ⟨ce414, hce414, hMe414, hcc414⟩ := Kd.N_get HO_0.out z48 a1 p414 (by first | exact q414 | exact of_decide_eq_true (by first | (with_reducible assumption) | assumption) | (have e_ := (Kd.N_reads' HO_0.out).1; omega))
                           obtain ⟨ua414_1, uc414_1, ua414_31, uc414_31, rfl, ul414_1, ge414_1, ul414_31, ge414_31⟩ := k48_openF hMe414
                           have hv414_1 := hcc414 1 _ rfl
                           rw [add_field _ _ 1 (by omega)] at hv414_1
                           replace hv414_1 := Option.some.inj (hv414_1.symm.trans hx414_1)
                           injection hv414_1 with hva_ hvn_ hvc_
                           rw [hva_] at ge414_1
                           rw [hvc_] at ul414_1
                           have HL414_1 := Aside0.mk (show Kd.V (Kd.int .i64) 3 _ w.heap.size _ _ ((rd_T48 t398 a1).f1) from Kd.V_mk ul414_1 ge414_1)
                           clear hva_ hvn_ hvc_ ge414_1 ul414_1
                           have hv414_31 := hcc414 31 _ rfl
                           rw [add_field _ _ 31 (by omega)] at hv414_31
                           replace hv414_31 := Option.some.inj (hv414_31.symm.trans hx414_31)
                           injection hv414_31 with hva_ hvn_ hvc_
                           rw [hva_] at ge414_31
                           rw [hvc_] at ul414_31
                           have HL414_31 := Aside0.mk (show Kd.V (Kd.int .i64) 2 _ w.heap.size _ _ ((rd_T48 t398 a1).f3) from Kd.V_mk ul414_31 ge414_31)
                           clear hva_ hvn_ hvc_ ge414_31 ul414_31
                           clear hcc414 hce414
                           have HR414_1 := Aside0.mk hi414_1
                           have HC414_1 := Aside0.mk hl414_1
                           clear hi414_1 hl414_1
                           have HR414_31 := Aside0.mk hi414_31
                           have HC414_31 := Aside0.mk hl414_31
                           clear hi414_31 hl414_31
                           replace p414 := eq_true p414
                           replace q414 := eq_true q414
                           have ea_ := Option.some.inj (hx409_1.symm.trans hx414_1)
                           injection ea_ with ea_ en_ ec_
                           subst ea_
                           subst ec_
                           clear en_
                           have ea_ := Option.some.inj (hx409_31.symm.trans hx414_31)
                           injection ea_ with ea_ en_ ec_
                           subst ea_
                           subst ec_
                           clear en_
                           have p415 : 0 ≤ (x11_1 : Int) := of_decide_eq_true (by first | (with_reducible assumption) | assumption)
                           have q415 : x11_1 < (((rd_T48 t398 a1).f1).length : Int) := of_decide_eq_true (by first | (with_reducible assumption) | assumption)
                           obtain ⟨ad415, e415, hx415_0⟩ := Kd.at_int (by repeat (first | (with_reducible exact HR414_1.out) | (with_reducible refine Kd.C_alloc ?_ _) | (with_reducible refine Kd.C_drewN ?_ _) | (with_reducible refine Kd.C_drew ?_) | exact HR414_1.out)) x11_1 p415 q415
                           cases e415
                           replace p415 := eq_true p415
                           replace q415 := eq_true q415
                           go_wp2
                           repeat (go_quiet (fail); try go_wp2)
                           go_ret
                           exact ⟨by first | rfl | (simp [errW_none, errW_some] <;> rfl) | (simp [*, errW_none, errW_some] <;> rfl), by repeat (first | (with_reducible first | exact HB.out | apply below_alloc | apply pw_below_drewN | apply below_drew1) | exact HB.out)⟩
                       · rw [if_neg c23] at H
                         exact absurd H (by simp)
                     · rw [if_neg c22] at H
                       exact absurd H (by simp)
                 · rw [if_neg c19] at H
                   have c19b0 : (((rd_T48 t398 (rd ((rd_T48 t398 a1).f1) x11_1)).f0) == 3) = false := beq_eq_false_iff_ne.mpr c19
                   have c19b1 : (((rd_T48 t398 (rd ((rd_T48 t398 a1).f1) x11_1)).f0) != 3) = true := bne_iff_ne.mpr c19
                   have H' := Aside0.mk H
                   clear H
                   have p409 : 0 ≤ (a1 : Int) := of_decide_eq_true (by first | (with_reducible assumption) | assumption)
                   have q409 : a1 < (t398.length : Int) := of_decide_eq_true (by first | (with_reducible assumption) | assumption)
                   obtain ⟨ad409, A409_1, c409_1, A409_31, c409_31, e409, hx409_0, hx409_1, hx409_2, hx409_3, hx409_4, hx409_5, hx409_6, hx409_7, hx409_8, hx409_9, hx409_10, hx409_11, hx409_12, hx409_13, hx409_14, hx409_15, hx409_16, hx409_17, hx409_18, hx409_19, hx409_20, hx409_21, hx409_22, hx409_23, hx409_24, hx409_25, hx409_26, hx409_27, hx409_28, hx409_29, hx409_30, hx409_31, hx409_32, hx409_33, hl409_1, hi409_1, hl409_31, hi409_31⟩ := at_T48 (Kd.N_reads' HO_0.out).2.2 a1 p409 q409
                   cases e409
                   obtain ⟨ce409, hce409, hMe409, hcc409⟩ := Kd.N_get HO_0.out z48 a1 p409 (by first | exact q409 | exact of_decide_eq_true (by first | (with_reducible assumption) | assumption) | (have e_ := (Kd.N_reads' HO_0.out).1; omega))
                   obtain ⟨ua409_1, uc409_1, ua409_31, uc409_31, rfl, ul409_1, ge409_1, ul409_31, ge409_31⟩ := k48_openF hMe409
                   have hv409_1 := hcc409 1 _ rfl
                   rw [add_field _ _ 1 (by omega)] at hv409_1
                   replace hv409_1 := Option.some.inj (hv409_1.symm.trans hx409_1)
                   injection hv409_1 with hva_ hvn_ hvc_
                   rw [hva_] at ge409_1
                   rw [hvc_] at ul409_1
                   have HL409_1 := Aside0.mk (show Kd.V (Kd.int .i64) 3 _ w.heap.size _ _ ((rd_T48 t398 a1).f1) from Kd.V_mk ul409_1 ge409_1)
                   clear hva_ hvn_ hvc_ ge409_1 ul409_1
                   have hv409_31 := hcc409 31 _ rfl
                   rw [add_field _ _ 31 (by omega)] at hv409_31
                   replace hv409_31 := Option.some.inj (hv409_31.symm.trans hx409_31)
                   injection hv409_31 with hva_ hvn_ hvc_
                   rw [hva_] at ge409_31
                   rw [hvc_] at ul409_31
                   have HL409_31 := Aside0.mk (show Kd.V (Kd.int .i64) 2 _ w.heap.size _ _ ((rd_T48 t398 a1).f3) from Kd.V_mk ul409_31 ge409_31)
                   clear hva_ hvn_ hvc_ ge409_31 ul409_31
                   clear hcc409 hce409
                   have HR409_1 := Aside0.mk hi409_1
                   have HC409_1 := Aside0.mk hl409_1
                   clear hi409_1 hl409_1
                   have HR409_31 := Aside0.mk hi409_31
                   have HC409_31 := Aside0.mk hl409_31
                   clear hi409_31 hl409_31
                   replace p409 := eq_true p409
                   replace q409 := eq_true q409
                   have p410 : 0 ≤ (a1 : Int) := of_decide_eq_true (by first | (with_reducible assumption) | assumption)
                   have q410 : a1 < (t398.length : Int) := of_decide_eq_true (by first | (with_reducible assumption) | assumption)
                   obtain ⟨ad410, A410_1, c410_1, A410_31, c410_31, e410, hx410_0, hx410_1, hx410_2, hx410_3, hx410_4, hx410_5, hx410_6, hx410_7, hx410_8, hx410_9, hx410_10, hx410_11, hx410_12, hx410_13, hx410_14, hx410_15, hx410_16, hx410_17, hx410_18, hx410_19, hx410_20, hx410_21, hx410_22, hx410_23, hx410_24, hx410_25, hx410_26, hx410_27, hx410_28, hx410_29, hx410_30, hx410_31, hx410_32, hx410_33, hl410_1, hi410_1, hl410_31, hi410_31⟩ := at_T48 (Kd.N_reads' HO_0.out).2.2 a1 p410 q410
                   obtain rfl : ad409 = ad410 := (by injection e410)
                   obtain ⟨ce410, hce410, hMe410, hcc410⟩ := Kd.N_get HO_0.out z48 a1 p410 (by first | exact q410 | exact of_decide_eq_true (by first | (with_reducible assumption) | assumption) | (have e_ := (Kd.N_reads' HO_0.out).1; omega))
                   obtain ⟨ua410_1, uc410_1, ua410_31, uc410_31, rfl, ul410_1, ge410_1, ul410_31, ge410_31⟩ := k48_openF hMe410
                   have hv410_1 := hcc410 1 _ rfl
                   rw [add_field _ _ 1 (by omega)] at hv410_1
                   replace hv410_1 := Option.some.inj (hv410_1.symm.trans hx410_1)
                   injection hv410_1 with hva_ hvn_ hvc_
                   rw [hva_] at ge410_1
                   rw [hvc_] at ul410_1
                   have HL410_1 := Aside0.mk (show Kd.V (Kd.int .i64) 3 _ w.heap.size _ _ ((rd_T48 t398 a1).f1) from Kd.V_mk ul410_1 ge410_1)
                   clear hva_ hvn_ hvc_ ge410_1 ul410_1
                   have hv410_31 := hcc410 31 _ rfl
                   rw [add_field _ _ 31 (by omega)] at hv410_31
                   replace hv410_31 := Option.some.inj (hv410_31.symm.trans hx410_31)
                   injection hv410_31 with hva_ hvn_ hvc_
                   rw [hva_] at ge410_31
                   rw [hvc_] at ul410_31
                   have HL410_31 := Aside0.mk (show Kd.V (Kd.int .i64) 2 _ w.heap.size _ _ ((rd_T48 t398 a1).f3) from Kd.V_mk ul410_31 ge410_31)
                   clear hva_ hvn_ hvc_ ge410_31 ul410_31
                   clear hcc410 hce410
                   have HR410_1 := Aside0.mk hi410_1
                   have HC410_1 := Aside0.mk hl410_1
                   clear hi410_1 hl410_1
                   have HR410_31 := Aside0.mk hi410_31
                   have HC410_31 := Aside0.mk hl410_31
                   clear hi410_31 hl410_31
                   replace p410 := eq_true p410
                   replace q410 := eq_true q410
                   have ea_ := Option.some.inj (hx409_1.symm.trans hx410_1)
                   injection ea_ with ea_ en_ ec_
                   subst ea_
                   subst ec_
                   clear en_
                   have ea_ := Option.some.inj (hx409_31.symm.trans hx410_31)
                   injection ea_ with ea_ en_ ec_
                   subst ea_
                   subst ec_
                   clear en_
                   have p411 : 0 ≤ (x11_1 : Int) := of_decide_eq_true (by first | (with_reducible assumption) | assumption)
                   have q411 : x11_1 < (((rd_T48 t398 a1).f1).length : Int) := of_decide_eq_true (by first | (with_reducible assumption) | assumption)
                   obtain ⟨ad411, e411, hx411_0⟩ := Kd.at_int (by repeat (first | (with_reducible exact HR410_1.out) | (with_reducible refine Kd.C_alloc ?_ _) | (with_reducible refine Kd.C_drewN ?_ _) | (with_reducible refine Kd.C_drew ?_) | exact HR410_1.out)) x11_1 p411 q411
                   cases e411
                   replace p411 := eq_true p411
                   replace q411 := eq_true q411
                   have p412 : 0 ≤ ((rd ((rd_T48 t398 a1).f1) x11_1) : Int) := of_decide_eq_true (by first | (with_reducible assumption) | assumption)
                   have q412 : (rd ((rd_T48 t398 a1).f1) x11_1) < (t398.length : Int) := of_decide_eq_true (by first | (with_reducible assumption) | assumption)
                   obtain ⟨ad412, A412_1, c412_1, A412_31, c412_31, e412, hx412_0, hx412_1, hx412_2, hx412_3, hx412_4, hx412_5, hx412_6, hx412_7, hx412_8, hx412_9, hx412_10, hx412_11, hx412_12, hx412_13, hx412_14, hx412_15, hx412_16, hx412_17, hx412_18, hx412_19, hx412_20, hx412_21, hx412_22, hx412_23, hx412_24, hx412_25, hx412_26, hx412_27, hx412_28, hx412_29, hx412_30, hx412_31, hx412_32, hx412_33, hl412_1, hi412_1, hl412_31, hi412_31⟩ := at_T48 (Kd.N_reads' HO_0.out).2.2 (rd ((rd_T48 t398 a1).f1) x11_1) p412 q412
                   obtain rfl : ad409 = ad412 := (by injection e412)
                   obtain ⟨ce412, hce412, hMe412, hcc412⟩ := Kd.N_get HO_0.out z48 (rd ((rd_T48 t398 a1).f1) x11_1) p412 (by first | exact q412 | exact of_decide_eq_true (by first | (with_reducible assumption) | assumption) | (have e_ := (Kd.N_reads' HO_0.out).1; omega))
                   obtain ⟨ua412_1, uc412_1, ua412_31, uc412_31, rfl, ul412_1, ge412_1, ul412_31, ge412_31⟩ := k48_openF hMe412
                   have hv412_1 := hcc412 1 _ rfl
                   rw [add_field _ _ 1 (by omega)] at hv412_1
                   replace hv412_1 := Option.some.inj (hv412_1.symm.trans hx412_1)
                   injection hv412_1 with hva_ hvn_ hvc_
                   rw [hva_] at ge412_1
                   rw [hvc_] at ul412_1
                   have HL412_1 := Aside0.mk (show Kd.V (Kd.int .i64) 3 _ w.heap.size _ _ ((rd_T48 t398 (rd ((rd_T48 t398 a1).f1) x11_1)).f1) from Kd.V_mk ul412_1 ge412_1)
                   clear hva_ hvn_ hvc_ ge412_1 ul412_1
                   have hv412_31 := hcc412 31 _ rfl
                   rw [add_field _ _ 31 (by omega)] at hv412_31
                   replace hv412_31 := Option.some.inj (hv412_31.symm.trans hx412_31)
                   injection hv412_31 with hva_ hvn_ hvc_
                   rw [hva_] at ge412_31
                   rw [hvc_] at ul412_31
                   have HL412_31 := Aside0.mk (show Kd.V (Kd.int .i64) 2 _ w.heap.size _ _ ((rd_T48 t398 (rd ((rd_T48 t398 a1).f1) x11_1)).f3) from Kd.V_mk ul412_31 ge412_31)
                   clear hva_ hvn_ hvc_ ge412_31 ul412_31
                   clear hcc412 hce412
                   have HR412_1 := Aside0.mk hi412_1
                   have HC412_1 := Aside0.mk hl412_1
                   clear hi412_1 hl412_1
                   have HR412_31 := Aside0.mk hi412_31
                   have HC412_31 := Aside0.mk hl412_31
                   clear hi412_31 hl412_31
                   replace p412 := eq_true p412
                   replace q412 := eq_true q412
                   go_wp2
                   repeat (go_quiet (fail); try go_wp2)
                   go_roundg k1
                   case measure => have := HK1.out; omega
                   case rel => exact ⟨(x10_1), (wrap64 (x11_1 + 1)), (by first | rfl | (simp; done) | (simp [*]; done)), (by first | rfl | (simp; done) | (simp [*]; done)), H', ⟨by have := HK1.out; omega⟩, ⟨by (with_reducible repeat (first | apply Kd.N_alloc | apply Kd.N_drewN | apply Kd.N_drew)); exact HO_0.out⟩, ⟨by (with_reducible repeat (first | apply Kd.R_alloc | apply Kd.R_drewN | apply Kd.R_drew)); exact HO_6.out⟩, ⟨by (with_reducible repeat (first | apply Kd.R_alloc | apply Kd.R_drewN | apply Kd.R_drew)); exact HO_8.out⟩, ⟨by repeat (first | (with_reducible first | exact HB.out | apply below_alloc | apply pw_below_drewN | apply below_drew1) | exact HB.out)⟩⟩
               · rw [if_neg c18] at H
                 exact absurd H (by simp)
             · rw [if_neg c17] at H
               exact absurd H (by simp)
           · rw [if_neg c16] at H
             exact absurd H (by simp)
         · rw [if_neg c15] at H
           have c15b0 : decide (x11_1 < (((rd_T48 t398 a1).f1).length : Int)) = false := decide_eq_false c15
           clear c15
           have H' := Aside0.mk H
           clear H
           have p409 : 0 ≤ (a1 : Int) := of_decide_eq_true (by first | (with_reducible assumption) | assumption)
           have q409 : a1 < (t398.length : Int) := of_decide_eq_true (by first | (with_reducible assumption) | assumption)
           obtain ⟨ad409, A409_1, c409_1, A409_31, c409_31, e409, hx409_0, hx409_1, hx409_2, hx409_3, hx409_4, hx409_5, hx409_6, hx409_7, hx409_8, hx409_9, hx409_10, hx409_11, hx409_12, hx409_13, hx409_14, hx409_15, hx409_16, hx409_17, hx409_18, hx409_19, hx409_20, hx409_21, hx409_22, hx409_23, hx409_24, hx409_25, hx409_26, hx409_27, hx409_28, hx409_29, hx409_30, hx409_31, hx409_32, hx409_33, hl409_1, hi409_1, hl409_31, hi409_31⟩ := at_T48 (Kd.N_reads' HO_0.out).2.2 a1 p409 q409
           cases e409
           obtain ⟨ce409, hce409, hMe409, hcc409⟩ := Kd.N_get HO_0.out z48 a1 p409 (by first | exact q409 | exact of_decide_eq_true (by first | (with_reducible assumption) | assumption) | (have e_ := (Kd.N_reads' HO_0.out).1; omega))
           obtain ⟨ua409_1, uc409_1, ua409_31, uc409_31, rfl, ul409_1, ge409_1, ul409_31, ge409_31⟩ := k48_openF hMe409
           have hv409_1 := hcc409 1 _ rfl
           rw [add_field _ _ 1 (by omega)] at hv409_1
           replace hv409_1 := Option.some.inj (hv409_1.symm.trans hx409_1)
           injection hv409_1 with hva_ hvn_ hvc_
           rw [hva_] at ge409_1
           rw [hvc_] at ul409_1
           have HL409_1 := Aside0.mk (show Kd.V (Kd.int .i64) 3 _ w.heap.size _ _ ((rd_T48 t398 a1).f1) from Kd.V_mk ul409_1 ge409_1)
           clear hva_ hvn_ hvc_ ge409_1 ul409_1
           have hv409_31 := hcc409 31 _ rfl
           rw [add_field _ _ 31 (by omega)] at hv409_31
           replace hv409_31 := Option.some.inj (hv409_31.symm.trans hx409_31)
           injection hv409_31 with hva_ hvn_ hvc_
           rw [hva_] at ge409_31
           rw [hvc_] at ul409_31
           have HL409_31 := Aside0.mk (show Kd.V (Kd.int .i64) 2 _ w.heap.size _ _ ((rd_T48 t398 a1).f3) from Kd.V_mk ul409_31 ge409_31)
           clear hva_ hvn_ hvc_ ge409_31 ul409_31
           clear hcc409 hce409
           have HR409_1 := Aside0.mk hi409_1
           have HC409_1 := Aside0.mk hl409_1
           clear hi409_1 hl409_1
           have HR409_31 := Aside0.mk hi409_31
           have HC409_31 := Aside0.mk hl409_31
           clear hi409_31 hl409_31
           replace p409 := eq_true p409
           replace q409 := eq_true q409
           go_wp2
           repeat (go_quiet (fail); try go_wp2)
           go_loopg [12] k1 (fun kq v12 w' => ∃ (x12_2 : Int), v12 = .int .i64 x12_2 ∧ Aside0 (purflinglaw06_LanesCaptions.l1 kq t398 t397 t401 t405 t406 x10_1 x12_2 = some r) ∧ Aside0 (kq ≤ k1) ∧ Aside0 (Kd.N k48 48 w' w.heap.size (fun k_ => some k_ ≠ (v403 : Value).ownBlock ∧ some k_ ≠ (v407 : Value).ownBlock) (.slice (some ad409) t398.length co10) t398) ∧ Aside0 (Kd.R (Kd.int .i64) 3 w' w.heap.size (fun _ => True) v403 t401) ∧ Aside0 (Kd.R k35 35 w' w.heap.size (fun _ => True) v407 t405) ∧ Aside0 (Kd.C (Kd.int .i64) w' A409_1 ((rd_T48 t398 a1).f1).length ((rd_T48 t398 a1).f1)) ∧ Aside0 (Kd.C (Kd.int .i64) w' A409_31 ((rd_T48 t398 a1).f3).length ((rd_T48 t398 a1).f3)) ∧ Aside0 (Below w.heap.size w w'))
           case atStart => exact ⟨(0), (by first | rfl | (simp; done) | (simp [*]; done)), H', ⟨Nat.le_refl _⟩, ⟨by (with_reducible repeat (first | apply Kd.N_alloc | apply Kd.N_drewN | apply Kd.N_drew)); exact HO_0.out⟩, ⟨by (with_reducible repeat (first | apply Kd.R_alloc | apply Kd.R_drewN | apply Kd.R_drew)); exact HO_6.out⟩, ⟨by (with_reducible repeat (first | apply Kd.R_alloc | apply Kd.R_drewN | apply Kd.R_drew)); exact HO_8.out⟩, ⟨by repeat (first | (with_reducible exact HR409_1.out) | (with_reducible refine Kd.C_alloc ?_ _) | (with_reducible refine Kd.C_drewN ?_ _) | (with_reducible refine Kd.C_drew ?_) | exact HR409_1.out)⟩, ⟨by repeat (first | (with_reducible exact HR409_31.out) | (with_reducible refine Kd.C_alloc ?_ _) | (with_reducible refine Kd.C_drewN ?_ _) | (with_reducible refine Kd.C_drew ?_) | exact HR409_31.out)⟩, ⟨by repeat (first | (with_reducible first | exact HB.out | apply below_alloc | apply pw_below_drewN | apply below_drew1) | exact HB.out)⟩⟩
           case round =>
            clear H'
            try clear c1
            try clear c2
            try clear p2
            try clear c4
            try clear p4
            try clear q4
            try clear hx4
            try clear p6
            try clear c15
            try clear c15b0
            try clear c16
            try clear c17
            try clear c18
            try clear c19
            try clear c19b0
            try clear c19b1
            try clear c20
            try clear c20b0
            try clear c22
            try clear c22b0
            try clear c23
            try clear c23b0
            try clear c24
            try clear c24b0
            try clear c24b1
            try clear hx409_0
            try clear hx409_1
            try clear hx409_10
            try clear hx409_11
            try clear hx409_12
            try clear hx409_13
            try clear hx409_14
            try clear hx409_15
            try clear hx409_16
            try clear hx409_17
            try clear hx409_18
            try clear hx409_19
            try clear hx409_2
            try clear hx409_20
            try clear hx409_21
            try clear hx409_22
            try clear hx409_23
            try clear hx409_24
            try clear hx409_25
            try clear hx409_26
            try clear hx409_27
            try clear hx409_28
            try clear hx409_29
            try clear hx409_3
            try clear hx409_30
            try clear hx409_31
            try clear hx409_32
            try clear hx409_33
            try clear hx409_4
            try clear hx409_5
            try clear hx409_6
            try clear hx409_7
            try clear hx409_8
            try clear hx409_9
            try clear hx410_0
            try clear hx410_1
            try clear hx410_10
            try clear hx410_11
            try clear hx410_12
            try clear hx410_13
            try clear hx410_14
            try clear hx410_15
            try clear hx410_16
            try clear hx410_17
            try clear hx410_18
            try clear hx410_19
            try clear hx410_2
            try clear hx410_20
            try clear hx410_21
            try clear hx410_22
            try clear hx410_23
            try clear hx410_24
            try clear hx410_25
            try clear hx410_26
            try clear hx410_27
            try clear hx410_28
            try clear hx410_29
            try clear hx410_3
            try clear hx410_30
            try clear hx410_31
            try clear hx410_32
            try clear hx410_33
            try clear hx410_4
            try clear hx410_5
            try clear hx410_6
            try clear hx410_7
            try clear hx410_8
            try clear hx410_9
            try clear hx411_0
            try clear hx412_0
            try clear hx412_1
            try clear hx412_10
            try clear hx412_11
            try clear hx412_12
            try clear hx412_13
            try clear hx412_14
            try clear hx412_15
            try clear hx412_16
            try clear hx412_17
            try clear hx412_18
            try clear hx412_19
            try clear hx412_2
            try clear hx412_20
            try clear hx412_21
            try clear hx412_22
            try clear hx412_23
            try clear hx412_24
            try clear hx412_25
            try clear hx412_26
            try clear hx412_27
            try clear hx412_28
            try clear hx412_29
            try clear hx412_3
            try clear hx412_30
            try clear hx412_31
            try clear hx412_32
            try clear hx412_33
            try clear hx412_4
            try clear hx412_5
            try clear hx412_6
            try clear hx412_7
            try clear hx412_8
            try clear hx412_9
            try clear hx413_0
            try clear hx414_0
            try clear hx414_1
            try clear hx414_10
            try clear hx414_11
            try clear hx414_12
            try clear hx414_13
            try clear hx414_14
            try clear hx414_15
            try clear hx414_16
            try clear hx414_17
            try clear hx414_18
            try clear hx414_19
            try clear hx414_2
            try clear hx414_20
            try clear hx414_21
            try clear hx414_22
            try clear hx414_23
            try clear hx414_24
            try clear hx414_25
            try clear hx414_26
            try clear hx414_27
            try clear hx414_28
            try clear hx414_29
            try clear hx414_3
            try clear hx414_30
            try clear hx414_31
            try clear hx414_32
            try clear hx414_33
            try clear hx414_4
            try clear hx414_5
            try clear hx414_6
            try clear hx414_7
            try clear hx414_8
            try clear hx414_9
            try clear hx415_0
            try clear p409
            try clear p410
            try clear p411
            try clear p412
            try clear p413
            try clear p414
            try clear p415
            try clear q409
            try clear q410
            try clear q411
            try clear q412
            try clear q413
            try clear q414
            try clear q415
            obtain ⟨x12_2, rfl, HA, HK2, HO_0, HO_6, HO_8, HR409_1, HR409_31, HB⟩ := hrel
            cases gk with
            | zero => exact absurd HA.out (by simp [purflinglaw06_LanesCaptions.l1])
            | succ k2 =>
             have H := HA.out
             clear HA
             simp only [purflinglaw06_LanesCaptions.l1] at H
             by_cases c27 : x12_2 < (t405.length : Int)
             · rw [if_pos c27] at H
               have c27b0 : decide (x12_2 < (t405.length : Int)) = true := decide_eq_true c27
               clear c27
               by_cases c28 : 0 ≤ x12_2
               · rw [if_pos c28] at H
                 have c28b0 : decide (0 ≤ x12_2) = true := decide_eq_true c28
                 clear c28
                 by_cases c29 : 0 ≤ ((rd_T35 t405 x12_2).f0)
                 · rw [if_pos c29] at H
                   have c29b0 : decide (0 ≤ ((rd_T35 t405 x12_2).f0)) = true := decide_eq_true c29
                   clear c29
                   by_cases c30 : ((rd_T35 t405 x12_2).f0) < (t398.length : Int)
                   · rw [if_pos c30] at H
                     have c30b0 : decide (((rd_T35 t405 x12_2).f0) < (t398.length : Int)) = true := decide_eq_true c30
                     clear c30
                     by_cases c31 : ((rd_T48 t398 ((rd_T35 t405 x12_2).f0)).f0) = 3
                     · rw [if_pos c31] at H
                       have c31b0 : (((rd_T48 t398 ((rd_T35 t405 x12_2).f0)).f0) == 3) = true := beq_iff_eq.mpr c31
                       have c31b1 : (((rd_T48 t398 ((rd_T35 t405 x12_2).f0)).f0) != 3) = false := bne_eq_false_iff_eq.mpr c31
                       clear c31
                       obtain rfl := Option.some.inj H
                       obtain ⟨Ao32, co32, eo32⟩ := Kd.R_slice HO_8.out
                       subst eo32
                       have p416 : 0 ≤ (x12_2 : Int) := of_decide_eq_true (by first | (with_reducible assumption) | assumption)
                       have q416 : x12_2 < (t405.length : Int) := of_decide_eq_true (by first | (with_reducible assumption) | assumption)
                       obtain ⟨ad416, e416, hx416_0, hx416_1⟩ := at_T35 (Kd.R_reads' HO_8.out).2.2 x12_2 p416 q416
                       cases e416
                       replace p416 := eq_true p416
                       replace q416 := eq_true q416
                       have p417 : 0 ≤ (((rd_T35 t405 x12_2).f0) : Int) := of_decide_eq_true (by first | (with_reducible assumption) | assumption)
                       have q417 : ((rd_T35 t405 x12_2).f0) < (t398.length : Int) := of_decide_eq_true (by first | (with_reducible assumption) | assumption)
                       obtain ⟨ad417, A417_1, c417_1, A417_31, c417_31, e417, hx417_0, hx417_1, hx417_2, hx417_3, hx417_4, hx417_5, hx417_6, hx417_7, hx417_8, hx417_9, hx417_10, hx417_11, hx417_12, hx417_13, hx417_14, hx417_15, hx417_16, hx417_17, hx417_18, hx417_19, hx417_20, hx417_21, hx417_22, hx417_23, hx417_24, hx417_25, hx417_26, hx417_27, hx417_28, hx417_29, hx417_30, hx417_31, hx417_32, hx417_33, hl417_1, hi417_1, hl417_31, hi417_31⟩ := at_T48 (Kd.N_reads' HO_0.out).2.2 ((rd_T35 t405 x12_2).f0) p417 q417
                       obtain rfl : ad409 = ad417 := (by injection e417)
                       obtain ⟨ce417, hce417, hMe417, hcc417⟩ := Kd.N_get HO_0.out z48 ((rd_T35 t405 x12_2).f0) p417 (by first | exact q417 | exact of_decide_eq_true (by first | (with_reducible assumption) | assumption) | (have e_ := (Kd.N_reads' HO_0.out).1; omega))
                       obtain ⟨ua417_1, uc417_1, ua417_31, uc417_31, rfl, ul417_1, ge417_1, ul417_31, ge417_31⟩ := k48_openF hMe417
                       have hv417_1 := hcc417 1 _ rfl
                       rw [add_field _ _ 1 (by omega)] at hv417_1
                       replace hv417_1 := Option.some.inj (hv417_1.symm.trans hx417_1)
                       injection hv417_1 with hva_ hvn_ hvc_
                       rw [hva_] at ge417_1
                       rw [hvc_] at ul417_1
                       have HL417_1 := Aside0.mk (show Kd.V (Kd.int .i64) 3 _ w.heap.size _ _ ((rd_T48 t398 ((rd_T35 t405 x12_2).f0)).f1) from Kd.V_mk ul417_1 ge417_1)
                       clear hva_ hvn_ hvc_ ge417_1 ul417_1
                       have hv417_31 := hcc417 31 _ rfl
                       rw [add_field _ _ 31 (by omega)] at hv417_31
                       replace hv417_31 := Option.some.inj (hv417_31.symm.trans hx417_31)
                       injection hv417_31 with hva_ hvn_ hvc_
                       rw [hva_] at ge417_31
                       rw [hvc_] at ul417_31
                       have HL417_31 := Aside0.mk (show Kd.V (Kd.int .i64) 2 _ w.heap.size _ _ ((rd_T48 t398 ((rd_T35 t405 x12_2).f0)).f3) from Kd.V_mk ul417_31 ge417_31)
                       clear hva_ hvn_ hvc_ ge417_31 ul417_31
                       clear hcc417 hce417
                       have HR417_1 := Aside0.mk hi417_1
                       have HC417_1 := Aside0.mk hl417_1
                       clear hi417_1 hl417_1
                       have HR417_31 := Aside0.mk hi417_31
                       have HC417_31 := Aside0.mk hl417_31
                       clear hi417_31 hl417_31
                       replace p417 := eq_true p417
                       replace q417 := eq_true q417
                       go_wp2
                       repeat (go_quiet (fail); try go_wp2)
                       go_ret
                       exact ⟨by first | rfl | (simp [errW_none, errW_some] <;> rfl) | (simp [*, errW_none, errW_some] <;> rfl), by repeat (first | (with_reducible first | exact HB.out | apply below_alloc | apply pw_below_drewN | apply below_drew1) | exact HB.out)⟩
                     · rw [if_neg c31] at H
                       have c31b0 : (((rd_T48 t398 ((rd_T35 t405 x12_2).f0)).f0) == 3) = false := beq_eq_false_iff_ne.mpr c31
                       have c31b1 : (((rd_T48 t398 ((rd_T35 t405 x12_2).f0)).f0) != 3) = true := bne_iff_ne.mpr c31
                       have H' := Aside0.mk H
                       clear H
                       obtain ⟨Ao33, co33, eo33⟩ := Kd.R_slice HO_8.out
                       subst eo33
                       have p416 : 0 ≤ (x12_2 : Int) := of_decide_eq_true (by first | (with_reducible assumption) | assumption)
                       have q416 : x12_2 < (t405.length : Int) := of_decide_eq_true (by first | (with_reducible assumption) | assumption)
                       obtain ⟨ad416, e416, hx416_0, hx416_1⟩ := at_T35 (Kd.R_reads' HO_8.out).2.2 x12_2 p416 q416
                       cases e416
                       replace p416 := eq_true p416
                       replace q416 := eq_true q416
                       have p417 : 0 ≤ (((rd_T35 t405 x12_2).f0) : Int) := of_decide_eq_true (by first | (with_reducible assumption) | assumption)
                       have q417 : ((rd_T35 t405 x12_2).f0) < (t398.length : Int) := of_decide_eq_true (by first | (with_reducible assumption) | assumption)
                       obtain ⟨ad417, A417_1, c417_1, A417_31, c417_31, e417, hx417_0, hx417_1, hx417_2, hx417_3, hx417_4, hx417_5, hx417_6, hx417_7, hx417_8, hx417_9, hx417_10, hx417_11, hx417_12, hx417_13, hx417_14, hx417_15, hx417_16, hx417_17, hx417_18, hx417_19, hx417_20, hx417_21, hx417_22, hx417_23, hx417_24, hx417_25, hx417_26, hx417_27, hx417_28, hx417_29, hx417_30, hx417_31, hx417_32, hx417_33, hl417_1, hi417_1, hl417_31, hi417_31⟩ := at_T48 (Kd.N_reads' HO_0.out).2.2 ((rd_T35 t405 x12_2).f0) p417 q417
                       obtain rfl : ad409 = ad417 := (by injection e417)
                       obtain ⟨ce417, hce417, hMe417, hcc417⟩ := Kd.N_get HO_0.out z48 ((rd_T35 t405 x12_2).f0) p417 (by first | exact q417 | exact of_decide_eq_true (by first | (with_reducible assumption) | assumption) | (have e_ := (Kd.N_reads' HO_0.out).1; omega))
                       obtain ⟨ua417_1, uc417_1, ua417_31, uc417_31, rfl, ul417_1, ge417_1, ul417_31, ge417_31⟩ := k48_openF hMe417
                       have hv417_1 := hcc417 1 _ rfl
                       rw [add_field _ _ 1 (by omega)] at hv417_1
                       replace hv417_1 := Option.some.inj (hv417_1.symm.trans hx417_1)
                       injection hv417_1 with hva_ hvn_ hvc_
                       rw [hva_] at ge417_1
                       rw [hvc_] at ul417_1
                       have HL417_1 := Aside0.mk (show Kd.V (Kd.int .i64) 3 _ w.heap.size _ _ ((rd_T48 t398 ((rd_T35 t405 x12_2).f0)).f1) from Kd.V_mk ul417_1 ge417_1)
                       clear hva_ hvn_ hvc_ ge417_1 ul417_1
                       have hv417_31 := hcc417 31 _ rfl
                       rw [add_field _ _ 31 (by omega)] at hv417_31
                       replace hv417_31 := Option.some.inj (hv417_31.symm.trans hx417_31)
                       injection hv417_31 with hva_ hvn_ hvc_
                       rw [hva_] at ge417_31
                       rw [hvc_] at ul417_31
                       have HL417_31 := Aside0.mk (show Kd.V (Kd.int .i64) 2 _ w.heap.size _ _ ((rd_T48 t398 ((rd_T35 t405 x12_2).f0)).f3) from Kd.V_mk ul417_31 ge417_31)
                       clear hva_ hvn_ hvc_ ge417_31 ul417_31
                       clear hcc417 hce417
                       have HR417_1 := Aside0.mk hi417_1
                       have HC417_1 := Aside0.mk hl417_1
                       clear hi417_1 hl417_1
                       have HR417_31 := Aside0.mk hi417_31
                       have HC417_31 := Aside0.mk hl417_31
                       clear hi417_31 hl417_31
                       replace p417 := eq_true p417
                       replace q417 := eq_true q417
                       go_wp2
                       repeat (go_quiet (fail); try go_wp2)
                       go_roundg k2
                       case measure => have := HK1.out; have := HK2.out; omega
                       case rel => exact ⟨(wrap64 (x12_2 + 1)), (by first | rfl | (simp; done) | (simp [*]; done)), H', ⟨by have := HK1.out; have := HK2.out; omega⟩, ⟨by (with_reducible repeat (first | apply Kd.N_alloc | apply Kd.N_drewN | apply Kd.N_drew)); exact HO_0.out⟩, ⟨by (with_reducible repeat (first | apply Kd.R_alloc | apply Kd.R_drewN | apply Kd.R_drew)); exact HO_6.out⟩, ⟨by (with_reducible repeat (first | apply Kd.R_alloc | apply Kd.R_drewN | apply Kd.R_drew)); exact HO_8.out⟩, ⟨by repeat (first | (with_reducible exact HR409_1.out) | (with_reducible refine Kd.C_alloc ?_ _) | (with_reducible refine Kd.C_drewN ?_ _) | (with_reducible refine Kd.C_drew ?_) | exact HR409_1.out)⟩, ⟨by repeat (first | (with_reducible exact HR409_31.out) | (with_reducible refine Kd.C_alloc ?_ _) | (with_reducible refine Kd.C_drewN ?_ _) | (with_reducible refine Kd.C_drew ?_) | exact HR409_31.out)⟩, ⟨by repeat (first | (with_reducible first | exact HB.out | apply below_alloc | apply pw_below_drewN | apply below_drew1) | exact HB.out)⟩⟩
                   · rw [if_neg c30] at H
                     exact absurd H (by simp)
                 · rw [if_neg c29] at H
                   exact absurd H (by simp)
               · rw [if_neg c28] at H
                 exact absurd H (by simp)
             · rw [if_neg c27] at H
               have c27b0 : decide (x12_2 < (t405.length : Int)) = false := decide_eq_false c27
               clear c27
               by_cases c34 : t397 = true
               · subst c34
                 have H1 : (if x10_1 = (t401.length : Int) then (some (t406 == 0)) else (some false)) = some r := by rw [if_pos rfl] at H; exact H
                 clear H
                 have H := H1
                 clear H1
                 by_cases c35 : x10_1 = (t401.length : Int)
                 · rw [if_pos c35] at H
                   have c35b0 : (x10_1 == (t401.length : Int)) = true := beq_iff_eq.mpr c35
                   have c35b1 : (x10_1 != (t401.length : Int)) = false := bne_eq_false_iff_eq.mpr c35
                   clear c35
                   obtain rfl := Option.some.inj H
                   obtain ⟨Ao36, co36, eo36⟩ := Kd.R_slice HO_8.out
                   subst eo36
                   obtain ⟨Ao37, co37, eo37⟩ := Kd.R_slice HO_6.out
                   subst eo37
                   go_wp2
                   repeat (go_quiet (fail); try go_wp2)
                   go_ret
                   exact ⟨by first | rfl | (simp [errW_none, errW_some] <;> rfl) | (simp [*, errW_none, errW_some] <;> rfl), by repeat (first | (with_reducible first | exact HB.out | apply below_alloc | apply pw_below_drewN | apply below_drew1) | exact HB.out)⟩
                 · rw [if_neg c35] at H
                   have c35b0 : (x10_1 == (t401.length : Int)) = false := beq_eq_false_iff_ne.mpr c35
                   have c35b1 : (x10_1 != (t401.length : Int)) = true := bne_iff_ne.mpr c35
                   obtain rfl := Option.some.inj H
                   obtain ⟨Ao38, co38, eo38⟩ := Kd.R_slice HO_8.out
                   subst eo38
                   obtain ⟨Ao39, co39, eo39⟩ := Kd.R_slice HO_6.out
                   subst eo39
                   go_wp2
                   repeat (go_quiet (fail); try go_wp2)
                   go_ret
                   exact ⟨by first | rfl | (simp [errW_none, errW_some] <;> rfl) | (simp [*, errW_none, errW_some] <;> rfl), by repeat (first | (with_reducible first | exact HB.out | apply below_alloc | apply pw_below_drewN | apply below_drew1) | exact HB.out)⟩
               · replace c34 := Bool.eq_false_iff.mpr c34
                 subst c34
                 have H1 : (some false) = some r := by rw [if_neg (show ¬ (false = true) by decide)] at H; exact H
                 clear H
                 have H := H1
                 clear H1
                 obtain rfl := Option.some.inj H
                 obtain ⟨Ao40, co40, eo40⟩ := Kd.R_slice HO_8.out
                 subst eo40
                 go_wp2
                 repeat (go_quiet (fail); try go_wp2)
                 go_ret
                 exact ⟨by first | rfl | (simp [errW_none, errW_some] <;> rfl) | (simp [*, errW_none, errW_some] <;> rfl), by repeat (first | (with_reducible first | exact HB.out | apply below_alloc | apply pw_below_drewN | apply below_drew1) | exact HB.out)⟩
       · rw [if_neg c14] at H
         exact absurd H (by simp)
     · rw [if_neg c13] at H
       exact absurd H (by simp)
 · rw [if_neg c7] at H
   have c7b0 : (t402 == 0) = false := beq_eq_false_iff_ne.mpr c7
   have c7b1 : (t402 != 0) = true := bne_iff_ne.mpr c7
   by_cases c41 : t397 = true
   · subst c41
     have H1 : (some (t402 == t406)) = some r := by rw [if_pos rfl] at H; exact H
     clear H
     have H := H1
     clear H1
     obtain rfl := Option.some.inj H
     go_enter Try.func8, Try.ntmps8
     go_wp2_with (first | (go_at_call 10; (with_reducible refine (purflinglaw06_shown.calls  true _ A3.out).mono ?_); rintro e w42 ⟨rfl, hb⟩; have n0_ := Aside0.mk (below_step (by repeat (first | (with_reducible first | exact HB.out | apply below_alloc | apply pw_below_drewN | apply below_drew1) | exact HB.out)) hb); clear HB; have HB := n0_; clear n0_; (try clear hb); (try clear hb2); (try clear hk); (try clear hi)) | (go_at_call 11; (with_reducible refine (purflinglaw04_Cut.calls k (fun k_ => k_ < w.heap.size) _ _ l0 t398 _ ?side1 A4.out).mono ?_); (case side1 => exact Kd.V_mk HC0.out (Kd.F_below (Kd.C_F k48_heap HR0.out) (by repeat (first | (with_reducible first | exact HB.out | apply below_alloc | apply pw_below_drewN | apply below_drew1) | exact HB.out)))); rintro e w43 ⟨v399, rfl, ho0, hb⟩; have n0_ := Aside0.mk (Kd.N_lower (Kd.N_mono (ok' := fun k_ => True) ho0 (fun k_ hk_ => trivial)) (below_size (by repeat (first | (with_reducible first | exact HB.out | apply below_alloc | apply pw_below_drewN | apply below_drew1) | exact HB.out)))); have n1_ := Aside0.mk (below_step (by repeat (first | (with_reducible first | exact HB.out | apply below_alloc | apply pw_below_drewN | apply below_drew1) | exact HB.out)) hb); clear HB; have HO400 := n0_; have HB := n1_; clear n0_ n1_; (try clear hb); (try clear hb2); (try clear hk); (try clear hi); (try clear ho0); obtain ⟨Ao44, co44, eo44⟩ := Kd.N_slice HO400.out; subst eo44) | (go_at_call 17; (with_reducible refine (lanes_Captions.calls _ _ t398 a1 t401 t402 _ ?side1 ?side2 A5.out).mono ?_); (case side1 => repeat (first | exact (Kd.N_reads' HO400.out).2.2 | (with_reducible refine Kd.C_alloc ?_ _) | (with_reducible refine Kd.C_drewN ?_ _) | (with_reducible refine Kd.C_drew ?_))); (case side2 => exact (Kd.N_reads' HO400.out).2.1); rintro e w45 ⟨v403, rfl, ho0, hb⟩; have n0_ := Aside0.mk (Kd.N_elder' (by (with_reducible repeat (first | apply Kd.N_alloc | apply Kd.N_drewN | apply Kd.N_drew)); exact HO400.out) (Kd.R_base ho0) hb); have n1_ := Aside0.mk (Kd.R_lower ho0 (below_size (by repeat (first | (with_reducible first | exact HB.out | apply below_alloc | apply pw_below_drewN | apply below_drew1) | exact HB.out)))); have n2_ := Aside0.mk (below_step (by repeat (first | (with_reducible first | exact HB.out | apply below_alloc | apply pw_below_drewN | apply below_drew1) | exact HB.out)) hb); clear HO400; clear HB; have HO400 := n0_; have HO404 := n1_; have HB := n2_; clear n0_ n1_ n2_; (try clear hb); (try clear hb2); (try clear hk); (try clear hi); (try clear ho0)) | (go_at_call 16; (with_reducible refine (lanes_Rows.calls _ _ t398 a1 t405 t406 _ ?side1 ?side2 A6.out).mono ?_); (case side1 => repeat (first | exact (Kd.N_reads' HO400.out).2.2 | (with_reducible refine Kd.C_alloc ?_ _) | (with_reducible refine Kd.C_drewN ?_ _) | (with_reducible refine Kd.C_drew ?_))); (case side2 => exact (Kd.N_reads' HO400.out).2.1); rintro e w46 ⟨v407, rfl, ho0, hb⟩; have n0_ := Aside0.mk (Kd.N_elder' (by (with_reducible repeat (first | apply Kd.N_alloc | apply Kd.N_drewN | apply Kd.N_drew)); exact HO400.out) (Kd.R_base ho0) hb); have n1_ := Aside0.mk (Kd.R_below (by (with_reducible repeat (first | apply Kd.R_alloc | apply Kd.R_drewN | apply Kd.R_drew)); exact HO404.out) hb); have n2_ := Aside0.mk (Kd.R_lower ho0 (below_size (by repeat (first | (with_reducible first | exact HB.out | apply below_alloc | apply pw_below_drewN | apply below_drew1) | exact HB.out)))); have n3_ := Aside0.mk (below_step (by repeat (first | (with_reducible first | exact HB.out | apply below_alloc | apply pw_below_drewN | apply below_drew1) | exact HB.out)) hb); clear HO400; clear HO404; clear HB; have HO400 := n0_; have HO404 := n1_; have HO408 := n2_; have HB := n3_; clear n0_ n1_ n2_ n3_; (try clear hb); (try clear hb2); (try clear hk); (try clear hi); (try clear ho0)))
     repeat (go_quiet (first | (go_at_call 10; (with_reducible refine (purflinglaw06_shown.calls  true _ A3.out).mono ?_); rintro e w42 ⟨rfl, hb⟩; have n0_ := Aside0.mk (below_step (by repeat (first | (with_reducible first | exact HB.out | apply below_alloc | apply pw_below_drewN | apply below_drew1) | exact HB.out)) hb); clear HB; have HB := n0_; clear n0_; (try clear hb); (try clear hb2); (try clear hk); (try clear hi)) | (go_at_call 11; (with_reducible refine (purflinglaw04_Cut.calls k (fun k_ => k_ < w.heap.size) _ _ l0 t398 _ ?side1 A4.out).mono ?_); (case side1 => exact Kd.V_mk HC0.out (Kd.F_below (Kd.C_F k48_heap HR0.out) (by repeat (first | (with_reducible first | exact HB.out | apply below_alloc | apply pw_below_drewN | apply below_drew1) | exact HB.out)))); rintro e w43 ⟨v399, rfl, ho0, hb⟩; have n0_ := Aside0.mk (Kd.N_lower (Kd.N_mono (ok' := fun k_ => True) ho0 (fun k_ hk_ => trivial)) (below_size (by repeat (first | (with_reducible first | exact HB.out | apply below_alloc | apply pw_below_drewN | apply below_drew1) | exact HB.out)))); have n1_ := Aside0.mk (below_step (by repeat (first | (with_reducible first | exact HB.out | apply below_alloc | apply pw_below_drewN | apply below_drew1) | exact HB.out)) hb); clear HB; have HO400 := n0_; have HB := n1_; clear n0_ n1_; (try clear hb); (try clear hb2); (try clear hk); (try clear hi); (try clear ho0); obtain ⟨Ao44, co44, eo44⟩ := Kd.N_slice HO400.out; subst eo44) | (go_at_call 17; (with_reducible refine (lanes_Captions.calls _ _ t398 a1 t401 t402 _ ?side1 ?side2 A5.out).mono ?_); (case side1 => repeat (first | exact (Kd.N_reads' HO400.out).2.2 | (with_reducible refine Kd.C_alloc ?_ _) | (with_reducible refine Kd.C_drewN ?_ _) | (with_reducible refine Kd.C_drew ?_))); (case side2 => exact (Kd.N_reads' HO400.out).2.1); rintro e w45 ⟨v403, rfl, ho0, hb⟩; have n0_ := Aside0.mk (Kd.N_elder' (by (with_reducible repeat (first | apply Kd.N_alloc | apply Kd.N_drewN | apply Kd.N_drew)); exact HO400.out) (Kd.R_base ho0) hb); have n1_ := Aside0.mk (Kd.R_lower ho0 (below_size (by repeat (first | (with_reducible first | exact HB.out | apply below_alloc | apply pw_below_drewN | apply below_drew1) | exact HB.out)))); have n2_ := Aside0.mk (below_step (by repeat (first | (with_reducible first | exact HB.out | apply below_alloc | apply pw_below_drewN | apply below_drew1) | exact HB.out)) hb); clear HO400; clear HB; have HO400 := n0_; have HO404 := n1_; have HB := n2_; clear n0_ n1_ n2_; (try clear hb); (try clear hb2); (try clear hk); (try clear hi); (try clear ho0)) | (go_at_call 16; (with_reducible refine (lanes_Rows.calls _ _ t398 a1 t405 t406 _ ?side1 ?side2 A6.out).mono ?_); (case side1 => repeat (first | exact (Kd.N_reads' HO400.out).2.2 | (with_reducible refine Kd.C_alloc ?_ _) | (with_reducible refine Kd.C_drewN ?_ _) | (with_reducible refine Kd.C_drew ?_))); (case side2 => exact (Kd.N_reads' HO400.out).2.1); rintro e w46 ⟨v407, rfl, ho0, hb⟩; have n0_ := Aside0.mk (Kd.N_elder' (by (with_reducible repeat (first | apply Kd.N_alloc | apply Kd.N_drewN | apply Kd.N_drew)); exact HO400.out) (Kd.R_base ho0) hb); have n1_ := Aside0.mk (Kd.R_below (by (with_reducible repeat (first | apply Kd.R_alloc | apply Kd.R_drewN | apply Kd.R_drew)); exact HO404.out) hb); have n2_ := Aside0.mk (Kd.R_lower ho0 (below_size (by repeat (first | (with_reducible first | exact HB.out | apply below_alloc | apply pw_below_drewN | apply below_drew1) | exact HB.out)))); have n3_ := Aside0.mk (below_step (by repeat (first | (with_reducible first | exact HB.out | apply below_alloc | apply pw_below_drewN | apply below_drew1) | exact HB.out)) hb); clear HO400; clear HO404; clear HB; have HO400 := n0_; have HO404 := n1_; have HO408 := n2_; have HB := n3_; clear n0_ n1_ n2_ n3_; (try clear hb); (try clear hb2); (try clear hk); (try clear hi); (try clear ho0))); try go_wp2_with (first | (go_at_call 10; (with_reducible refine (purflinglaw06_shown.calls  true _ A3.out).mono ?_); rintro e w42 ⟨rfl, hb⟩; have n0_ := Aside0.mk (below_step (by repeat (first | (with_reducible first | exact HB.out | apply below_alloc | apply pw_below_drewN | apply below_drew1) | exact HB.out)) hb); clear HB; have HB := n0_; clear n0_; (try clear hb); (try clear hb2); (try clear hk); (try clear hi)) | (go_at_call 11; (with_reducible refine (purflinglaw04_Cut.calls k (fun k_ => k_ < w.heap.size) _ _ l0 t398 _ ?side1 A4.out).mono ?_); (case side1 => exact Kd.V_mk HC0.out (Kd.F_below (Kd.C_F k48_heap HR0.out) (by repeat (first | (with_reducible first | exact HB.out | apply below_alloc | apply pw_below_drewN | apply below_drew1) | exact HB.out)))); rintro e w43 ⟨v399, rfl, ho0, hb⟩; have n0_ := Aside0.mk (Kd.N_lower (Kd.N_mono (ok' := fun k_ => True) ho0 (fun k_ hk_ => trivial)) (below_size (by repeat (first | (with_reducible first | exact HB.out | apply below_alloc | apply pw_below_drewN | apply below_drew1) | exact HB.out)))); have n1_ := Aside0.mk (below_step (by repeat (first | (with_reducible first | exact HB.out | apply below_alloc | apply pw_below_drewN | apply below_drew1) | exact HB.out)) hb); clear HB; have HO400 := n0_; have HB := n1_; clear n0_ n1_; (try clear hb); (try clear hb2); (try clear hk); (try clear hi); (try clear ho0); obtain ⟨Ao44, co44, eo44⟩ := Kd.N_slice HO400.out; subst eo44) | (go_at_call 17; (with_reducible refine (lanes_Captions.calls _ _ t398 a1 t401 t402 _ ?side1 ?side2 A5.out).mono ?_); (case side1 => repeat (first | exact (Kd.N_reads' HO400.out).2.2 | (with_reducible refine Kd.C_alloc ?_ _) | (with_reducible refine Kd.C_drewN ?_ _) | (with_reducible refine Kd.C_drew ?_))); (case side2 => exact (Kd.N_reads' HO400.out).2.1); rintro e w45 ⟨v403, rfl, ho0, hb⟩; have n0_ := Aside0.mk (Kd.N_elder' (by (with_reducible repeat (first | apply Kd.N_alloc | apply Kd.N_drewN | apply Kd.N_drew)); exact HO400.out) (Kd.R_base ho0) hb); have n1_ := Aside0.mk (Kd.R_lower ho0 (below_size (by repeat (first | (with_reducible first | exact HB.out | apply below_alloc | apply pw_below_drewN | apply below_drew1) | exact HB.out)))); have n2_ := Aside0.mk (below_step (by repeat (first | (with_reducible first | exact HB.out | apply below_alloc | apply pw_below_drewN | apply below_drew1) | exact HB.out)) hb); clear HO400; clear HB; have HO400 := n0_; have HO404 := n1_; have HB := n2_; clear n0_ n1_ n2_; (try clear hb); (try clear hb2); (try clear hk); (try clear hi); (try clear ho0)) | (go_at_call 16; (with_reducible refine (lanes_Rows.calls _ _ t398 a1 t405 t406 _ ?side1 ?side2 A6.out).mono ?_); (case side1 => repeat (first | exact (Kd.N_reads' HO400.out).2.2 | (with_reducible refine Kd.C_alloc ?_ _) | (with_reducible refine Kd.C_drewN ?_ _) | (with_reducible refine Kd.C_drew ?_))); (case side2 => exact (Kd.N_reads' HO400.out).2.1); rintro e w46 ⟨v407, rfl, ho0, hb⟩; have n0_ := Aside0.mk (Kd.N_elder' (by (with_reducible repeat (first | apply Kd.N_alloc | apply Kd.N_drewN | apply Kd.N_drew)); exact HO400.out) (Kd.R_base ho0) hb); have n1_ := Aside0.mk (Kd.R_below (by (with_reducible repeat (first | apply Kd.R_alloc | apply Kd.R_drewN | apply Kd.R_drew)); exact HO404.out) hb); have n2_ := Aside0.mk (Kd.R_lower ho0 (below_size (by repeat (first | (with_reducible first | exact HB.out | apply below_alloc | apply pw_below_drewN | apply below_drew1) | exact HB.out)))); have n3_ := Aside0.mk (below_step (by repeat (first | (with_reducible first | exact HB.out | apply below_alloc | apply pw_below_drewN | apply below_drew1) | exact HB.out)) hb); clear HO400; clear HO404; clear HB; have HO400 := n0_; have HO404 := n1_; have HO408 := n2_; have HB := n3_; clear n0_ n1_ n2_ n3_; (try clear hb); (try clear hb2); (try clear hk); (try clear hi); (try clear ho0))))
     go_ret
     exact ⟨by first | rfl | (simp [errW_none, errW_some] <;> rfl) | (simp [*, errW_none, errW_some] <;> rfl), by repeat (first | (with_reducible first | exact HB.out | apply below_alloc | apply pw_below_drewN | apply below_drew1) | exact HB.out)⟩
   · replace c41 := Bool.eq_false_iff.mpr c41
     subst c41
     have H1 : (some false) = some r := by rw [if_neg (show ¬ (false = true) by decide)] at H; exact H
     clear H
     have H := H1
     clear H1
     obtain rfl := Option.some.inj H
     go_enter Try.func8, Try.ntmps8
     go_wp2_with (first | (go_at_call 10; (with_reducible refine (purflinglaw06_shown.calls  false _ A3.out).mono ?_); rintro e w47 ⟨rfl, hb⟩; have n0_ := Aside0.mk (below_step (by repeat (first | (with_reducible first | exact HB.out | apply below_alloc | apply pw_below_drewN | apply below_drew1) | exact HB.out)) hb); clear HB; have HB := n0_; clear n0_; (try clear hb); (try clear hb2); (try clear hk); (try clear hi)) | (go_at_call 11; (with_reducible refine (purflinglaw04_Cut.calls k (fun k_ => k_ < w.heap.size) _ _ l0 t398 _ ?side1 A4.out).mono ?_); (case side1 => exact Kd.V_mk HC0.out (Kd.F_below (Kd.C_F k48_heap HR0.out) (by repeat (first | (with_reducible first | exact HB.out | apply below_alloc | apply pw_below_drewN | apply below_drew1) | exact HB.out)))); rintro e w48 ⟨v399, rfl, ho0, hb⟩; have n0_ := Aside0.mk (Kd.N_lower (Kd.N_mono (ok' := fun k_ => True) ho0 (fun k_ hk_ => trivial)) (below_size (by repeat (first | (with_reducible first | exact HB.out | apply below_alloc | apply pw_below_drewN | apply below_drew1) | exact HB.out)))); have n1_ := Aside0.mk (below_step (by repeat (first | (with_reducible first | exact HB.out | apply below_alloc | apply pw_below_drewN | apply below_drew1) | exact HB.out)) hb); clear HB; have HO400 := n0_; have HB := n1_; clear n0_ n1_; (try clear hb); (try clear hb2); (try clear hk); (try clear hi); (try clear ho0); obtain ⟨Ao49, co49, eo49⟩ := Kd.N_slice HO400.out; subst eo49) | (go_at_call 17; (with_reducible refine (lanes_Captions.calls _ _ t398 a1 t401 t402 _ ?side1 ?side2 A5.out).mono ?_); (case side1 => repeat (first | exact (Kd.N_reads' HO400.out).2.2 | (with_reducible refine Kd.C_alloc ?_ _) | (with_reducible refine Kd.C_drewN ?_ _) | (with_reducible refine Kd.C_drew ?_))); (case side2 => exact (Kd.N_reads' HO400.out).2.1); rintro e w50 ⟨v403, rfl, ho0, hb⟩; have n0_ := Aside0.mk (Kd.N_elder' (by (with_reducible repeat (first | apply Kd.N_alloc | apply Kd.N_drewN | apply Kd.N_drew)); exact HO400.out) (Kd.R_base ho0) hb); have n1_ := Aside0.mk (Kd.R_lower ho0 (below_size (by repeat (first | (with_reducible first | exact HB.out | apply below_alloc | apply pw_below_drewN | apply below_drew1) | exact HB.out)))); have n2_ := Aside0.mk (below_step (by repeat (first | (with_reducible first | exact HB.out | apply below_alloc | apply pw_below_drewN | apply below_drew1) | exact HB.out)) hb); clear HO400; clear HB; have HO400 := n0_; have HO404 := n1_; have HB := n2_; clear n0_ n1_ n2_; (try clear hb); (try clear hb2); (try clear hk); (try clear hi); (try clear ho0)) | (go_at_call 16; (with_reducible refine (lanes_Rows.calls _ _ t398 a1 t405 t406 _ ?side1 ?side2 A6.out).mono ?_); (case side1 => repeat (first | exact (Kd.N_reads' HO400.out).2.2 | (with_reducible refine Kd.C_alloc ?_ _) | (with_reducible refine Kd.C_drewN ?_ _) | (with_reducible refine Kd.C_drew ?_))); (case side2 => exact (Kd.N_reads' HO400.out).2.1); rintro e w51 ⟨v407, rfl, ho0, hb⟩; have n0_ := Aside0.mk (Kd.N_elder' (by (with_reducible repeat (first | apply Kd.N_alloc | apply Kd.N_drewN | apply Kd.N_drew)); exact HO400.out) (Kd.R_base ho0) hb); have n1_ := Aside0.mk (Kd.R_below (by (with_reducible repeat (first | apply Kd.R_alloc | apply Kd.R_drewN | apply Kd.R_drew)); exact HO404.out) hb); have n2_ := Aside0.mk (Kd.R_lower ho0 (below_size (by repeat (first | (with_reducible first | exact HB.out | apply below_alloc | apply pw_below_drewN | apply below_drew1) | exact HB.out)))); have n3_ := Aside0.mk (below_step (by repeat (first | (with_reducible first | exact HB.out | apply below_alloc | apply pw_below_drewN | apply below_drew1) | exact HB.out)) hb); clear HO400; clear HO404; clear HB; have HO400 := n0_; have HO404 := n1_; have HO408 := n2_; have HB := n3_; clear n0_ n1_ n2_ n3_; (try clear hb); (try clear hb2); (try clear hk); (try clear hi); (try clear ho0)))
     repeat (go_quiet (first | (go_at_call 10; (with_reducible refine (purflinglaw06_shown.calls  false _ A3.out).mono ?_); rintro e w47 ⟨rfl, hb⟩; have n0_ := Aside0.mk (below_step (by repeat (first | (with_reducible first | exact HB.out | apply below_alloc | apply pw_below_drewN | apply below_drew1) | exact HB.out)) hb); clear HB; have HB := n0_; clear n0_; (try clear hb); (try clear hb2); (try clear hk); (try clear hi)) | (go_at_call 11; (with_reducible refine (purflinglaw04_Cut.calls k (fun k_ => k_ < w.heap.size) _ _ l0 t398 _ ?side1 A4.out).mono ?_); (case side1 => exact Kd.V_mk HC0.out (Kd.F_below (Kd.C_F k48_heap HR0.out) (by repeat (first | (with_reducible first | exact HB.out | apply below_alloc | apply pw_below_drewN | apply below_drew1) | exact HB.out)))); rintro e w48 ⟨v399, rfl, ho0, hb⟩; have n0_ := Aside0.mk (Kd.N_lower (Kd.N_mono (ok' := fun k_ => True) ho0 (fun k_ hk_ => trivial)) (below_size (by repeat (first | (with_reducible first | exact HB.out | apply below_alloc | apply pw_below_drewN | apply below_drew1) | exact HB.out)))); have n1_ := Aside0.mk (below_step (by repeat (first | (with_reducible first | exact HB.out | apply below_alloc | apply pw_below_drewN | apply below_drew1) | exact HB.out)) hb); clear HB; have HO400 := n0_; have HB := n1_; clear n0_ n1_; (try clear hb); (try clear hb2); (try clear hk); (try clear hi); (try clear ho0); obtain ⟨Ao49, co49, eo49⟩ := Kd.N_slice HO400.out; subst eo49) | (go_at_call 17; (with_reducible refine (lanes_Captions.calls _ _ t398 a1 t401 t402 _ ?side1 ?side2 A5.out).mono ?_); (case side1 => repeat (first | exact (Kd.N_reads' HO400.out).2.2 | (with_reducible refine Kd.C_alloc ?_ _) | (with_reducible refine Kd.C_drewN ?_ _) | (with_reducible refine Kd.C_drew ?_))); (case side2 => exact (Kd.N_reads' HO400.out).2.1); rintro e w50 ⟨v403, rfl, ho0, hb⟩; have n0_ := Aside0.mk (Kd.N_elder' (by (with_reducible repeat (first | apply Kd.N_alloc | apply Kd.N_drewN | apply Kd.N_drew)); exact HO400.out) (Kd.R_base ho0) hb); have n1_ := Aside0.mk (Kd.R_lower ho0 (below_size (by repeat (first | (with_reducible first | exact HB.out | apply below_alloc | apply pw_below_drewN | apply below_drew1) | exact HB.out)))); have n2_ := Aside0.mk (below_step (by repeat (first | (with_reducible first | exact HB.out | apply below_alloc | apply pw_below_drewN | apply below_drew1) | exact HB.out)) hb); clear HO400; clear HB; have HO400 := n0_; have HO404 := n1_; have HB := n2_; clear n0_ n1_ n2_; (try clear hb); (try clear hb2); (try clear hk); (try clear hi); (try clear ho0)) | (go_at_call 16; (with_reducible refine (lanes_Rows.calls _ _ t398 a1 t405 t406 _ ?side1 ?side2 A6.out).mono ?_); (case side1 => repeat (first | exact (Kd.N_reads' HO400.out).2.2 | (with_reducible refine Kd.C_alloc ?_ _) | (with_reducible refine Kd.C_drewN ?_ _) | (with_reducible refine Kd.C_drew ?_))); (case side2 => exact (Kd.N_reads' HO400.out).2.1); rintro e w51 ⟨v407, rfl, ho0, hb⟩; have n0_ := Aside0.mk (Kd.N_elder' (by (with_reducible repeat (first | apply Kd.N_alloc | apply Kd.N_drewN | apply Kd.N_drew)); exact HO400.out) (Kd.R_base ho0) hb); have n1_ := Aside0.mk (Kd.R_below (by (with_reducible repeat (first | apply Kd.R_alloc | apply Kd.R_drewN | apply Kd.R_drew)); exact HO404.out) hb); have n2_ := Aside0.mk (Kd.R_lower ho0 (below_size (by repeat (first | (with_reducible first | exact HB.out | apply below_alloc | apply pw_below_drewN | apply below_drew1) | exact HB.out)))); have n3_ := Aside0.mk (below_step (by repeat (first | (with_reducible first | exact HB.out | apply below_alloc | apply pw_below_drewN | apply below_drew1) | exact HB.out)) hb); clear HO400; clear HO404; clear HB; have HO400 := n0_; have HO404 := n1_; have HO408 := n2_; have HB := n3_; clear n0_ n1_ n2_ n3_; (try clear hb); (try clear hb2); (try clear hk); (try clear hi); (try clear ho0))); try go_wp2_with (first | (go_at_call 10; (with_reducible refine (purflinglaw06_shown.calls  false _ A3.out).mono ?_); rintro e w47 ⟨rfl, hb⟩; have n0_ := Aside0.mk (below_step (by repeat (first | (with_reducible first | exact HB.out | apply below_alloc | apply pw_below_drewN | apply below_drew1) | exact HB.out)) hb); clear HB; have HB := n0_; clear n0_; (try clear hb); (try clear hb2); (try clear hk); (try clear hi)) | (go_at_call 11; (with_reducible refine (purflinglaw04_Cut.calls k (fun k_ => k_ < w.heap.size) _ _ l0 t398 _ ?side1 A4.out).mono ?_); (case side1 => exact Kd.V_mk HC0.out (Kd.F_below (Kd.C_F k48_heap HR0.out) (by repeat (first | (with_reducible first | exact HB.out | apply below_alloc | apply pw_below_drewN | apply below_drew1) | exact HB.out)))); rintro e w48 ⟨v399, rfl, ho0, hb⟩; have n0_ := Aside0.mk (Kd.N_lower (Kd.N_mono (ok' := fun k_ => True) ho0 (fun k_ hk_ => trivial)) (below_size (by repeat (first | (with_reducible first | exact HB.out | apply below_alloc | apply pw_below_drewN | apply below_drew1) | exact HB.out)))); have n1_ := Aside0.mk (below_step (by repeat (first | (with_reducible first | exact HB.out | apply below_alloc | apply pw_below_drewN | apply below_drew1) | exact HB.out)) hb); clear HB; have HO400 := n0_; have HB := n1_; clear n0_ n1_; (try clear hb); (try clear hb2); (try clear hk); (try clear hi); (try clear ho0); obtain ⟨Ao49, co49, eo49⟩ := Kd.N_slice HO400.out; subst eo49) | (go_at_call 17; (with_reducible refine (lanes_Captions.calls _ _ t398 a1 t401 t402 _ ?side1 ?side2 A5.out).mono ?_); (case side1 => repeat (first | exact (Kd.N_reads' HO400.out).2.2 | (with_reducible refine Kd.C_alloc ?_ _) | (with_reducible refine Kd.C_drewN ?_ _) | (with_reducible refine Kd.C_drew ?_))); (case side2 => exact (Kd.N_reads' HO400.out).2.1); rintro e w50 ⟨v403, rfl, ho0, hb⟩; have n0_ := Aside0.mk (Kd.N_elder' (by (with_reducible repeat (first | apply Kd.N_alloc | apply Kd.N_drewN | apply Kd.N_drew)); exact HO400.out) (Kd.R_base ho0) hb); have n1_ := Aside0.mk (Kd.R_lower ho0 (below_size (by repeat (first | (with_reducible first | exact HB.out | apply below_alloc | apply pw_below_drewN | apply below_drew1) | exact HB.out)))); have n2_ := Aside0.mk (below_step (by repeat (first | (with_reducible first | exact HB.out | apply below_alloc | apply pw_below_drewN | apply below_drew1) | exact HB.out)) hb); clear HO400; clear HB; have HO400 := n0_; have HO404 := n1_; have HB := n2_; clear n0_ n1_ n2_; (try clear hb); (try clear hb2); (try clear hk); (try clear hi); (try clear ho0)) | (go_at_call 16; (with_reducible refine (lanes_Rows.calls _ _ t398 a1 t405 t406 _ ?side1 ?side2 A6.out).mono ?_); (case side1 => repeat (first | exact (Kd.N_reads' HO400.out).2.2 | (with_reducible refine Kd.C_alloc ?_ _) | (with_reducible refine Kd.C_drewN ?_ _) | (with_reducible refine Kd.C_drew ?_))); (case side2 => exact (Kd.N_reads' HO400.out).2.1); rintro e w51 ⟨v407, rfl, ho0, hb⟩; have n0_ := Aside0.mk (Kd.N_elder' (by (with_reducible repeat (first | apply Kd.N_alloc | apply Kd.N_drewN | apply Kd.N_drew)); exact HO400.out) (Kd.R_base ho0) hb); have n1_ := Aside0.mk (Kd.R_below (by (with_reducible repeat (first | apply Kd.R_alloc | apply Kd.R_drewN | apply Kd.R_drew)); exact HO404.out) hb); have n2_ := Aside0.mk (Kd.R_lower ho0 (below_size (by repeat (first | (with_reducible first | exact HB.out | apply below_alloc | apply pw_below_drewN | apply below_drew1) | exact HB.out)))); have n3_ := Aside0.mk (below_step (by repeat (first | (with_reducible first | exact HB.out | apply below_alloc | apply pw_below_drewN | apply below_drew1) | exact HB.out)) hb); clear HO400; clear HO404; clear HB; have HO400 := n0_; have HO404 := n1_; have HO408 := n2_; have HB := n3_; clear n0_ n1_ n2_ n3_; (try clear hb); (try clear hb2); (try clear hk); (try clear hi); (try clear ho0))))
     go_ret
     exact ⟨by first | rfl | (simp [errW_none, errW_some] <;> rfl) | (simp [*, errW_none, errW_some] <;> rfl), by repeat (first | (with_reducible first | exact HB.out | apply below_alloc | apply pw_below_drewN | apply below_drew1) | exact HB.out)⟩
end Go.Proofs.Ytdmnaehgngpikaa.K
