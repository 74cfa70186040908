-- PRINTED by print.py (a twelfth state) out of the translation. Not trusted: Lean checks it.
import Derived.Test.YtdmnaehgngpikaaLb1
import Derived.Test.YtdmnaehgngpikaaLb2
import Derived.Test.YtdmnaehgngpikaaK0
import Derived.Test.YtdmnaehgngpikaaK2
import Derived.Test.YtdmnaehgngpikaaK5
namespace Go.Proofs.Ytdmnaehgngpikaa.K
open Go.RowKit Go.Proofs.YtdmnaehgngpikaaW.PrintWords Go.Proofs.YtdmnaehgngpikaaW.PrintLast Go.Proofs.YtdmnaehgngpikaaW.PrintMore
attribute [local go_sem] max2_int min2_int max_two min_two max_three min_three max_four min_four   -- for this text's walks alone
set_option linter.unusedVariables false
set_option linter.unusedSimpArgs false
-- by hand: function 21 (lanes_Ends)
/-! ### purflinglaw06_LanesEnds: function 9 -/
def purflinglaw06_LanesEnds.f (k : Nat) (l0 : List (S35)) : Option (Bool) := (purflinglaw06_shown.f).bind fun t418 => (if 0 ≤ (mn (l0.length : Int) 300) then (if (mn (l0.length : Int) 300) ≤ (l0.length : Int) then ((some (l0.take ((mn (l0.length : Int) 300) : Int).toNat : List (S35))).bind fun y419 => (if t418 = true then ((lanes_Ends.f y419).bind fun t423 => ((purflingref06_Ends.f k y419).bind fun t426 => ((purflingref04_Ints.f k t423 t426).bind fun t429 => (some t429)))) else (some false))) else (none)) else (none))
theorem purflinglaw06_LanesEnds.mono : ∀ a0 k, LeO (purflinglaw06_LanesEnds.f k a0) (purflinglaw06_LanesEnds.f (k + 1) a0) := by
 intro a0 k
 unfold purflinglaw06_LanesEnds.f
 repeat' first
  | (with_reducible exact purflingref04_Ints.mono _ _ _)
  | (with_reducible exact purflingref06_Ends.mono _ _)
  | (with_reducible exact LeO.refl _)
  | (with_reducible exact LeO.none _)
  | (with_reducible refine LeO.ite ?_ ?_)
  | (with_reducible refine LeO.bind ?_ (fun _ => ?_))
  | exact purflingref04_Ints.mono _ _ _
  | exact purflingref06_Ends.mono _ _
  | exact LeO.none _
  | refine LeO.ite ?_ ?_
  | refine LeO.bind ?_ (fun _ => ?_)
set_option maxHeartbeats 8000000 in
set_option maxRecDepth 100000 in
theorem purflinglaw06_LanesEnds.calls (k : Nat) (A0 : Option Addr) (c0 : Nat) (l0 : List (S35)) (r : Bool) (w : World) (hr0 : Kd.C k35 w A0 l0.length l0) (hc0 : l0.length ≤ c0) (h : purflinglaw06_LanesEnds.f k l0 = some r) :
 Calls Try.prog 9 #[.slice A0 l0.length c0] w fun e w' => e = .returned (.bool r) ∧ Below w.heap.size w w' := by
 have HR0 := Aside0.mk hr0
 have HC0 := Aside0.mk hc0
 clear hr0 hc0
 have HB := Aside0.mk (Below.refl w.heap.size w)
 have H : ((purflinglaw06_shown.f).bind fun t418 => (if 0 ≤ (mn (l0.length : Int) 300) then (if (mn (l0.length : Int) 300) ≤ (l0.length : Int) then ((some (l0.take ((mn (l0.length : Int) 300) : Int).toNat : List (S35))).bind fun y419 => (if t418 = true then ((lanes_Ends.f y419).bind fun t423 => ((purflingref06_Ends.f k y419).bind fun t426 => ((purflingref04_Ints.f k t423 t426).bind fun t429 => (some t429)))) else (some false))) else (none)) else (none))) = some r := h
 clear h
 replace H := Option.bind_eq_some_iff.mp H
 obtain ⟨t418, A20, H⟩ := H
 replace H : (if 0 ≤ (mn (l0.length : Int) 300) then (if (mn (l0.length : Int) 300) ≤ (l0.length : Int) then ((some (l0.take ((mn (l0.length : Int) 300) : Int).toNat : List (S35))).bind fun y419 => (if t418 = true then ((lanes_Ends.f y419).bind fun t423 => ((purflingref06_Ends.f k y419).bind fun t426 => ((purflingref04_Ints.f k t423 t426).bind fun t429 => (some t429)))) else (some false))) else (none)) else (none)) = some r := H
 have A2 := Aside0.mk A20
 clear A20
 obtain ⟨ji3, hji3⟩ : ∃ j_ : Int, (mn (l0.length : Int) 300) = j_ := ⟨_, rfl⟩
 replace H : (if 0 ≤ (ji3) then (if (ji3) ≤ (l0.length : Int) then ((some (l0.take ((ji3) : Int).toNat : List (S35))).bind fun y419 => (if t418 = true then ((lanes_Ends.f y419).bind fun t423 => ((purflingref06_Ends.f k y419).bind fun t426 => ((purflingref04_Ints.f k t423 t426).bind fun t429 => (some t429)))) else (some false))) else (none)) else (none)) = some r := by first | (rw [hji3] at H; exact H) | (simp only [hji3] at H ⊢; exact H)
 (try rw [hji3] at A2)
 (try (have hji3h : ji3 ≤ 300 := by (rw [← hji3]; unfold mn; (repeat' split) <;> omega)))
 (try (have hji3g : ji3 ≤ 64 := by omega))
 (try (have hji3l : 0 ≤ ji3 := by (rw [← hji3]; unfold mn; (repeat' split) <;> omega)))
 (try (have hji3m : 0 ≤ ji3 := by omega))
 have hji3_ : (if 300 < (l0.length : Int) then 300 else (l0.length : Int)) = ji3 := hji3
 by_cases c4 : 0 ≤ (ji3)
 · rw [if_pos c4] at H
   have c4b0 := eq_true c4
   have c4b1 : decide (0 ≤ (ji3)) = true := decide_eq_true c4
   clear c4
   by_cases c5 : (ji3) ≤ (l0.length : Int)
   · rw [if_pos c5] at H
     have c5b0 := eq_true c5
     have c5b1 : decide ((ji3) ≤ (l0.length : Int)) = true := decide_eq_true c5
     clear c5
     obtain ⟨y419, hy419⟩ : ∃ y_ : List (S35), y_ = (l0.take ((ji3) : Int).toNat) := ⟨_, rfl⟩
     replace H : (if t418 = true then ((lanes_Ends.f y419).bind fun t423 => ((purflingref06_Ends.f k y419).bind fun t426 => ((purflingref04_Ints.f k t423 t426).bind fun t429 => (some t429)))) else (some false)) = some r := by first | (rw [hy419]; with_reducible exact H) | (have H2_ := (Option.bind_some _ _).symm.trans H; rw [hy419]; with_reducible exact H2_) | (have H2_ := (Option.bind_some _ _).symm.trans H; with_reducible exact H2_) | with_reducible exact H | (rw [hy419]; exact H) | exact H
     have Ny419 := Aside0.mk hy419
     clear hy419
     by_cases c6 : t418 = true
     · subst c6
       have H1 : ((lanes_Ends.f y419).bind fun t423 => ((purflingref06_Ends.f k y419).bind fun t426 => ((purflingref04_Ints.f k t423 t426).bind fun t429 => (some t429)))) = some r := by rw [if_pos rfl] at H; exact H
       clear H
       have H := H1
       clear H1
       replace H := Option.bind_eq_some_iff.mp H
       obtain ⟨t423, A70, H⟩ := H
       replace H : ((purflingref06_Ends.f k y419).bind fun t426 => ((purflingref04_Ints.f k t423 t426).bind fun t429 => (some t429))) = some r := H
       have A7 := Aside0.mk A70
       clear A70
       replace H := Option.bind_eq_some_iff.mp H
       obtain ⟨t426, A80, H⟩ := H
       replace H : ((purflingref04_Ints.f k t423 t426).bind fun t429 => (some t429)) = some r := H
       have A8 := Aside0.mk A80
       clear A80
       replace H := Option.bind_eq_some_iff.mp H
       obtain ⟨t429, A90, H⟩ := H
       replace H : (some t429) = some r := H
       have A9 := Aside0.mk A90
       clear A90
       obtain rfl := Option.some.inj H
       go_enter Try.func9, Try.ntmps9
       go_wp2_with (first | ((with_reducible refine gate_callee (f := 10) rfl ?_); refine goesL_ (some 4) rfl rfl Try.func10 (by kernel_rfl) rfl #[] rfl (by (try simp only [List.map_toArray, List.map_cons, List.map_nil]); first | done | rfl | (simp only [List.length_drop, List.length_take]; rfl)) ?_; (with_reducible refine (purflinglaw06_shown.calls  true _ A2.out).mono ?_); rintro e w10 ⟨rfl, hb⟩; refine ⟨_, rfl, ?_⟩; have n0_ := Aside0.mk (below_step (by repeat (first | (with_reducible first | exact HB.out | apply below_alloc | apply pw_below_drewN | apply below_drew1) | exact HB.out)) hb); clear HB; have HB := n0_; clear n0_; (try clear hb); (try clear hb2); (try clear hk); (try clear hi); have q11 : ((ji3) : Int) ≤ ((l0.length : Int) : Int) := of_decide_eq_true (by first | (with_reducible assumption) | assumption); obtain ⟨i011, hi011, _, hsz11, _⟩ := info_parts info35; have hroom11 : l0.length ≤ c0 := HC0.out; have hC11 : Kd.C k35 _ A0 l0.length l0 := HR0.out; have hcut11 := cut_to (P := Try.prog) 25 35 .i64 Try.underlying25 hi011 A0 l0.length c0 (ji3) (of_decide_eq_true (by first | (with_reducible assumption) | assumption)) q11 hroom11; have hr11 := Kd.C_take (m := ((ji3) : Int).toNat) hC11 (by omega); have hy11 : y419.length = ((ji3) : Int).toNat := (by rw [Ny419.out, List.length_take]; omega); rw [← Ny419.out] at hr11; rw [← hy11] at hcut11; have HR422 := Aside0.mk hr11; have HC422 := Aside0.mk (show y419.length ≤ c0 from by omega); clear hr11 hC11 hroom11 hi011 hsz11; have KY11 := Aside0.mk hy11; clear hy11; replace q11 := eq_true q11) | (go_at_call 21; (with_reducible refine (lanes_Ends.calls _ _ y419 t423 _ ?side1 ?side2 A7.out).mono ?_); (case side1 => repeat (first | exact (Kd.C_below HR422.out HB.out) | (with_reducible refine Kd.C_alloc ?_ _) | (with_reducible refine Kd.C_drewN ?_ _) | (with_reducible refine Kd.C_drew ?_))); (case side2 => exact HC422.out); rintro e w12 ⟨v424, rfl, ho0, hb⟩; have n0_ := Aside0.mk (Kd.R_lower ho0 (below_size (by repeat (first | (with_reducible first | exact HB.out | apply below_alloc | apply pw_below_drewN | apply below_drew1) | exact HB.out)))); have n1_ := Aside0.mk (below_step (by repeat (first | (with_reducible first | exact HB.out | apply below_alloc | apply pw_below_drewN | apply below_drew1) | exact HB.out)) hb); clear HB; have HO425 := n0_; have HB := n1_; clear n0_ n1_; (try clear hb); (try clear hb2); (try clear hk); (try clear hi); (try clear ho0)) | (go_at_call 22; (with_reducible refine (purflingref06_Ends.calls k _ _ y419 t426 _ ?side1 ?side2 A8.out).mono ?_); (case side1 => repeat (first | exact (Kd.C_below HR422.out HB.out) | (with_reducible refine Kd.C_alloc ?_ _) | (with_reducible refine Kd.C_drewN ?_ _) | (with_reducible refine Kd.C_drew ?_))); (case side2 => exact HC422.out); rintro e w13 ⟨v427, rfl, ho0, hb⟩; have n0_ := Aside0.mk (Kd.R_elder' (by (with_reducible repeat (first | apply Kd.R_alloc | apply Kd.R_drewN | apply Kd.R_drew)); exact HO425.out) (Kd.R_base ho0) hb); have n1_ := Aside0.mk (Kd.R_lower (Kd.R_new' ho0 (Kd.R_lt (by (with_reducible repeat (first | apply Kd.R_alloc | apply Kd.R_drewN | apply Kd.R_drew)); exact HO425.out))) (below_size (by repeat (first | (with_reducible first | exact HB.out | apply below_alloc | apply pw_below_drewN | apply below_drew1) | exact HB.out)))); have n2_ := Aside0.mk (below_step (by repeat (first | (with_reducible first | exact HB.out | apply below_alloc | apply pw_below_drewN | apply below_drew1) | exact HB.out)) hb); clear HO425; clear HB; have HO425 := n0_; have HO428 := n1_; have HB := n2_; clear n0_ n1_ n2_; (try clear hb); (try clear hb2); (try clear hk); (try clear hi); (try clear ho0); obtain ⟨Ao14, co14, eo14⟩ := Kd.R_slice HO425.out; subst eo14; obtain ⟨Ao15, co15, eo15⟩ := Kd.R_slice HO428.out; subst eo15) | (go_at_call 19; (with_reducible refine (purflingref04_Ints.calls k _ _ t423 _ _ t426 t429 _ ?side1 ?side2 ?side3 ?side4 A9.out).mono ?_); (case side1 => repeat (first | exact (Kd.R_reads' HO425.out).2.2 | (with_reducible refine Kd.C_alloc ?_ _) | (with_reducible refine Kd.C_drewN ?_ _) | (with_reducible refine Kd.C_drew ?_))); (case side2 => exact (Kd.R_reads' HO425.out).2.1); (case side3 => repeat (first | exact (Kd.R_reads' HO428.out).2.2 | (with_reducible refine Kd.C_alloc ?_ _) | (with_reducible refine Kd.C_drewN ?_ _) | (with_reducible refine Kd.C_drew ?_))); (case side4 => exact (Kd.R_reads' HO428.out).2.1); rintro e w' ⟨rfl, ⟨nd, rfl⟩⟩))
       go_ret
       exact ⟨by first | rfl | (simp [errW_none, errW_some] <;> rfl) | (simp only [← hji3]; first | rfl | (simp [errW_none, errW_some] <;> rfl)) | (simp [*, errW_none, errW_some] <;> rfl), by repeat (first | (with_reducible first | exact HB.out | apply below_alloc | apply pw_below_drewN | apply below_drew1) | exact HB.out)⟩
     · replace c6 := Bool.eq_false_iff.mpr c6
       subst c6
       have H1 : (some false) = some r := by rw [if_neg (show ¬ (false = true) by decide)] at H; exact H
       clear H
       have H := H1
       clear H1
       obtain rfl := Option.some.inj H
       go_enter Try.func9, Try.ntmps9
       go_wp2_with (first | ((with_reducible refine gate_callee (f := 10) rfl ?_); refine goesL_ (some 4) rfl rfl Try.func10 (by kernel_rfl) rfl #[] rfl (by (try simp only [List.map_toArray, List.map_cons, List.map_nil]); first | done | rfl | (simp only [List.length_drop, List.length_take]; rfl)) ?_; (with_reducible refine (purflinglaw06_shown.calls  false _ A2.out).mono ?_); rintro e w16 ⟨rfl, hb⟩; refine ⟨_, rfl, ?_⟩; have n0_ := Aside0.mk (below_step (by repeat (first | (with_reducible first | exact HB.out | apply below_alloc | apply pw_below_drewN | apply below_drew1) | exact HB.out)) hb); clear HB; have HB := n0_; clear n0_; (try clear hb); (try clear hb2); (try clear hk); (try clear hi); have q17 : ((ji3) : Int) ≤ ((l0.length : Int) : Int) := of_decide_eq_true (by first | (with_reducible assumption) | assumption); obtain ⟨i017, hi017, _, hsz17, _⟩ := info_parts info35; have hroom17 : l0.length ≤ c0 := HC0.out; have hC17 : Kd.C k35 _ A0 l0.length l0 := HR0.out; have hcut17 := cut_to (P := Try.prog) 25 35 .i64 Try.underlying25 hi017 A0 l0.length c0 (ji3) (of_decide_eq_true (by first | (with_reducible assumption) | assumption)) q17 hroom17; have hr17 := Kd.C_take (m := ((ji3) : Int).toNat) hC17 (by omega); have hy17 : y419.length = ((ji3) : Int).toNat := (by rw [Ny419.out, List.length_take]; omega); rw [← Ny419.out] at hr17; rw [← hy17] at hcut17; have HR422 := Aside0.mk hr17; have HC422 := Aside0.mk (show y419.length ≤ c0 from by omega); clear hr17 hC17 hroom17 hi017 hsz17; have KY17 := Aside0.mk hy17; clear hy17; replace q17 := eq_true q17))
       go_ret
       exact ⟨by first | rfl | (simp [errW_none, errW_some] <;> rfl) | (simp only [← hji3]; first | rfl | (simp [errW_none, errW_some] <;> rfl)) | (simp [*, errW_none, errW_some] <;> rfl), by repeat (first | (with_reducible first | exact HB.out | apply below_alloc | apply pw_below_drewN | apply below_drew1) | exact HB.out)⟩
   · rw [if_neg c5] at H
     exact absurd H (by simp)
 · rw [if_neg c4] at H
   exact absurd H (by simp)
end Go.Proofs.Ytdmnaehgngpikaa.K
