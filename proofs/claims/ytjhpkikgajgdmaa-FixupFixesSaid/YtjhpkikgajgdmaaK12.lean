-- PRINTED by print.py (a twelfth state) out of the translation. Not trusted: Lean checks it.
import Derived.Test.YtjhpkikgajgdmaaK0
import Derived.Test.YtjhpkikgajgdmaaK3
namespace Go.Proofs.Ytjhpkikgajgdmaa.K
open Go.RowKit Go.Proofs.YtjhpkikgajgdmaaW.PrintWords Go.Proofs.YtjhpkikgajgdmaaW.PrintLast Go.Proofs.YtjhpkikgajgdmaaW.PrintMore
attribute [local go_sem] max2_int min2_int max_two min_two max_three min_three max_four min_four   -- for this text's walks alone
set_option linter.unusedVariables false
set_option linter.unusedSimpArgs false
/-! ### purflingref05_Fixed: function 24 -/
mutual
def purflingref05_Fixed.l0 : Nat → List (S43) → Int → Option (Bool)
 | 0, _, _ => none
 | k + 1, x0, x3 => if x3 < (x0.length : Int) then (purflingref05_Fixed.l1 k x0 x3 0) else (some true)
def purflingref05_Fixed.l1 : Nat → List (S43) → Int → Int → Option (Bool)
 | 0, _, _, _ => none
 | k + 1, x0, x3, x4 => if 0 ≤ x3 then (if x3 < (x0.length : Int) then (if x4 < (((rd_T43 x0 x3).f1).length : Int) then (if 0 ≤ x4 then (if 0 ≤ (rd ((rd_T43 x0 x3).f1) x4) then (if (rd ((rd_T43 x0 x3).f1) x4) < (x0.length : Int) then ((purflingref05_May.f k ((rd_T43 x0 x3).f0) ((rd_T43 x0 (rd ((rd_T43 x0 x3).f1) x4)).f0)).bind fun t241 => (if t241 = true then (purflingref05_Fixed.l1 k x0 x3 (wrap64 (x4 + 1))) else (some false))) else (none)) else (none)) else (none)) else (purflingref05_Fixed.l0 k x0 (wrap64 (x3 + 1)))) else (none)) else (none)
end
def purflingref05_Fixed.f (k : Nat) (l0 : List (S43)) : Option (Bool) := purflingref05_Fixed.l0 k l0 0
set_option maxHeartbeats 8000000 in
set_option maxRecDepth 100000 in
theorem purflingref05_Fixed.calls (k : Nat) (A0 : Option Addr) (c0 : Nat) (l0 : List (S43)) (r : Bool) (w : World) (hr0 : Kd.C k43 w A0 l0.length l0) (hc0 : l0.length ≤ c0) (h : purflingref05_Fixed.f k l0 = some r) :
 Calls Try.prog 24 #[.slice A0 l0.length c0] w fun e w' => e = .returned (.bool r) ∧ Drawn0 w w' := by
 have HR0 := Aside0.mk hr0
 have HC0 := Aside0.mk hc0
 clear hr0 hc0
 have H : (purflingref05_Fixed.l0 k l0 0) = some r := h
 clear h
 have H' := Aside0.mk H
 clear H
 go_enter Try.func24, Try.ntmps24
 go_wp2
 repeat (go_quiet (fail); try go_wp2)
 go_loopg [3] k (fun kq v3 w' => ∃ (x3_1 : Int), v3 = .int .i64 x3_1 ∧ Aside0 (purflingref05_Fixed.l0 kq l0 x3_1 = some r) ∧ Aside0 (kq ≤ k) ∧ Drawn0 w w')
 case atStart => exact ⟨(0), (by first | rfl | (simp; done) | (simp [*]; done)), H', ⟨Nat.le_refl _⟩, by repeat (first | exact Drawn0.refl _ | apply Drawn0.step)⟩
 case round =>
  clear H'
  obtain ⟨x3_1, rfl, HA, HK1, ⟨m1, rfl⟩⟩ := hrel
  cases gk with
  | zero => exact absurd HA.out (by simp [purflingref05_Fixed.l0])
  | succ k1 =>
   have H := HA.out
   clear HA
   simp only [purflingref05_Fixed.l0] at H
   by_cases c2 : x3_1 < (l0.length : Int)
   · rw [if_pos c2] at H
     have c2b0 : decide (x3_1 < (l0.length : Int)) = true := decide_eq_true c2
     clear c2
     have H' := Aside0.mk H
     clear H
     go_wp2
     repeat (go_quiet (fail); try go_wp2)
     go_loopg [4] k1 (fun kq v4 w' => ∃ (x4_2 : Int), v4 = .int .i64 x4_2 ∧ Aside0 (purflingref05_Fixed.l1 kq l0 x3_1 x4_2 = some r) ∧ Aside0 (kq ≤ k1) ∧ Drawn0 w w')
     case atStart => exact ⟨(0), (by first | rfl | (simp; done) | (simp [*]; done)), H', ⟨Nat.le_refl _⟩, by repeat (first | exact Drawn0.refl _ | apply Drawn0.step)⟩
     case round =>
      clear H'
      try clear c2
      try clear c2b0
      try clear p2
      obtain ⟨x4_2, rfl, HA, HK2, ⟨m2, rfl⟩⟩ := hrel
      cases gk with
      | zero => exact absurd HA.out (by simp [purflingref05_Fixed.l1])
      | succ k2 =>
       have H := HA.out
       clear HA
       simp only [purflingref05_Fixed.l1] at H
       by_cases c3 : 0 ≤ x3_1
       · rw [if_pos c3] at H
         have c3b0 : decide (0 ≤ x3_1) = true := decide_eq_true c3
         clear c3
         by_cases c4 : x3_1 < (l0.length : Int)
         · rw [if_pos c4] at H
           have c4b0 : decide (x3_1 < (l0.length : Int)) = true := decide_eq_true c4
           clear c4
           by_cases c5 : x4_2 < (((rd_T43 l0 x3_1).f1).length : Int)
           · rw [if_pos c5] at H
             have c5b0 : decide (x4_2 < (((rd_T43 l0 x3_1).f1).length : Int)) = true := decide_eq_true c5
             clear c5
             by_cases c6 : 0 ≤ x4_2
             · rw [if_pos c6] at H
               have c6b0 : decide (0 ≤ x4_2) = true := decide_eq_true c6
               clear c6
               by_cases c7 : 0 ≤ (rd ((rd_T43 l0 x3_1).f1) x4_2)
               · rw [if_pos c7] at H
                 have c7b0 : decide (0 ≤ (rd ((rd_T43 l0 x3_1).f1) x4_2)) = true := decide_eq_true c7
                 clear c7
                 by_cases c8 : (rd ((rd_T43 l0 x3_1).f1) x4_2) < (l0.length : Int)
                 · rw [if_pos c8] at H
                   have c8b0 : decide ((rd ((rd_T43 l0 x3_1).f1) x4_2) < (l0.length : Int)) = true := decide_eq_true c8
                   clear c8
                   replace H := Option.bind_eq_some_iff.mp H
                   obtain ⟨t241, A90, H⟩ := H
                   replace H : (if t241 = true then (purflingref05_Fixed.l1 k2 l0 x3_1 (wrap64 (x4_2 + 1))) else (some false)) = some r := H
                   have A9 := Aside0.mk A90
                   clear A90
                   by_cases c10 : t241 = true
                   · subst c10
                     have H1 : (purflingref05_Fixed.l1 k2 l0 x3_1 (wrap64 (x4_2 + 1))) = some r := by rw [if_pos rfl] at H; exact H
                     clear H
                     have H := H1
                     clear H1
                     have H' := Aside0.mk H
                     clear H
                     have p236 : 0 ≤ (x3_1 : Int) := of_decide_eq_true (by first | (with_reducible assumption) | assumption)
                     have q236 : x3_1 < (l0.length : Int) := of_decide_eq_true (by first | (with_reducible assumption) | assumption)
                     obtain ⟨ad236, A236_1, c236_1, A236_31, c236_31, e236, hx236_0, hx236_1, hx236_2, hx236_3, hx236_4, hx236_5, hx236_6, hx236_7, hx236_8, hx236_9, hx236_10, hx236_11, hx236_12, hx236_13, hx236_14, hx236_15, hx236_16, hx236_17, hx236_18, hx236_19, hx236_20, hx236_21, hx236_22, hx236_23, hx236_24, hx236_25, hx236_26, hx236_27, hx236_28, hx236_29, hx236_30, hx236_31, hx236_32, hx236_33, hl236_1, hi236_1, hl236_31, hi236_31⟩ := at_T43 HR0.out x3_1 p236 q236
                     cases e236
                     have HR236_1 := Aside0.mk hi236_1
                     have HC236_1 := Aside0.mk hl236_1
                     clear hi236_1 hl236_1
                     have HR236_31 := Aside0.mk hi236_31
                     have HC236_31 := Aside0.mk hl236_31
                     clear hi236_31 hl236_31
                     replace p236 := eq_true p236
                     replace q236 := eq_true q236
                     have p237 : 0 ≤ (x3_1 : Int) := of_decide_eq_true (by first | (with_reducible assumption) | assumption)
                     have q237 : x3_1 < (l0.length : Int) := of_decide_eq_true (by first | (with_reducible assumption) | assumption)
                     obtain ⟨ad237, A237_1, c237_1, A237_31, c237_31, e237, hx237_0, hx237_1, hx237_2, hx237_3, hx237_4, hx237_5, hx237_6, hx237_7, hx237_8, hx237_9, hx237_10, hx237_11, hx237_12, hx237_13, hx237_14, hx237_15, hx237_16, hx237_17, hx237_18, hx237_19, hx237_20, hx237_21, hx237_22, hx237_23, hx237_24, hx237_25, hx237_26, hx237_27, hx237_28, hx237_29, hx237_30, hx237_31, hx237_32, hx237_33, hl237_1, hi237_1, hl237_31, hi237_31⟩ := at_T43 HR0.out x3_1 p237 q237
                     obtain rfl : ad236 = ad237 := (by injection e237)
                     have HR237_1 := Aside0.mk hi237_1
                     have HC237_1 := Aside0.mk hl237_1
                     clear hi237_1 hl237_1
                     have HR237_31 := Aside0.mk hi237_31
                     have HC237_31 := Aside0.mk hl237_31
                     clear hi237_31 hl237_31
                     replace p237 := eq_true p237
                     replace q237 := eq_true q237
                     have ea_ := Option.some.inj (hx236_1.symm.trans hx237_1)
                     injection ea_ with ea_ en_ ec_
                     subst ea_
                     subst ec_
                     clear en_
                     have ea_ := Option.some.inj (hx236_31.symm.trans hx237_31)
                     injection ea_ with ea_ en_ ec_
                     subst ea_
                     subst ec_
                     clear en_
                     have p238 : 0 ≤ (x3_1 : Int) := of_decide_eq_true (by first | (with_reducible assumption) | assumption)
                     have q238 : x3_1 < (l0.length : Int) := of_decide_eq_true (by first | (with_reducible assumption) | assumption)
                     obtain ⟨ad238, A238_1, c238_1, A238_31, c238_31, e238, hx238_0, hx238_1, hx238_2, hx238_3, hx238_4, hx238_5, hx238_6, hx238_7, hx238_8, hx238_9, hx238_10, hx238_11, hx238_12, hx238_13, hx238_14, hx238_15, hx238_16, hx238_17, hx238_18, hx238_19, hx238_20, hx238_21, hx238_22, hx238_23, hx238_24, hx238_25, hx238_26, hx238_27, hx238_28, hx238_29, hx238_30, hx238_31, hx238_32, hx238_33, hl238_1, hi238_1, hl238_31, hi238_31⟩ := at_T43 HR0.out x3_1 p238 q238
                     obtain rfl : ad236 = ad238 := (by injection e238)
                     have HR238_1 := Aside0.mk hi238_1
                     have HC238_1 := Aside0.mk hl238_1
                     clear hi238_1 hl238_1
                     have HR238_31 := Aside0.mk hi238_31
                     have HC238_31 := Aside0.mk hl238_31
                     clear hi238_31 hl238_31
                     replace p238 := eq_true p238
                     replace q238 := eq_true q238
                     have ea_ := Option.some.inj (hx236_1.symm.trans hx238_1)
                     injection ea_ with ea_ en_ ec_
                     subst ea_
                     subst ec_
                     clear en_
                     have ea_ := Option.some.inj (hx236_31.symm.trans hx238_31)
                     injection ea_ with ea_ en_ ec_
                     subst ea_
                     subst ec_
                     clear en_
                     have p239 : 0 ≤ (x4_2 : Int) := of_decide_eq_true (by first | (with_reducible assumption) | assumption)
                     have q239 : x4_2 < (((rd_T43 l0 x3_1).f1).length : Int) := of_decide_eq_true (by first | (with_reducible assumption) | assumption)
                     obtain ⟨ad239, e239, hx239_0⟩ := Kd.at_int HR238_1.out x4_2 p239 q239
                     cases e239
                     replace p239 := eq_true p239
                     replace q239 := eq_true q239
                     have p240 : 0 ≤ ((rd ((rd_T43 l0 x3_1).f1) x4_2) : Int) := of_decide_eq_true (by first | (with_reducible assumption) | assumption)
                     have q240 : (rd ((rd_T43 l0 x3_1).f1) x4_2) < (l0.length : Int) := of_decide_eq_true (by first | (with_reducible assumption) | assumption)
                     obtain ⟨ad240, A240_1, c240_1, A240_31, c240_31, e240, hx240_0, hx240_1, hx240_2, hx240_3, hx240_4, hx240_5, hx240_6, hx240_7, hx240_8, hx240_9, hx240_10, hx240_11, hx240_12, hx240_13, hx240_14, hx240_15, hx240_16, hx240_17, hx240_18, hx240_19, hx240_20, hx240_21, hx240_22, hx240_23, hx240_24, hx240_25, hx240_26, hx240_27, hx240_28, hx240_29, hx240_30, hx240_31, hx240_32, hx240_33, hl240_1, hi240_1, hl240_31, hi240_31⟩ := at_T43 HR0.out (rd ((rd_T43 l0 x3_1).f1) x4_2) p240 q240
                     obtain rfl : ad236 = ad240 := (by injection e240)
                     have HR240_1 := Aside0.mk hi240_1
                     have HC240_1 := Aside0.mk hl240_1
                     clear hi240_1 hl240_1
                     have HR240_31 := Aside0.mk hi240_31
                     have HC240_31 := Aside0.mk hl240_31
                     clear hi240_31 hl240_31
                     replace p240 := eq_true p240
                     replace q240 := eq_true q240
                     go_wp2_with (first | (go_at_call 12; (with_reducible refine (purflingref05_May.calls k2 ((rd_T43 l0 x3_1).f0) ((rd_T43 l0 (rd ((rd_T43 l0 x3_1).f1) x4_2)).f0) true _ A9.out).mono ?_); rintro e w' ⟨rfl, ⟨nd, rfl⟩⟩; (try first | exact ⟨rfl, _, World.drewN_drewN _ _ _⟩ | exact ⟨rfl, _, Eq.trans (World.drewN_drewN _ _ _) (congrArg (World.drewN _) (Nat.add_assoc _ _ _))⟩)))
                     repeat (go_quiet (first | (go_at_call 12; (with_reducible refine (purflingref05_May.calls k2 ((rd_T43 l0 x3_1).f0) ((rd_T43 l0 (rd ((rd_T43 l0 x3_1).f1) x4_2)).f0) true _ A9.out).mono ?_); rintro e w' ⟨rfl, ⟨nd, rfl⟩⟩; (try first | exact ⟨rfl, _, World.drewN_drewN _ _ _⟩ | exact ⟨rfl, _, Eq.trans (World.drewN_drewN _ _ _) (congrArg (World.drewN _) (Nat.add_assoc _ _ _))⟩))); try go_wp2_with (first | (go_at_call 12; (with_reducible refine (purflingref05_May.calls k2 ((rd_T43 l0 x3_1).f0) ((rd_T43 l0 (rd ((rd_T43 l0 x3_1).f1) x4_2)).f0) true _ A9.out).mono ?_); rintro e w' ⟨rfl, ⟨nd, rfl⟩⟩; (try first | exact ⟨rfl, _, World.drewN_drewN _ _ _⟩ | exact ⟨rfl, _, Eq.trans (World.drewN_drewN _ _ _) (congrArg (World.drewN _) (Nat.add_assoc _ _ _))⟩))))
                     go_roundg k2
                     case measure => have := HK1.out; have := HK2.out; omega
                     case rel => exact ⟨(wrap64 (x4_2 + 1)), (by first | rfl | (simp; done) | (simp [*]; done)), H', ⟨by have := HK1.out; have := HK2.out; omega⟩, by repeat (first | exact Drawn0.refl _ | apply Drawn0.step)⟩
                   · replace c10 := Bool.eq_false_iff.mpr c10
                     subst c10
                     have H1 : (some false) = some r := by rw [if_neg (show ¬ (false = true) by decide)] at H; exact H
                     clear H
                     have H := H1
                     clear H1
                     obtain rfl := Option.some.inj H
                     have p236 : 0 ≤ (x3_1 : Int) := of_decide_eq_true (by first | (with_reducible assumption) | assumption)
                     have q236 : x3_1 < (l0.length : Int) := of_decide_eq_true (by first | (with_reducible assumption) | assumption)
                     obtain ⟨ad236, A236_1, c236_1, A236_31, c236_31, e236, hx236_0, hx236_1, hx236_2, hx236_3, hx236_4, hx236_5, hx236_6, hx236_7, hx236_8, hx236_9, hx236_10, hx236_11, hx236_12, hx236_13, hx236_14, hx236_15, hx236_16, hx236_17, hx236_18, hx236_19, hx236_20, hx236_21, hx236_22, hx236_23, hx236_24, hx236_25, hx236_26, hx236_27, hx236_28, hx236_29, hx236_30, hx236_31, hx236_32, hx236_33, hl236_1, hi236_1, hl236_31, hi236_31⟩ := at_T43 HR0.out x3_1 p236 q236
                     cases e236
                     have HR236_1 := Aside0.mk hi236_1
                     have HC236_1 := Aside0.mk hl236_1
                     clear hi236_1 hl236_1
                     have HR236_31 := Aside0.mk hi236_31
                     have HC236_31 := Aside0.mk hl236_31
                     clear hi236_31 hl236_31
                     replace p236 := eq_true p236
                     replace q236 := eq_true q236
                     have p237 : 0 ≤ (x3_1 : Int) := of_decide_eq_true (by first | (with_reducible assumption) | assumption)
                     have q237 : x3_1 < (l0.length : Int) := of_decide_eq_true (by first | (with_reducible assumption) | assumption)
                     obtain ⟨ad237, A237_1, c237_1, A237_31, c237_31, e237, hx237_0, hx237_1, hx237_2, hx237_3, hx237_4, hx237_5, hx237_6, hx237_7, hx237_8, hx237_9, hx237_10, hx237_11, hx237_12, hx237_13, hx237_14, hx237_15, hx237_16, hx237_17, hx237_18, hx237_19, hx237_20, hx237_21, hx237_22, hx237_23, hx237_24, hx237_25, hx237_26, hx237_27, hx237_28, hx237_29, hx237_30, hx237_31, hx237_32, hx237_33, hl237_1, hi237_1, hl237_31, hi237_31⟩ := at_T43 HR0.out x3_1 p237 q237
                     obtain rfl : ad236 = ad237 := (by injection e237)
                     have HR237_1 := Aside0.mk hi237_1
                     have HC237_1 := Aside0.mk hl237_1
                     clear hi237_1 hl237_1
                     have HR237_31 := Aside0.mk hi237_31
                     have HC237_31 := Aside0.mk hl237_31
                     clear hi237_31 hl237_31
                     replace p237 := eq_true p237
                     replace q237 := eq_true q237
                     have ea_ := Option.some.inj (hx236_1.symm.trans hx237_1)
                     injection ea_ with ea_ en_ ec_
                     subst ea_
                     subst ec_
                     clear en_
                     have ea_ := Option.some.inj (hx236_31.symm.trans hx237_31)
                     injection ea_ with ea_ en_ ec_
                     subst ea_
                     subst ec_
                     clear en_
                     have p238 : 0 ≤ (x3_1 : Int) := of_decide_eq_true (by first | (with_reducible assumption) | assumption)
                     have q238 : x3_1 < (l0.length : Int) := of_decide_eq_true (by first | (with_reducible assumption) | assumption)
                     obtain ⟨ad238, A238_1, c238_1, A238_31, c238_31, e238, hx238_0, hx238_1, hx238_2, hx238_3, hx238_4, hx238_5, hx238_6, hx238_7, hx238_8, hx238_9, hx238_10, hx238_11, hx238_12, hx238_13, hx238_14, hx238_15, hx238_16, hx238_17, hx238_18, hx238_19, hx238_20, hx238_21, hx238_22, hx238_23, hx238_24, hx238_25, hx238_26, hx238_27, hx238_28, hx238_29, hx238_30, hx238_31, hx238_32, hx238_33, hl238_1, hi238_1, hl238_31, hi238_31⟩ := at_T43 HR0.out x3_1 p238 q238
                     obtain rfl : ad236 = ad238 := (by injection e238)
                     have HR238_1 := Aside0.mk hi238_1
                     have HC238_1 := Aside0.mk hl238_1
                     clear hi238_1 hl238_1
                     have HR238_31 := Aside0.mk hi238_31
                     have HC238_31 := Aside0.mk hl238_31
                     clear hi238_31 hl238_31
                     replace p238 := eq_true p238
                     replace q238 := eq_true q238
                     have ea_ := Option.some.inj (hx236_1.symm.trans hx238_1)
                     injection ea_ with ea_ en_ ec_
                     subst ea_
                     subst ec_
                     clear en_
                     have ea_ := Option.some.inj (hx236_31.symm.trans hx238_31)
                     injection ea_ with ea_ en_ ec_
                     subst ea_
                     subst ec_
                     clear en_
                     have p239 : 0 ≤ (x4_2 : Int) := of_decide_eq_true (by first | (with_reducible assumption) | assumption)
                     have q239 : x4_2 < (((rd_T43 l0 x3_1).f1).length : Int) := of_decide_eq_true (by first | (with_reducible assumption) | assumption)
                     obtain ⟨ad239, e239, hx239_0⟩ := Kd.at_int HR238_1.out x4_2 p239 q239
                     cases e239
                     replace p239 := eq_true p239
                     replace q239 := eq_true q239
                     have p240 : 0 ≤ ((rd ((rd_T43 l0 x3_1).f1) x4_2) : Int) := of_decide_eq_true (by first | (with_reducible assumption) | assumption)
                     have q240 : (rd ((rd_T43 l0 x3_1).f1) x4_2) < (l0.length : Int) := of_decide_eq_true (by first | (with_reducible assumption) | assumption)
                     obtain ⟨ad240, A240_1, c240_1, A240_31, c240_31, e240, hx240_0, hx240_1, hx240_2, hx240_3, hx240_4, hx240_5, hx240_6, hx240_7, hx240_8, hx240_9, hx240_10, hx240_11, hx240_12, hx240_13, hx240_14, hx240_15, hx240_16, hx240_17, hx240_18, hx240_19, hx240_20, hx240_21, hx240_22, hx240_23, hx240_24, hx240_25, hx240_26, hx240_27, hx240_28, hx240_29, hx240_30, hx240_31, hx240_32, hx240_33, hl240_1, hi240_1, hl240_31, hi240_31⟩ := at_T43 HR0.out (rd ((rd_T43 l0 x3_1).f1) x4_2) p240 q240
                     obtain rfl : ad236 = ad240 := (by injection e240)
                     have HR240_1 := Aside0.mk hi240_1
                     have HC240_1 := Aside0.mk hl240_1
                     clear hi240_1 hl240_1
                     have HR240_31 := Aside0.mk hi240_31
                     have HC240_31 := Aside0.mk hl240_31
                     clear hi240_31 hl240_31
                     replace p240 := eq_true p240
                     replace q240 := eq_true q240
                     go_wp2_with (first | (go_at_call 12; (with_reducible refine (purflingref05_May.calls k2 ((rd_T43 l0 x3_1).f0) ((rd_T43 l0 (rd ((rd_T43 l0 x3_1).f1) x4_2)).f0) false _ A9.out).mono ?_); rintro e w' ⟨rfl, ⟨nd, rfl⟩⟩; (try first | exact ⟨rfl, _, World.drewN_drewN _ _ _⟩ | exact ⟨rfl, _, Eq.trans (World.drewN_drewN _ _ _) (congrArg (World.drewN _) (Nat.add_assoc _ _ _))⟩)))
                     repeat (go_quiet (first | (go_at_call 12; (with_reducible refine (purflingref05_May.calls k2 ((rd_T43 l0 x3_1).f0) ((rd_T43 l0 (rd ((rd_T43 l0 x3_1).f1) x4_2)).f0) false _ A9.out).mono ?_); rintro e w' ⟨rfl, ⟨nd, rfl⟩⟩; (try first | exact ⟨rfl, _, World.drewN_drewN _ _ _⟩ | exact ⟨rfl, _, Eq.trans (World.drewN_drewN _ _ _) (congrArg (World.drewN _) (Nat.add_assoc _ _ _))⟩))); try go_wp2_with (first | (go_at_call 12; (with_reducible refine (purflingref05_May.calls k2 ((rd_T43 l0 x3_1).f0) ((rd_T43 l0 (rd ((rd_T43 l0 x3_1).f1) x4_2)).f0) false _ A9.out).mono ?_); rintro e w' ⟨rfl, ⟨nd, rfl⟩⟩; (try first | exact ⟨rfl, _, World.drewN_drewN _ _ _⟩ | exact ⟨rfl, _, Eq.trans (World.drewN_drewN _ _ _) (congrArg (World.drewN _) (Nat.add_assoc _ _ _))⟩))))
                     go_ret
                     exact ⟨by first | rfl | (simp; done) | (simp [*]; done), by repeat (first | exact Drawn0.refl _ | apply Drawn0.step)⟩
                 · rw [if_neg c8] at H
                   exact absurd H (by simp)
               · rw [if_neg c7] at H
                 exact absurd H (by simp)
             · rw [if_neg c6] at H
               exact absurd H (by simp)
           · rw [if_neg c5] at H
             have c5b0 : decide (x4_2 < (((rd_T43 l0 x3_1).f1).length : Int)) = false := decide_eq_false c5
             clear c5
             have H' := Aside0.mk H
             clear H
             have p236 : 0 ≤ (x3_1 : Int) := of_decide_eq_true (by first | (with_reducible assumption) | assumption)
             have q236 : x3_1 < (l0.length : Int) := of_decide_eq_true (by first | (with_reducible assumption) | assumption)
             obtain ⟨ad236, A236_1, c236_1, A236_31, c236_31, e236, hx236_0, hx236_1, hx236_2, hx236_3, hx236_4, hx236_5, hx236_6, hx236_7, hx236_8, hx236_9, hx236_10, hx236_11, hx236_12, hx236_13, hx236_14, hx236_15, hx236_16, hx236_17, hx236_18, hx236_19, hx236_20, hx236_21, hx236_22, hx236_23, hx236_24, hx236_25, hx236_26, hx236_27, hx236_28, hx236_29, hx236_30, hx236_31, hx236_32, hx236_33, hl236_1, hi236_1, hl236_31, hi236_31⟩ := at_T43 HR0.out x3_1 p236 q236
             cases e236
             have HR236_1 := Aside0.mk hi236_1
             have HC236_1 := Aside0.mk hl236_1
             clear hi236_1 hl236_1
             have HR236_31 := Aside0.mk hi236_31
             have HC236_31 := Aside0.mk hl236_31
             clear hi236_31 hl236_31
             replace p236 := eq_true p236
             replace q236 := eq_true q236
             go_wp2
             repeat (go_quiet (fail); try go_wp2)
             go_roundg k2
             case measure => have := HK1.out; have := HK2.out; omega
             case rel => exact ⟨(wrap64 (x3_1 + 1)), (by first | rfl | (simp; done) | (simp [*]; done)), H', ⟨by have := HK1.out; have := HK2.out; omega⟩, by repeat (first | exact Drawn0.refl _ | apply Drawn0.step)⟩
         · rw [if_neg c4] at H
           exact absurd H (by simp)
       · rw [if_neg c3] at H
         exact absurd H (by simp)
   · rw [if_neg c2] at H
     have c2b0 : decide (x3_1 < (l0.length : Int)) = false := decide_eq_false c2
     clear c2
     obtain rfl := Option.some.inj H
     go_wp2
     repeat (go_quiet (fail); try go_wp2)
     go_ret
     exact ⟨by first | rfl | (simp; done) | (simp [*]; done), by repeat (first | exact Drawn0.refl _ | apply Drawn0.step)⟩
end Go.Proofs.Ytjhpkikgajgdmaa.K
