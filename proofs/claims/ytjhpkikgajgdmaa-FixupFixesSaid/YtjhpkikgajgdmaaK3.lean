-- PRINTED by print.py (a twelfth state) out of the translation. Not trusted: Lean checks it.
import Derived.Test.YtjhpkikgajgdmaaK0
namespace Go.Proofs.Ytjhpkikgajgdmaa.K
open Go.RowKit Go.Proofs.YtjhpkikgajgdmaaW.PrintWords Go.Proofs.YtjhpkikgajgdmaaW.PrintLast Go.Proofs.YtjhpkikgajgdmaaW.PrintMore
attribute [local go_sem] max2_int min2_int max_two min_two max_three min_three max_four min_four   -- for this text's walks alone
set_option linter.unusedVariables false
set_option linter.unusedSimpArgs false
/-! ### purflingref05_May: function 12 -/
mutual
def purflingref05_May.j0 : Nat → Int → Int → Bool → Option (Bool)
 | 0, _, _, _ => none
 | k + 1, x0, x1, x10 => if x10 = true then (some false) else (if x0 = 2 then (if x1 ≥ 3 then (some (decide (x1 ≤ 9))) else (some false)) else (if x0 = 6 then (purflingref05_May.j1 k x1 x0 (x0 == 6)) else (if x0 = 7 then (purflingref05_May.j1 k x1 x0 (x0 == 7)) else (purflingref05_May.j1 k x1 x0 (x0 == 8)))))
def purflingref05_May.j1 : Nat → Int → Int → Bool → Option (Bool)
 | 0, _, _, _ => none
 | k + 1, x1, x11, x20 => if x20 = true then (some (x1 == 9)) else (if x11 = 9 then (some (x1 == 10)) else (if x11 = 4 then (some true) else (if x11 = 0 then (if x1 = 0 then (some true) else (if x1 = 1 then (some true) else (some (x1 == 2)))) else (if x11 = 3 then (if x1 = 0 then (some true) else (if x1 = 1 then (some true) else (some (x1 == 2)))) else (if x11 = 10 then (if x1 = 0 then (some true) else (if x1 = 1 then (some true) else (some (x1 == 2)))) else (some false))))))
end
def purflingref05_May.f (k : Nat) (a0 : Int) (a1 : Int) : Option (Bool) := if a1 < 0 then (purflingref05_May.j0 k a0 a1 true) else (purflingref05_May.j0 k a0 a1 (decide (a1 > 10)))
set_option maxHeartbeats 8000000 in
set_option maxRecDepth 100000 in
theorem purflingref05_May.calls (k : Nat) (a0 : Int) (a1 : Int) (r : Bool) (w : World) (h : purflingref05_May.f k a0 a1 = some r) :
 Calls Try.prog 12 #[.int .i64 a0, .int .i64 a1] w fun e w' => e = .returned (.bool r) ∧ Drawn0 w w' := by
 have H : (if a1 < 0 then (purflingref05_May.j0 k a0 a1 true) else (purflingref05_May.j0 k a0 a1 (decide (a1 > 10)))) = some r := h
 clear h
 have HC3 := Aside0.mk H
 clear H
 go_enter Try.func12, Try.ntmps12
 go_upto_region 1 with (fail)
 go_cut [10] (fun v10 wc => ∃ (kq : Nat) (x10_2 : Bool), v10 = .bool x10_2 ∧ Aside0 (purflingref05_May.j0 kq a0 a1 x10_2 = some r) ∧ Aside0 (kq ≤ k) ∧ Drawn0 w wc)
 case first =>
  have H := HC3.out
  clear HC3
  by_cases c4 : a1 < 0
  · rw [if_pos c4] at H
    have c4b0 : decide (a1 < 0) = true := decide_eq_true c4
    clear c4
    (first | rw [c4b0] | (simp only [i64_w, i32_w]; rw [c4b0]) | skip)
    have H' := Aside0.mk H
    clear H
    go_wp2
    go_meet
    case rel => exact ⟨_, (true), (by first | rfl | (simp; done) | (simp [*]; done)), H', ⟨by first | omega | exact Nat.le_refl _⟩, by repeat (first | exact Drawn0.refl _ | apply Drawn0.step)⟩
  · rw [if_neg c4] at H
    have c4b0 : decide (a1 < 0) = false := decide_eq_false c4
    clear c4
    (first | rw [c4b0] | (simp only [i64_w, i32_w]; rw [c4b0]) | skip)
    have H' := Aside0.mk H
    clear H
    go_wp2
    go_meet
    case rel => exact ⟨_, (decide (a1 > 10)), (by first | rfl | (simp; done) | (simp [*]; done)), H', ⟨by first | omega | exact Nat.le_refl _⟩, by repeat (first | exact Drawn0.refl _ | apply Drawn0.step)⟩
 case rest =>
  clear HC3
  try clear c1
  try clear p2
  try clear c4
  try clear c4b0
  obtain ⟨kq, x10_2, rfl, HA, HJ2, ⟨mc2, rfl⟩⟩ := hcut
  cases kq with
  | zero => exact absurd HA.out (by simp [purflingref05_May.j0])
  | succ kj2 =>
   have H := HA.out
   clear HA
   simp only [purflingref05_May.j0] at H
   by_cases c5 : x10_2 = true
   · subst c5
     have H1 : (some false) = some r := by rw [if_pos rfl] at H; exact H
     clear H
     have H := H1
     clear H1
     obtain rfl := Option.some.inj H
     go_wp2
     go_ret
     exact ⟨by first | rfl | (simp; done) | (simp [*]; done), by repeat (first | exact Drawn0.refl _ | apply Drawn0.step)⟩
   · replace c5 := Bool.eq_false_iff.mpr c5
     subst c5
     have H1 : (if a0 = 2 then (if a1 ≥ 3 then (some (decide (a1 ≤ 9))) else (some false)) else (if a0 = 6 then (purflingref05_May.j1 kj2 a1 a0 (a0 == 6)) else (if a0 = 7 then (purflingref05_May.j1 kj2 a1 a0 (a0 == 7)) else (purflingref05_May.j1 kj2 a1 a0 (a0 == 8))))) = some r := by rw [if_neg (show ¬ (false = true) by decide)] at H; exact H
     clear H
     have H := H1
     clear H1
     by_cases c6 : a0 = 2
     · rw [if_pos c6] at H
       have c6b0 : (a0 == 2) = true := beq_iff_eq.mpr c6
       have c6b1 : (a0 != 2) = false := bne_eq_false_iff_eq.mpr c6
       clear c6
       by_cases c7 : a1 ≥ 3
       · rw [if_pos c7] at H
         have c7b0 : decide (3 ≤ a1) = true := decide_eq_true c7
         clear c7
         obtain rfl := Option.some.inj H
         go_wp2
         go_ret
         exact ⟨by first | rfl | (simp; done) | (simp [*]; done), by repeat (first | exact Drawn0.refl _ | apply Drawn0.step)⟩
       · rw [if_neg c7] at H
         have c7b0 : decide (3 ≤ a1) = false := decide_eq_false c7
         clear c7
         obtain rfl := Option.some.inj H
         go_wp2
         go_ret
         exact ⟨by first | rfl | (simp; done) | (simp [*]; done), by repeat (first | exact Drawn0.refl _ | apply Drawn0.step)⟩
     · rw [if_neg c6] at H
       have c6b0 : (a0 == 2) = false := beq_eq_false_iff_ne.mpr c6
       have c6b1 : (a0 != 2) = true := bne_iff_ne.mpr c6
       have HC8 := Aside0.mk H
       clear H
       go_upto_if 20 with (fail)
       go_cut [20] (fun v20 wc => ∃ (kq : Nat) (x20_7 : Bool), v20 = .bool x20_7 ∧ Aside0 (purflingref05_May.j1 kq a1 a0 x20_7 = some r) ∧ Aside0 (kq ≤ kj2) ∧ Drawn0 w wc)
       case first =>
        have H := HC8.out
        clear HC8
        by_cases c9 : a0 = 6
        · rw [if_pos c9] at H
          have c9b0 : (a0 == 6) = true := beq_iff_eq.mpr c9
          have c9b1 : (a0 != 6) = false := bne_eq_false_iff_eq.mpr c9
          clear c9
          (first | rw [c9b0] | (simp only [i64_w, i32_w]; rw [c9b0]) | skip)
          have H' := Aside0.mk H
          clear H
          go_wp2
          go_meet
          case rel => exact ⟨_, ((a0 == 6)), (by first | rfl | (simp; done) | (simp [*]; done)), H', ⟨by have := HJ2.out; first | omega | exact Nat.le_refl _⟩, by repeat (first | exact Drawn0.refl _ | apply Drawn0.step)⟩
        · rw [if_neg c9] at H
          have c9b0 : (a0 == 6) = false := beq_eq_false_iff_ne.mpr c9
          have c9b1 : (a0 != 6) = true := bne_iff_ne.mpr c9
          (first | rw [c9b0] | (simp only [i64_w, i32_w]; rw [c9b0]) | skip)
          by_cases c10 : a0 = 7
          · rw [if_pos c10] at H
            have c10b0 : (a0 == 7) = true := beq_iff_eq.mpr c10
            have c10b1 : (a0 != 7) = false := bne_eq_false_iff_eq.mpr c10
            clear c10
            have H' := Aside0.mk H
            clear H
            go_wp2
            go_meet
            case rel => exact ⟨_, ((a0 == 7)), (by first | rfl | (simp; done) | (simp [*]; done)), H', ⟨by have := HJ2.out; first | omega | exact Nat.le_refl _⟩, by repeat (first | exact Drawn0.refl _ | apply Drawn0.step)⟩
          · rw [if_neg c10] at H
            have c10b0 : (a0 == 7) = false := beq_eq_false_iff_ne.mpr c10
            have c10b1 : (a0 != 7) = true := bne_iff_ne.mpr c10
            have H' := Aside0.mk H
            clear H
            go_wp2
            go_meet
            case rel => exact ⟨_, ((a0 == 8)), (by first | rfl | (simp; done) | (simp [*]; done)), H', ⟨by have := HJ2.out; first | omega | exact Nat.le_refl _⟩, by repeat (first | exact Drawn0.refl _ | apply Drawn0.step)⟩
       case rest =>
        clear HC8
        try clear c1
        try clear c2
        try clear p2
        try clear c4
        try clear c4b0
        try clear c5
        try clear c6
        try clear c6b0
        try clear c6b1
        try clear c7
        try clear c7b0
        try clear c9
        try clear c9b0
        try clear c9b1
        try clear c10
        try clear c10b0
        try clear c10b1
        try clear p2
        obtain ⟨kq, x20_7, rfl, HA, HJ7, ⟨mc7, rfl⟩⟩ := hcut
        cases kq with
        | zero => exact absurd HA.out (by simp [purflingref05_May.j1])
        | succ kj7 =>
         have H := HA.out
         clear HA
         simp only [purflingref05_May.j1] at H
         by_cases c11 : x20_7 = true
         · subst c11
           have H1 : (some (a1 == 9)) = some r := by rw [if_pos rfl] at H; exact H
           clear H
           have H := H1
           clear H1
           obtain rfl := Option.some.inj H
           go_wp2
           go_ret
           exact ⟨by first | rfl | (simp; done) | (simp [*]; done), by repeat (first | exact Drawn0.refl _ | apply Drawn0.step)⟩
         · replace c11 := Bool.eq_false_iff.mpr c11
           subst c11
           have H1 : (if a0 = 9 then (some (a1 == 10)) else (if a0 = 4 then (some true) else (if a0 = 0 then (if a1 = 0 then (some true) else (if a1 = 1 then (some true) else (some (a1 == 2)))) else (if a0 = 3 then (if a1 = 0 then (some true) else (if a1 = 1 then (some true) else (some (a1 == 2)))) else (if a0 = 10 then (if a1 = 0 then (some true) else (if a1 = 1 then (some true) else (some (a1 == 2)))) else (some false)))))) = some r := by rw [if_neg (show ¬ (false = true) by decide)] at H; exact H
           clear H
           have H := H1
           clear H1
           by_cases c12 : a0 = 9
           · rw [if_pos c12] at H
             have c12b0 : (a0 == 9) = true := beq_iff_eq.mpr c12
             have c12b1 : (a0 != 9) = false := bne_eq_false_iff_eq.mpr c12
             clear c12
             obtain rfl := Option.some.inj H
             go_wp2
             go_ret
             exact ⟨by first | rfl | (simp; done) | (simp [*]; done), by repeat (first | exact Drawn0.refl _ | apply Drawn0.step)⟩
           · rw [if_neg c12] at H
             have c12b0 : (a0 == 9) = false := beq_eq_false_iff_ne.mpr c12
             have c12b1 : (a0 != 9) = true := bne_iff_ne.mpr c12
             by_cases c13 : a0 = 4
             · rw [if_pos c13] at H
               have c13b0 : (a0 == 4) = true := beq_iff_eq.mpr c13
               have c13b1 : (a0 != 4) = false := bne_eq_false_iff_eq.mpr c13
               clear c13
               obtain rfl := Option.some.inj H
               go_wp2
               go_ret
               exact ⟨by first | rfl | (simp; done) | (simp [*]; done), by repeat (first | exact Drawn0.refl _ | apply Drawn0.step)⟩
             · rw [if_neg c13] at H
               have c13b0 : (a0 == 4) = false := beq_eq_false_iff_ne.mpr c13
               have c13b1 : (a0 != 4) = true := bne_iff_ne.mpr c13
               by_cases c14 : a0 = 0
               · rw [if_pos c14] at H
                 have c14b0 : (a0 == 0) = true := beq_iff_eq.mpr c14
                 have c14b1 : (a0 != 0) = false := bne_eq_false_iff_eq.mpr c14
                 clear c14
                 by_cases c15 : a1 = 0
                 · rw [if_pos c15] at H
                   have c15b0 : (a1 == 0) = true := beq_iff_eq.mpr c15
                   have c15b1 : (a1 != 0) = false := bne_eq_false_iff_eq.mpr c15
                   clear c15
                   obtain rfl := Option.some.inj H
                   go_wp2
                   go_ret
                   exact ⟨by first | rfl | (simp; done) | (simp [*]; done), by repeat (first | exact Drawn0.refl _ | apply Drawn0.step)⟩
                 · rw [if_neg c15] at H
                   have c15b0 : (a1 == 0) = false := beq_eq_false_iff_ne.mpr c15
                   have c15b1 : (a1 != 0) = true := bne_iff_ne.mpr c15
                   by_cases c16 : a1 = 1
                   · rw [if_pos c16] at H
                     have c16b0 : (a1 == 1) = true := beq_iff_eq.mpr c16
                     have c16b1 : (a1 != 1) = false := bne_eq_false_iff_eq.mpr c16
                     clear c16
                     obtain rfl := Option.some.inj H
                     go_wp2
                     go_ret
                     exact ⟨by first | rfl | (simp; done) | (simp [*]; done), by repeat (first | exact Drawn0.refl _ | apply Drawn0.step)⟩
                   · rw [if_neg c16] at H
                     have c16b0 : (a1 == 1) = false := beq_eq_false_iff_ne.mpr c16
                     have c16b1 : (a1 != 1) = true := bne_iff_ne.mpr c16
                     obtain rfl := Option.some.inj H
                     go_wp2
                     go_ret
                     exact ⟨by first | rfl | (simp; done) | (simp [*]; done), by repeat (first | exact Drawn0.refl _ | apply Drawn0.step)⟩
               · rw [if_neg c14] at H
                 have c14b0 : (a0 == 0) = false := beq_eq_false_iff_ne.mpr c14
                 have c14b1 : (a0 != 0) = true := bne_iff_ne.mpr c14
                 by_cases c17 : a0 = 3
                 · rw [if_pos c17] at H
                   have c17b0 : (a0 == 3) = true := beq_iff_eq.mpr c17
                   have c17b1 : (a0 != 3) = false := bne_eq_false_iff_eq.mpr c17
                   clear c17
                   by_cases c18 : a1 = 0
                   · rw [if_pos c18] at H
                     have c18b0 : (a1 == 0) = true := beq_iff_eq.mpr c18
                     have c18b1 : (a1 != 0) = false := bne_eq_false_iff_eq.mpr c18
                     clear c18
                     obtain rfl := Option.some.inj H
                     go_wp2
                     go_ret
                     exact ⟨by first | rfl | (simp; done) | (simp [*]; done), by repeat (first | exact Drawn0.refl _ | apply Drawn0.step)⟩
                   · rw [if_neg c18] at H
                     have c18b0 : (a1 == 0) = false := beq_eq_false_iff_ne.mpr c18
                     have c18b1 : (a1 != 0) = true := bne_iff_ne.mpr c18
                     by_cases c19 : a1 = 1
                     · rw [if_pos c19] at H
                       have c19b0 : (a1 == 1) = true := beq_iff_eq.mpr c19
                       have c19b1 : (a1 != 1) = false := bne_eq_false_iff_eq.mpr c19
                       clear c19
                       obtain rfl := Option.some.inj H
                       go_wp2
                       go_ret
                       exact ⟨by first | rfl | (simp; done) | (simp [*]; done), by repeat (first | exact Drawn0.refl _ | apply Drawn0.step)⟩
                     · rw [if_neg c19] at H
                       have c19b0 : (a1 == 1) = false := beq_eq_false_iff_ne.mpr c19
                       have c19b1 : (a1 != 1) = true := bne_iff_ne.mpr c19
                       obtain rfl := Option.some.inj H
                       go_wp2
                       go_ret
                       exact ⟨by first | rfl | (simp; done) | (simp [*]; done), by repeat (first | exact Drawn0.refl _ | apply Drawn0.step)⟩
                 · rw [if_neg c17] at H
                   have c17b0 : (a0 == 3) = false := beq_eq_false_iff_ne.mpr c17
                   have c17b1 : (a0 != 3) = true := bne_iff_ne.mpr c17
                   by_cases c20 : a0 = 10
                   · rw [if_pos c20] at H
                     have c20b0 : (a0 == 10) = true := beq_iff_eq.mpr c20
                     have c20b1 : (a0 != 10) = false := bne_eq_false_iff_eq.mpr c20
                     clear c20
                     by_cases c21 : a1 = 0
                     · rw [if_pos c21] at H
                       have c21b0 : (a1 == 0) = true := beq_iff_eq.mpr c21
                       have c21b1 : (a1 != 0) = false := bne_eq_false_iff_eq.mpr c21
                       clear c21
                       obtain rfl := Option.some.inj H
                       go_wp2
                       go_ret
                       exact ⟨by first | rfl | (simp; done) | (simp [*]; done), by repeat (first | exact Drawn0.refl _ | apply Drawn0.step)⟩
                     · rw [if_neg c21] at H
                       have c21b0 : (a1 == 0) = false := beq_eq_false_iff_ne.mpr c21
                       have c21b1 : (a1 != 0) = true := bne_iff_ne.mpr c21
                       by_cases c22 : a1 = 1
                       · rw [if_pos c22] at H
                         have c22b0 : (a1 == 1) = true := beq_iff_eq.mpr c22
                         have c22b1 : (a1 != 1) = false := bne_eq_false_iff_eq.mpr c22
                         clear c22
                         obtain rfl := Option.some.inj H
                         go_wp2
                         go_ret
                         exact ⟨by first | rfl | (simp; done) | (simp [*]; done), by repeat (first | exact Drawn0.refl _ | apply Drawn0.step)⟩
                       · rw [if_neg c22] at H
                         have c22b0 : (a1 == 1) = false := beq_eq_false_iff_ne.mpr c22
                         have c22b1 : (a1 != 1) = true := bne_iff_ne.mpr c22
                         obtain rfl := Option.some.inj H
                         go_wp2
                         go_ret
                         exact ⟨by first | rfl | (simp; done) | (simp [*]; done), by repeat (first | exact Drawn0.refl _ | apply Drawn0.step)⟩
                   · rw [if_neg c20] at H
                     have c20b0 : (a0 == 10) = false := beq_eq_false_iff_ne.mpr c20
                     have c20b1 : (a0 != 10) = true := bne_iff_ne.mpr c20
                     obtain rfl := Option.some.inj H
                     go_wp2
                     go_ret
                     exact ⟨by first | rfl | (simp; done) | (simp [*]; done), by repeat (first | exact Drawn0.refl _ | apply Drawn0.step)⟩
end Go.Proofs.Ytjhpkikgajgdmaa.K
