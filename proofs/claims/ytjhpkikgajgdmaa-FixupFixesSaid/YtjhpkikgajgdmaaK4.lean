-- PRINTED by print.py (a twelfth state) out of the translation. Not trusted: Lean checks it.
import Derived.Test.YtjhpkikgajgdmaaK0
namespace Go.Proofs.Ytjhpkikgajgdmaa.K
open Go.RowKit Go.Proofs.YtjhpkikgajgdmaaW.PrintWords Go.Proofs.YtjhpkikgajgdmaaW.PrintLast Go.Proofs.YtjhpkikgajgdmaaW.PrintMore
attribute [local go_sem] max2_int min2_int max_two min_two max_three min_three max_four min_four   -- for this text's walks alone
set_option linter.unusedVariables false
set_option linter.unusedSimpArgs false
/-! ### purflingref05_Around: function 14 -/
def purflingref05_Around.j0 : Nat → Int → Bool → Option (Int)
 | 0, _, _ => none
 | k + 1, x3, x4 => if x4 = true then (some 9) else (if x3 = 9 then (some 10) else (if x3 = 0 then (some 2) else (if x3 = 3 then (some 2) else (if x3 = 10 then (some 2) else (some (-1))))))
def purflingref05_Around.f (k : Nat) (a0 : Int) : Option (Int) := if a0 = 2 then (purflingref05_Around.j0 k a0 (a0 == 2)) else (if a0 = 6 then (purflingref05_Around.j0 k a0 (a0 == 6)) else (if a0 = 7 then (purflingref05_Around.j0 k a0 (a0 == 7)) else (purflingref05_Around.j0 k a0 (a0 == 8))))
set_option maxHeartbeats 8000000 in
set_option maxRecDepth 100000 in
theorem purflingref05_Around.calls (k : Nat) (a0 : Int) (r : Int) (w : World) (h : purflingref05_Around.f k a0 = some r) :
 Calls Try.prog 14 #[.int .i64 a0] w fun e w' => e = .returned (.int .i64 r) ∧ Drawn0 w w' := by
 have H : (if a0 = 2 then (purflingref05_Around.j0 k a0 (a0 == 2)) else (if a0 = 6 then (purflingref05_Around.j0 k a0 (a0 == 6)) else (if a0 = 7 then (purflingref05_Around.j0 k a0 (a0 == 7)) else (purflingref05_Around.j0 k a0 (a0 == 8))))) = some r := h
 clear h
 have HC2 := Aside0.mk H
 clear H
 go_enter Try.func14, Try.ntmps14
 go_upto_if 4 with (fail)
 go_cut [4] (fun v4 wc => ∃ (kq : Nat) (x4_1 : Bool), v4 = .bool x4_1 ∧ Aside0 (purflingref05_Around.j0 kq a0 x4_1 = some r) ∧ Aside0 (kq ≤ k) ∧ Drawn0 w wc)
 case first =>
  have H := HC2.out
  clear HC2
  by_cases c3 : a0 = 2
  · rw [if_pos c3] at H
    have c3b0 : (a0 == 2) = true := beq_iff_eq.mpr c3
    have c3b1 : (a0 != 2) = false := bne_eq_false_iff_eq.mpr c3
    clear c3
    (first | rw [c3b0] | (simp only [i64_w, i32_w]; rw [c3b0]) | skip)
    have H' := Aside0.mk H
    clear H
    go_wp2
    go_meet
    case rel => exact ⟨_, ((a0 == 2)), (by first | rfl | (simp; done) | (simp [*]; done)), H', ⟨by first | omega | exact Nat.le_refl _⟩, by repeat (first | exact Drawn0.refl _ | apply Drawn0.step)⟩
  · rw [if_neg c3] at H
    have c3b0 : (a0 == 2) = false := beq_eq_false_iff_ne.mpr c3
    have c3b1 : (a0 != 2) = true := bne_iff_ne.mpr c3
    (first | rw [c3b0] | (simp only [i64_w, i32_w]; rw [c3b0]) | skip)
    by_cases c4 : a0 = 6
    · rw [if_pos c4] at H
      have c4b0 : (a0 == 6) = true := beq_iff_eq.mpr c4
      have c4b1 : (a0 != 6) = false := bne_eq_false_iff_eq.mpr c4
      clear c4
      have H' := Aside0.mk H
      clear H
      go_wp2
      go_meet
      case rel => exact ⟨_, ((a0 == 6)), (by first | rfl | (simp; done) | (simp [*]; done)), H', ⟨by first | omega | exact Nat.le_refl _⟩, by repeat (first | exact Drawn0.refl _ | apply Drawn0.step)⟩
    · rw [if_neg c4] at H
      have c4b0 : (a0 == 6) = false := beq_eq_false_iff_ne.mpr c4
      have c4b1 : (a0 != 6) = true := bne_iff_ne.mpr c4
      by_cases c5 : a0 = 7
      · rw [if_pos c5] at H
        have c5b0 : (a0 == 7) = true := beq_iff_eq.mpr c5
        have c5b1 : (a0 != 7) = false := bne_eq_false_iff_eq.mpr c5
        clear c5
        have H' := Aside0.mk H
        clear H
        go_wp2
        go_meet
        case rel => exact ⟨_, ((a0 == 7)), (by first | rfl | (simp; done) | (simp [*]; done)), H', ⟨by first | omega | exact Nat.le_refl _⟩, by repeat (first | exact Drawn0.refl _ | apply Drawn0.step)⟩
      · rw [if_neg c5] at H
        have c5b0 : (a0 == 7) = false := beq_eq_false_iff_ne.mpr c5
        have c5b1 : (a0 != 7) = true := bne_iff_ne.mpr c5
        have H' := Aside0.mk H
        clear H
        go_wp2
        go_meet
        case rel => exact ⟨_, ((a0 == 8)), (by first | rfl | (simp; done) | (simp [*]; done)), H', ⟨by first | omega | exact Nat.le_refl _⟩, by repeat (first | exact Drawn0.refl _ | apply Drawn0.step)⟩
 case rest =>
  clear HC2
  try clear c1
  try clear p2
  try clear c3
  try clear c3b0
  try clear c3b1
  try clear c4
  try clear c4b0
  try clear c4b1
  try clear c5
  try clear c5b0
  try clear c5b1
  obtain ⟨kq, x4_1, rfl, HA, HJ1, ⟨mc1, rfl⟩⟩ := hcut
  cases kq with
  | zero => exact absurd HA.out (by simp [purflingref05_Around.j0])
  | succ kj1 =>
   have H := HA.out
   clear HA
   simp only [purflingref05_Around.j0] at H
   by_cases c6 : x4_1 = true
   · subst c6
     have H1 : (some 9) = some r := by rw [if_pos rfl] at H; exact H
     clear H
     have H := H1
     clear H1
     obtain rfl := Option.some.inj H
     go_wp2
     go_ret
     exact ⟨by first | rfl | (simp; done) | (simp [*]; done), by repeat (first | exact Drawn0.refl _ | apply Drawn0.step)⟩
   · replace c6 := Bool.eq_false_iff.mpr c6
     subst c6
     have H1 : (if a0 = 9 then (some 10) else (if a0 = 0 then (some 2) else (if a0 = 3 then (some 2) else (if a0 = 10 then (some 2) else (some (-1)))))) = some r := by rw [if_neg (show ¬ (false = true) by decide)] at H; exact H
     clear H
     have H := H1
     clear H1
     by_cases c7 : a0 = 9
     · rw [if_pos c7] at H
       have c7b0 : (a0 == 9) = true := beq_iff_eq.mpr c7
       have c7b1 : (a0 != 9) = false := bne_eq_false_iff_eq.mpr c7
       clear c7
       obtain rfl := Option.some.inj H
       go_wp2
       go_ret
       exact ⟨by first | rfl | (simp; done) | (simp [*]; done), by repeat (first | exact Drawn0.refl _ | apply Drawn0.step)⟩
     · rw [if_neg c7] at H
       have c7b0 : (a0 == 9) = false := beq_eq_false_iff_ne.mpr c7
       have c7b1 : (a0 != 9) = true := bne_iff_ne.mpr c7
       by_cases c8 : a0 = 0
       · rw [if_pos c8] at H
         have c8b0 : (a0 == 0) = true := beq_iff_eq.mpr c8
         have c8b1 : (a0 != 0) = false := bne_eq_false_iff_eq.mpr c8
         clear c8
         obtain rfl := Option.some.inj H
         go_wp2
         go_ret
         exact ⟨by first | rfl | (simp; done) | (simp [*]; done), by repeat (first | exact Drawn0.refl _ | apply Drawn0.step)⟩
       · rw [if_neg c8] at H
         have c8b0 : (a0 == 0) = false := beq_eq_false_iff_ne.mpr c8
         have c8b1 : (a0 != 0) = true := bne_iff_ne.mpr c8
         by_cases c9 : a0 = 3
         · rw [if_pos c9] at H
           have c9b0 : (a0 == 3) = true := beq_iff_eq.mpr c9
           have c9b1 : (a0 != 3) = false := bne_eq_false_iff_eq.mpr c9
           clear c9
           obtain rfl := Option.some.inj H
           go_wp2
           go_ret
           exact ⟨by first | rfl | (simp; done) | (simp [*]; done), by repeat (first | exact Drawn0.refl _ | apply Drawn0.step)⟩
         · rw [if_neg c9] at H
           have c9b0 : (a0 == 3) = false := beq_eq_false_iff_ne.mpr c9
           have c9b1 : (a0 != 3) = true := bne_iff_ne.mpr c9
           by_cases c10 : a0 = 10
           · rw [if_pos c10] at H
             have c10b0 : (a0 == 10) = true := beq_iff_eq.mpr c10
             have c10b1 : (a0 != 10) = false := bne_eq_false_iff_eq.mpr c10
             clear c10
             obtain rfl := Option.some.inj H
             go_wp2
             go_ret
             exact ⟨by first | rfl | (simp; done) | (simp [*]; done), by repeat (first | exact Drawn0.refl _ | apply Drawn0.step)⟩
           · rw [if_neg c10] at H
             have c10b0 : (a0 == 10) = false := beq_eq_false_iff_ne.mpr c10
             have c10b1 : (a0 != 10) = true := bne_iff_ne.mpr c10
             obtain rfl := Option.some.inj H
             go_wp2
             go_ret
             exact ⟨by first | rfl | (simp; done) | (simp [*]; done), by repeat (first | exact Drawn0.refl _ | apply Drawn0.step)⟩
end Go.Proofs.Ytjhpkikgajgdmaa.K
