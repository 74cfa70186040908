/- Layer 5, plain: the reference's May and Around. -/
import Derived.Test.YtjhpkikgajgdmaaFxM
import Derived.Test.YtjhpkikgajgdmaaK3
import Derived.Test.YtjhpkikgajgdmaaK4
namespace Go.Proofs.Ytjhpkikgajgdmaa.K
open Go.RowKit
set_option linter.unusedVariables false
set_option linter.unusedSimpArgs false
theorem kind_cases (a : Int) : a = 0 ∨ a = 1 ∨ a = 2 ∨ a = 3 ∨ a = 4 ∨ a = 5 ∨ a = 6 ∨ a = 7 ∨ a = 8 ∨ a = 9 ∨ a = 10 ∨ (a < 0 ∨ 10 < a) := by omega
theorem may_out (a b : Int) (h : b < 0 ∨ 10 < b) : mayB a b = false := by
  unfold mayB roomK tblK
  refine decide_eq_false ?_
  repeat' split
  all_goals simp
  all_goals omega
theorem rmay_f (a b : Int) (k : Nat) : purflingref05_May.f (k + 1 + 1) a b = some (mayB a b) := by
  by_cases h1 : b < 0
  · unfold purflingref05_May.f purflingref05_May.j0
    dsimp only
    rw [if_pos h1, if_pos rfl, may_out a b (.inl h1)]
  by_cases h2 : 10 < b
  · unfold purflingref05_May.f purflingref05_May.j0
    dsimp only
    rw [if_neg h1, if_pos (decide_eq_true h2), may_out a b (.inr h2)]
  unfold purflingref05_May.f purflingref05_May.j0
  dsimp only
  rw [if_neg h1, if_neg (by simp; omega)]
  rcases kind_cases a with rfl | rfl | rfl | rfl | rfl | rfl | rfl | rfl | rfl | rfl | rfl | h
  all_goals rcases kind_cases b with rfl | rfl | rfl | rfl | rfl | rfl | rfl | rfl | rfl | rfl | rfl | h'
  all_goals first
    | rfl
    | (exfalso; omega)
    | (have e : ∀ j, mayB a j = false := (by intro j; unfold mayB; rw [roomK_none (by unfold keysR; simp; omega)]; rfl)
       rw [e]
       unfold purflingref05_May.j1
       simp [show a ≠ 2 by omega, show a ≠ 6 by omega, show a ≠ 7 by omega, show a ≠ 8 by omega, show a ≠ 9 by omega, show a ≠ 4 by omega, show a ≠ 0 by omega, show a ≠ 3 by omega, show a ≠ 10 by omega])
theorem raround_f (a : Int) (k : Nat) : purflingref05_Around.f (k + 1) a = some (aroundP a) := by
  rcases kind_cases a with rfl | rfl | rfl | rfl | rfl | rfl | rfl | rfl | rfl | rfl | rfl | h
  all_goals first
    | rfl
    | (have e : aroundP a = -1 := if_neg (by unfold keysR; simp; omega)
       rw [e]
       unfold purflingref05_Around.f purflingref05_Around.j0
       simp [show a ≠ 2 by omega, show a ≠ 6 by omega, show a ≠ 7 by omega, show a ≠ 8 by omega, show a ≠ 9 by omega, show a ≠ 4 by omega, show a ≠ 0 by omega, show a ≠ 3 by omega, show a ≠ 10 by omega])
end Go.Proofs.Ytjhpkikgajgdmaa.K
