/- Layer 4: equal lists. -/
import Derived.Test.YtjhpkikgajgdmaaTrB
import Derived.Test.YtjhpkikgajgdmaaK2
import Derived.Test.YtjhpkikgajgdmaaTrA
namespace Go.Proofs.Ytjhpkikgajgdmaa.K
open Go.RowKit Go.Proofs.YtjhpkikgajgdmaaW.PrintWords Go.Proofs.YtjhpkikgajgdmaaW.PrintLast Go.Proofs.YtjhpkikgajgdmaaW.PrintMore
set_option linter.unusedVariables false
set_option linter.unusedSimpArgs false
theorem wrap_up {j : Nat} (h : j < 9000000000000000000) : wrap64 ((j : Int) + 1) = ((j + 1 : Nat) : Int) := by unfold wrap64; omega
theorem ints_l0 (l : List Int) (hl : l.length < 1000000000) : ∀ (d j k : Nat), j + d = l.length → d < k → purflingref04_Ints.l0 k l l (j : Int) = some true
  | 0, j, k + 1, h, _ => by
    unfold purflingref04_Ints.l0
    rw [if_neg (by omega)]
  | d + 1, j, k + 1, h, hk => by
    unfold purflingref04_Ints.l0
    rw [if_pos (by omega), if_pos (by omega), if_pos (by omega), if_pos rfl, wrap_up (by omega)]
    exact ints_l0 l hl d (j + 1) k (by omega) (by omega)
theorem ints_f (l : List Int) (hl : l.length < 1000000000) : purflingref04_Ints.f (l.length + 1) l l = some true := by
  unfold purflingref04_Ints.f
  rw [if_pos rfl]
  exact ints_l0 l hl l.length 0 _ (by omega) (by omega)
theorem ints_same {xs : List Int} {n : Nat} (hn : xs.length = n) (hl : n < 1000000000) (A0 : Option Addr) (c0 : Nat) (A1 : Option Addr) (c1 : Nat) (w : World) (hr0 : Kd.C (Kd.int .i64) w A0 n xs) (hc0 : n ≤ c0) (hr1 : Kd.C (Kd.int .i64) w A1 n xs) (hc1 : n ≤ c1) :
    Calls Try.prog 17 #[.slice A0 n c0, .slice A1 n c1] w fun e w' => e = .returned (.bool true) ∧ Below w.heap.size w w' := by
  subst hn
  exact (purflingref04_Ints.calls (xs.length + 1) A0 c0 xs A1 c1 xs true w hr0 hc0 hr1 hc1 (ints_f xs hl)).mono fun e w' ⟨he, hd⟩ => ⟨he, hd.below⟩
end Go.Proofs.Ytjhpkikgajgdmaa.K
