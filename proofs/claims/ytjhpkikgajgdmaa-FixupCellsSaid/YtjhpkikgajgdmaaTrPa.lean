/- Layer 4, plain: whose kids nodes are. -/
import Derived.Test.YtjhpkikgajgdmaaTrB
import Derived.Test.YtjhpkikgajgdmaaTrA
namespace Go.Proofs.Ytjhpkikgajgdmaa.K
open Go.RowKit Go.Proofs.YtjhpkikgajgdmaaW.PrintWords Go.Proofs.YtjhpkikgajgdmaaW.PrintLast Go.Proofs.YtjhpkikgajgdmaaW.PrintMore
set_option linter.unusedVariables false
set_option linter.unusedSimpArgs false

def parF (n : Nat) (pre : List (Nat × Int)) : List Int := pre.foldl (fun out x => out.set x.2.toNat ((x.1 : Nat) : Int)) ((List.replicate n 0).set 0 (-1))
theorem parF_nil (n : Nat) : parF n [] = (List.replicate n 0).set 0 (-1) := rfl
theorem parF_snoc (n : Nat) (pre : List (Nat × Int)) (x : Nat × Int) : parF n (pre ++ [x]) = (parF n pre).set x.2.toNat ((x.1 : Nat) : Int) := by unfold parF; rw [List.foldl_append]; rfl
theorem foldl_set_len {α : Type} (f : α → Nat) (g : α → Int) : ∀ (pre : List α) (xs : List Int), (pre.foldl (fun out x => out.set (f x) (g x)) xs).length = xs.length
  | [], _ => rfl
  | x :: pre, xs => by rw [List.foldl_cons, foldl_set_len f g pre, List.length_set]
theorem parF_len (n : Nat) (pre : List (Nat × Int)) : (parF n pre).length = n := by unfold parF; rw [foldl_set_len (fun x : Nat × Int => x.2.toNat) (fun x => ((x.1 : Nat) : Int)), List.length_set, List.length_replicate]
def parentsP (l : List Nd) : List Int := parF l.length (linksOf l)
end Go.Proofs.Ytjhpkikgajgdmaa.K
