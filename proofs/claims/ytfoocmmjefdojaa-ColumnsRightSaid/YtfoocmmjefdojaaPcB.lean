/- Layer 13, plain: the law's small functions. -/
import Derived.Test.YtfoocmmjefdojaaPcA
import Derived.Test.YtfoocmmjefdojaaK17
import Derived.Test.YtfoocmmjefdojaaK19
namespace Go.Proofs.Ytfoocmmjefdojaa.Pure
set_option linter.unusedVariables false
set_option linter.unusedSimpArgs false
open Go.RowKit Go.Proofs.Ytfoocmmjefdojaa.K Go.Proofs.YtfoocmmjefdojaaW.PrintWords Go.Proofs.YtfoocmmjefdojaaW.PrintLast Go.Proofs.YtfoocmmjefdojaaW.PrintMore

theorem rdBd {xs : List Bd} {j : Nat} {x : Bd} (h : xs[j]? = some x) : rd_T62 xs (j : Int) = x := by
  unfold rd_T62; rw [Int.toNat_natCast, List.getD_eq_getElem?_getD, h]; rfl
theorem rdNd {xs : List Nd} {j : Nat} {x : Nd} (h : xs[j]? = some x) : rd_T60 xs (j : Int) = x := by
  unfold rd_T60; rw [Int.toNat_natCast, List.getD_eq_getElem?_getD, h]; rfl
theorem rdSz {xs : List Sz3} {j : Nat} {x : Sz3} (h : xs[j]? = some x) : rd_T58 xs (j : Int) = x := by
  unfold rd_T58; rw [Int.toNat_natCast, List.getD_eq_getElem?_getD, h]; rfl
theorem at_some {α : Type} {xs : List α} {j : Nat} (h : j < xs.length) : ∃ x, xs[j]? = some x ∧ x ∈ xs := ⟨xs[j], List.getElem?_eq_getElem h, List.getElem_mem h⟩

theorem wrap_ok {x : Int} (h0 : -9223372036854775808 ≤ x) (h1 : x ≤ 9223372036854775807) : wrap64 x = x := by
  unfold wrap64; omega
theorem up_ok {j : Nat} (h : j < 9000000000000000000) : wrap64 ((j : Int) + 1) = ((j + 1 : Nat) : Int) := by rw [wrap_ok (by omega) (by omega)]; rfl

theorem shown_eq : purflinglaw13_shown.f = some true := by decide +kernel

theorem mn_le (n : Nat) (c : Int) (hc : 0 ≤ c) : (0 ≤ mn (n : Int) c ∧ mn (n : Int) c ≤ n ∧ mn (n : Int) c ≤ c) := by
  unfold mn; split <;> omega
theorem cut_eq (l0 : List Sz3) (l1 : List Nd) : ∃ c0 c1, purflinglaw13_Cut.f l0 l1 = some (c0, c1) ∧ c0.length ≤ 40 ∧ c1.length ≤ 100 := by
  have h0 := mn_le l0.length 40 (by decide)
  have h1 := mn_le l1.length 100 (by decide)
  unfold purflinglaw13_Cut.f
  rw [if_pos h0.1, if_pos h0.2.1, if_pos h1.1, if_pos h1.2.1]
  refine ⟨_, _, rfl, ?_, ?_⟩
  · rw [List.length_take]; have := h0.2.2; omega
  · rw [List.length_take]; have := h1.2.2; omega

theorem same_l0 (l : List Bd) (hl : l.length < 1000000) : ∀ (d j k : Nat), j + d = l.length → d < k → purflingref13_Same.l0 k l l (j : Int) = some true
  | 0, j, k + 1, h, _ => by
    unfold purflingref13_Same.l0
    rw [if_neg (by omega)]
  | d + 1, j, k + 1, h, hk => by
    unfold purflingref13_Same.l0
    rw [if_pos (by omega), if_pos (by omega), if_pos (by omega), if_neg (by simp), up_ok (by omega)]
    exact same_l0 l hl d (j + 1) k (by omega) (by omega)
theorem same_self (l : List Bd) (hl : l.length < 1000000) (k : Nat) (hk : l.length < k) : purflingref13_Same.f k l l = some true := by
  unfold purflingref13_Same.f
  rw [if_pos rfl]
  exact same_l0 l hl l.length 0 k (by omega) hk
theorem bands_f (sizes : List Sz3) (l : List Nd) : columns_Bands.f sizes l = some (if rightB sizes l then (bandsP sizes l, 0) else ([], 130)) := rfl
end Go.Proofs.Ytfoocmmjefdojaa.Pure
