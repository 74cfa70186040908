/- Layer 13, plain: the order of the needs, and each said twice. -/
import Derived.Test.YtfoocmmjefdojaaPcB
import Derived.Test.YtfoocmmjefdojaaK22
import Derived.Test.YtfoocmmjefdojaaOpens
namespace Go.Proofs.Ytfoocmmjefdojaa.Pure
set_option linter.unusedVariables false
set_option linter.unusedSimpArgs false
open Go.RowKit Go.Proofs.Ytfoocmmjefdojaa.K Go.Proofs.YtfoocmmjefdojaaW.PrintWords Go.Proofs.YtfoocmmjefdojaaW.PrintLast Go.Proofs.YtfoocmmjefdojaaW.PrintMore

theorem order_l0 (sizes : List Sz3) (l : List Nd) (hs : sizes.length ≤ 40) (hl : l.length ≤ 100) : ∀ (n k : Nat) (acc : List Nd), n ≤ l.length → n + 100 < k → acc.length + 2 * n ≤ 1000 → (∀ x, x ∈ l ↔ x ∈ acc ∨ x ∈ l.take n) →
    purflinglaw13_ColumnsOrder.l0 k sizes l true acc ((n : Int) - 1) = some true
  | 0, k + 1, acc, hn, hk, ha, hm => by
    unfold purflinglaw13_ColumnsOrder.l0
    rw [if_neg (by omega), bands_f, bands_f]
    simp only [Option.bind_some]
    have hm' : ∀ x, x ∈ l ↔ x ∈ acc := by simpa using hm
    have he := right_congr (sizes := sizes) hm'
    rw [he]
    cases hR : rightB sizes acc with
    | true =>
      have hS := same_self (bandsP sizes acc) (by rw [bandsP_len]; omega) k (by rw [bandsP_len]; omega)
      rw [bandsP_congr sizes (right_pos (he.trans hR)) (right_pos hR) (fun x _ => hm' x)]
      simp [hS]
    | false =>
      have hS := same_self [] (by simp) k (by simp; omega)
      simp [hS]
  | n + 1, k + 1, acc, hn, hk, ha, hm => by
    obtain ⟨x, hx, hxm⟩ := at_some (j := n) (xs := l) (by omega)
    unfold purflinglaw13_ColumnsOrder.l0
    rw [show (((n + 1 : Nat) : Int) - 1) = (n : Int) by omega]
    rw [if_pos (by omega), if_pos (by omega), if_pos (by omega), Option.bind_some, rdNd hx, if_pos (by simp; omega), wrap_ok (by omega) (by omega)]
    refine order_l0 sizes l hs hl n k (acc ++ [x, x]) (by omega) (by omega) (by simp; omega) (fun y => ?_)
    rw [hm y, List.take_add_one, hx]
    by_cases h1 : y ∈ acc <;> by_cases h2 : y ∈ l.take n <;> by_cases h3 : y = x <;> simp [h1, h2, h3]

theorem ColumnsOrder (l0 : List Sz3) (l1 : List Nd) (g0 : ∀ x ∈ l0, good_58 x) (g1 : ∀ x ∈ l1, good_60 x) : ∃ k, purflinglaw13_ColumnsOrder.f k l0 l1 = some true := by
  obtain ⟨c0, c1, hc, h0, h1⟩ := cut_eq l0 l1
  refine ⟨c1.length + 200, ?_⟩
  unfold purflinglaw13_ColumnsOrder.f
  rw [shown_eq, hc]; simp only [Option.bind_some]
  rw [wrap_ok (by omega) (by omega)]
  exact order_l0 c0 c1 h0 h1 c1.length _ [] (Nat.le_refl _) (by omega) (by simp; omega) (by simp)
end Go.Proofs.Ytfoocmmjefdojaa.Pure
