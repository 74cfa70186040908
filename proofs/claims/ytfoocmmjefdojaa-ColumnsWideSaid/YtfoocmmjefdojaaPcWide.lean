/- Layer 13, plain: needs of more columns than one don't count. -/
import Derived.Test.YtfoocmmjefdojaaPcB
import Derived.Test.YtfoocmmjefdojaaK25
import Derived.Test.YtfoocmmjefdojaaOpens
namespace Go.Proofs.Ytfoocmmjefdojaa.Pure
set_option linter.unusedVariables false
set_option linter.unusedSimpArgs false
open Go.RowKit Go.Proofs.Ytfoocmmjefdojaa.K Go.Proofs.YtfoocmmjefdojaaW.PrintWords Go.Proofs.YtfoocmmjefdojaaW.PrintLast Go.Proofs.YtfoocmmjefdojaaW.PrintMore

theorem drop_at {α : Type} {l : List α} {j : Nat} {x : α} (h : l[j]? = some x) : l.drop j = x :: l.drop (j + 1) := by
  obtain ⟨hl, rfl⟩ := List.getElem?_eq_some_iff.1 h
  exact List.drop_eq_getElem_cons hl
theorem wide_l0 (sizes : List Sz3) (l : List Nd) (hs : sizes.length ≤ 40) (hl : l.length ≤ 100) : ∀ (d j k : Nat) (acc : List Nd), j + d = l.length → d + 100 < k → acc.length + d ≤ 1000 → (∀ x, x.f0.f4 = 1 → (x ∈ l ↔ x ∈ acc ∨ x ∈ l.drop j)) → (∀ x ∈ acc, x ∈ l) →
    purflinglaw13_ColumnsWide.l0 k sizes l true acc (j : Int) = some true
  | 0, j, k + 1, acc, hj, hk, ha, hm, hsub => by
    unfold purflinglaw13_ColumnsWide.l0
    rw [if_neg (by omega), bands_f, bands_f]
    simp only [Option.bind_some]
    have hjl : j = l.length := by omega
    subst hjl
    have hm' : ∀ x, x.f0.f4 = 1 → (x ∈ l ↔ x ∈ acc) := by simpa using hm
    cases hR : rightB sizes l with
    | true =>
      have hR2 := right_sub hR hsub
      have hS := same_self (bandsP sizes acc) (by rw [bandsP_len]; omega) k (by rw [bandsP_len]; omega)
      rw [bandsP_congr sizes (right_pos hR) (right_pos hR2) hm', hR2]
      simp [hS]
    | false => simp
  | d + 1, j, k + 1, acc, hj, hk, ha, hm, hsub => by
    obtain ⟨x, hx, hxm⟩ := at_some (j := j) (xs := l) (by omega)
    unfold purflinglaw13_ColumnsWide.l0
    rw [if_pos (by omega), if_pos (by omega), rdNd hx, up_ok (by omega)]
    by_cases h : x.f0.f4 = 1
    · rw [if_pos h, if_pos (by omega)]
      refine wide_l0 sizes l hs hl d (j + 1) k (acc ++ [x]) (by omega) (by omega) (by simp; omega) (fun y hy => ?_) (fun y hy => ?_)
      · rw [hm y hy, drop_at hx]; simp [or_assoc]
      · rcases List.mem_append.1 hy with h1 | h1
        · exact hsub y h1
        · obtain rfl : y = x := by simpa using h1
          exact hxm
    · rw [if_neg h]
      refine wide_l0 sizes l hs hl d (j + 1) k acc (by omega) (by omega) (by omega) (fun y hy => ?_) hsub
      rw [hm y hy, drop_at hx]
      have : y ≠ x := fun e => h (e ▸ hy)
      simp [this]

theorem ColumnsWide (l0 : List Sz3) (l1 : List Nd) (g0 : ∀ x ∈ l0, good_58 x) (g1 : ∀ x ∈ l1, good_60 x) : ∃ k, purflinglaw13_ColumnsWide.f k l0 l1 = some true := by
  obtain ⟨c0, c1, hc, h0, h1⟩ := cut_eq l0 l1
  obtain ⟨k, hk⟩ : ∃ k : Nat, k = c1.length + 200 := ⟨_, rfl⟩
  refine ⟨k, ?_⟩
  unfold purflinglaw13_ColumnsWide.f
  rw [shown_eq, hc]; simp only [Option.bind_some]
  have hz : ((0 : Nat) : Int) = 0 := rfl
  rw [← hz]
  exact wide_l0 c0 c1 h0 h1 c1.length 0 k [] (by omega) (by omega) (by simp; omega) (by simp) (by simp)
end Go.Proofs.Ytfoocmmjefdojaa.Pure
