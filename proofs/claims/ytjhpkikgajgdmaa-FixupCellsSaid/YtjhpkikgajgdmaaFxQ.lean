/- Layer 5, plain: what is fixed. -/
import Derived.Test.YtjhpkikgajgdmaaFxF
import Derived.Test.YtjhpkikgajgdmaaEvA
import Derived.Test.YtjhpkikgajgdmaaTrU
namespace Go.Proofs.Ytjhpkikgajgdmaa.K
open Go.RowKit Go.Proofs.YtjhpkikgajgdmaaW.PrintWords Go.Proofs.YtjhpkikgajgdmaaW.PrintLast Go.Proofs.YtjhpkikgajgdmaaW.PrintMore
set_option linter.unusedVariables false
set_option linter.unusedSimpArgs false

theorem go_end {N : Nat} : ∀ (k i : Nat) (xs : List Nd), StOK N xs i → i + k = 4 * N → StOK N (fixGo k i xs) (fixGo k i xs).length
  | 0, i, xs, h, hk => by
    have h1 := h.pot
    have h2 := h.at_
    unfold fixGo
    rw [show xs.length = i by omega]
    exact h
  | k + 1, i, xs, h, hk => by
    unfold fixGo
    by_cases q : i < xs.length
    · rw [if_pos q]
      exact go_end k (i + 1) _ (h.step q) (by omega)
    · rw [if_neg q]
      have h2 := h.at_
      rw [show xs.length = i by omega]
      exact h
theorem fix_st {l : List Nd} (h : PageOK l) : StOK l.length (fixP l) (fixP l).length := go_end _ _ _ (st_init h) (by omega)
theorem cut_small (l : List Nd) : (cutL l).length ≤ 150 ∧ (∀ n ∈ cutL l, n.f1.length ≤ 30) ∧ (linksOf (cutL l)).length ≤ 1000000000 := by
  have h1 : (cutL l).length ≤ 150 := by
    unfold cutL
    rw [List.length_map, List.length_take]; omega
  have h2 : ∀ n ∈ cutL l, n.f1.length ≤ 30 := fun n hn => by
    unfold cutL at hn
    obtain ⟨m, -, rfl⟩ := List.mem_map.1 hn
    show (m.f1.take (mn (m.f1.length : Int) ((30 : Nat) : Int)).toNat).length ≤ 30
    rw [cut_len m.f1.length 30 m.f1 rfl]
    split <;> omega
  refine ⟨h1, h2, ?_⟩
  rw [links_len]
  have key : ∀ xs : List Nd, (∀ n ∈ xs, n.f1.length ≤ 30) → kidsum xs ≤ 30 * xs.length := by
    intro xs
    induction xs with
    | nil => intro _; exact Nat.zero_le _
    | cons n xs ih =>
      intro hx
      have i1 := ih (fun m hm => hx m (List.mem_cons_of_mem _ hm))
      have i2 := hx n (List.mem_cons_self ..)
      unfold kidsum at i1 ⊢
      rw [List.map_cons, List.sum_cons, List.length_cons]; omega
  have := key _ h2
  omega
theorem cut_fix (l : List Nd) : fixup_Fix.f (cutL l) = some (fixR (cutL l)) := by unfold fixup_Fix.f; rw [if_pos (cut_small l).2.2]
/-- what is fixed, in bounds -/
theorem fixed_small {l : List Nd} (h : PageOK l) (h2 : l.length ≤ 150) : (fixP l).length ≤ 600 ∧ ∀ n ∈ fixP l, n.f1.length ≤ 600 := by
  have hs := fix_st h
  have h1 := hs.pot
  refine ⟨by omega, fun n hn => ?_⟩
  obtain ⟨i, hi⟩ := List.getElem?_of_mem hn
  have h3 := sum_at (fun n => n.f1.length) hi
  have h4 := hs.sum
  unfold kidsum at h4
  omega
theorem fix_stands {l : List Nd} (h : PageOK l) : ∀ n ∈ fixP l, ∀ k ∈ n.f1, (0 ≤ k ∧ k < ((fixP l).length : Int)) ∧ mayB n.f0 (kindAt (fixP l) k) = true := fun n hn k hk => by
  have hs := fix_st h
  obtain ⟨i, hi⟩ := List.getElem?_of_mem hn
  have := hs.kid n hn k hk
  exact ⟨by omega, hs.done i n (List.getElem?_eq_some_iff.1 hi).1 hi k hk⟩
end Go.Proofs.Ytjhpkikgajgdmaa.K
