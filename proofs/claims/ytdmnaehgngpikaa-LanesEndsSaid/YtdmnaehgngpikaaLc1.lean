/- Layer 6, plain law: where rows' runs end. -/
import Derived.Test.YtdmnaehgngpikaaK23
import Derived.Test.YtdmnaehgngpikaaLb1
import Derived.Test.YtdmnaehgngpikaaTrI
import Derived.Test.YtdmnaehgngpikaaK5
namespace Go.Proofs.Ytdmnaehgngpikaa.K
open Go.RowKit Go.Proofs.YtdmnaehgngpikaaW.PrintWords Go.Proofs.YtdmnaehgngpikaaW.PrintLast Go.Proofs.YtdmnaehgngpikaaW.PrintMore
set_option linter.unusedVariables false
set_option linter.unusedSimpArgs false
theorem mn_take {α : Type} (l : List α) (c : Nat) : (0 ≤ mn (l.length : Int) (c : Int)) ∧ mn (l.length : Int) (c : Int) ≤ (l.length : Int) ∧ (l.take (mn (l.length : Int) (c : Int)).toNat).length ≤ c := by
  unfold mn
  rw [List.length_take]
  split <;> omega
theorem rd_at {xs : List Int} {i : Nat} (h : i < xs.length) : rd xs (i : Int) = xs[i] := by unfold rd; rw [Int.toNat_natCast, List.getD_eq_getElem?_getD, List.getElem?_eq_getElem h]; rfl
theorem outN_at (rows : List S35) {i : Nat} (h : i < rows.length) : rd (outN rows i) (i : Int) = endN rows i := by
  unfold rd outN
  rw [Int.toNat_natCast, List.getD_eq_getElem?_getD, List.getElem?_append_right (by simp), List.length_replicate, Nat.sub_self, ends_step h, endN_step h]
  rfl
theorem rends_l0 (rows : List S35) (hn : rows.length < 1000000000) : ∀ (i k : Nat), i ≤ rows.length → i < k → purflingref06_Ends.l0 k rows (outN rows i) ((i : Int) - 1) = some (endsL 0 rows)
  | 0, k + 1, h, _ => by
    unfold purflingref06_Ends.l0
    rw [if_neg (by omega)]
    unfold outN
    simp
  | i + 1, k + 1, h, hk => by
    unfold purflingref06_Ends.l0
    have hl := outN_len rows h
    rw [show (((i + 1 : Nat) : Int) - 1) = (i : Int) by omega, if_pos (by omega), if_pos (by omega), if_pos (by rw [hl]; omega), Option.bind_some, wrap_up (by omega), Int.toNat_natCast]
    have hw : wrap64 ((i : Int) - 1) = (i : Int) - 1 := by unfold wrap64; omega
    rw [hw]
    have hs := outN_step (rows := rows) (i := i) (by omega)
    have he := endN_step (rows := rows) (i := i) (by omega)
    by_cases q : i + 1 < rows.length
    · rw [if_pos (by omega), if_pos (by omega), if_pos (by omega)]
      have hr : rd ((outN rows (i + 1)).set i (((i + 1 : Nat) : Int))) ((i + 1 : Nat) : Int) = endN rows (i + 1) := by
        rw [← outN_at rows q]
        unfold rd
        rw [Int.toNat_natCast, List.getD_eq_getElem?_getD, List.getD_eq_getElem?_getD, List.getElem?_set_ne (by omega)]
      by_cases e : (rd_T35 rows ((i + 1 : Nat) : Int)).f1 = (rd_T35 rows (i : Int)).f1
      · rw [if_pos e, if_pos (by rw [hl]; omega), hr, List.set_set]
        rw [if_neg (fun h => h.2 e)] at he
        rw [← he, hs]
        exact rends_l0 rows hn i k (by omega) (by omega)
      · rw [if_neg e]
        rw [if_pos ⟨q, e⟩] at he
        rw [← he, hs]
        exact rends_l0 rows hn i k (by omega) (by omega)
    · rw [if_neg (by omega)]
      rw [if_neg (fun h => q h.1)] at he
      have hlast : endN rows (i + 1) = ((i + 1 : Nat) : Int) := by
        unfold endN
        rw [List.drop_eq_nil_of_le (by omega)]
        show (rows.length : Int) = _
        omega
      rw [← hlast, ← he, hs]
      exact rends_l0 rows hn i k (by omega) (by omega)
theorem rends_f (rows : List S35) (hn : rows.length < 1000000000) (k : Nat) (hk : rows.length < k) : purflingref06_Ends.f k rows = some (endsL 0 rows) := by
  unfold purflingref06_Ends.f
  rw [if_pos (by omega), if_pos (by omega), Int.toNat_natCast, show wrap64 ((rows.length : Int) - 1) = (rows.length : Int) - 1 by unfold wrap64; omega]
  have h := rends_l0 rows hn rows.length k (Nat.le_refl _) hk
  have ho : outN rows rows.length = List.replicate rows.length 0 := by unfold outN; rw [List.drop_length]; simp [endsL]
  rwa [ho] at h
theorem ints_fk (l : List Int) (hl : l.length < 1000000000) (k : Nat) (hk : l.length < k) : purflingref04_Ints.f k l l = some true := by
  unfold purflingref04_Ints.f
  rw [if_pos rfl]
  exact ints_l0 l hl l.length 0 _ (by omega) (by omega)
theorem pure_LanesEnds {P : Prop} (l0 : List S35) (_ : P) : ∃ k, purflinglaw06_LanesEnds.f k l0 = some true := by
  obtain ⟨h1, h2, h3⟩ : (0 ≤ mn (l0.length : Int) 300) ∧ mn (l0.length : Int) 300 ≤ (l0.length : Int) ∧ (l0.take (mn (l0.length : Int) 300).toNat).length ≤ 300 := mn_take l0 300
  obtain ⟨m, hm⟩ : ∃ m, m = l0.take (mn (l0.length : Int) 300).toNat := ⟨_, rfl⟩
  refine ⟨1000, ?_⟩
  unfold purflinglaw06_LanesEnds.f purflinglaw06_shown.f
  rw [Option.bind_some, if_pos h1, if_pos h2, Option.bind_some, if_pos rfl]
  have h3' : (l0.take (mn (l0.length : Int) 300).toNat).length ≤ 300 := h3
  rw [← hm] at h3' ⊢
  unfold lanes_Ends.f
  rw [if_pos (by omega), Option.bind_some, rends_f m (by omega) _ (by omega), Option.bind_some, ints_fk _ (by rw [endsL_len]; omega) _ (by rw [endsL_len]; omega)]
  rfl
end Go.Proofs.Ytdmnaehgngpikaa.K
