/- Layer 5, plain: FixupMore. -/
import Derived.Test.YtjhpkikgajgdmaaFxQ
import Derived.Test.YtjhpkikgajgdmaaK17
namespace Go.Proofs.Ytjhpkikgajgdmaa.K
open Go.RowKit Go.Proofs.YtjhpkikgajgdmaaW.PrintWords Go.Proofs.YtjhpkikgajgdmaaW.PrintLast Go.Proofs.YtjhpkikgajgdmaaW.PrintMore
set_option linter.unusedVariables false
set_option linter.unusedSimpArgs false

theorem kidsum_next {a : List Nd} {i : Nat} {n : Nd} (h : a[i]? = some n) : kidsum (a.take (i + 1)) = kidsum (a.take i) + n.f1.length := by
  unfold kidsum
  rw [List.take_add_one, h, List.map_append, List.sum_append]
  simp
theorem kidsum_take (a : List Nd) (i : Nat) : kidsum (a.take i) ≤ kidsum a := by
  unfold kidsum
  conv => rhs; rw [← List.take_append_drop i a, List.map_append, List.sum_append]
  omega
theorem more_l0 {a c : List Nd} (hlen : a.length ≤ 1000000) (h4 : a.length ≤ 4 * c.length) (hc : c.length ≤ 1000000) (hsum : kidsum a + 1 = a.length) : ∀ (d i : Nat), i + d = a.length → Ev (fun K => purflinglaw05_FixupMore.l0 K c true a (kidsum (a.take i) : Nat) (i : Int)) true
  | 0, i, hi => by
    refine (Ev.const true).up (fun k => ?_)
    rw [purflinglaw05_FixupMore.l0, if_neg (by omega), if_pos rfl, wrap64_in _ (by omega), wrap64_in _ (by omega), if_pos (by omega), List.take_of_length_le (by omega)]
    congr 1
    simp
    omega
  | d + 1, i, hi => by
    have hil : i < a.length := by omega
    have hn : a[i]? = some a[i] := List.getElem?_eq_getElem hil
    have e := kidsum_next hn
    have h1 := kidsum_take a (i + 1)
    refine (more_l0 hlen h4 hc hsum d (i + 1) (by omega)).up (fun k => ?_)
    rw [purflinglaw05_FixupMore.l0, if_pos (by omega), if_pos (by omega), rdNode hn, wrap64_in _ (by omega), wrap64_in _ (by omega), e]
    rfl
theorem pure_FixupMore {P : Prop} (l0 : List Nd) (_ : P) : ∃ k, purflinglaw05_FixupMore.f k l0 = some true := by
  have hs := cut_small l0
  by_cases q : (checkP (cutL l0)).2 = 0
  · have hok := (ok_iff _).1 q
    have hb := fixed_small hok hs.1
    have hst := fix_st hok
    obtain ⟨k0, hk0⟩ := more_l0 (a := fixP (cutL l0)) (c := cutL l0) (by omega) (by have := hst.pot; omega) (by omega) hst.sum _ 0 (Nat.zero_add _)
    refine ⟨k0, ?_⟩
    unfold purflinglaw05_FixupMore.f purflinglaw05_shown.f purflinglaw04_Cut.f
    rw [Option.bind_some, Option.bind_some, cut_fix, Option.bind_some]
    unfold fixR
    rw [if_pos q, if_pos rfl]
    exact hk0 k0 (Nat.le_refl _)
  · refine ⟨0, ?_⟩
    unfold purflinglaw05_FixupMore.f purflinglaw05_shown.f purflinglaw04_Cut.f
    rw [Option.bind_some, Option.bind_some, cut_fix, Option.bind_some]
    unfold fixR
    rw [if_neg q, if_neg q, if_pos rfl]
    rfl
end Go.Proofs.Ytjhpkikgajgdmaa.K
