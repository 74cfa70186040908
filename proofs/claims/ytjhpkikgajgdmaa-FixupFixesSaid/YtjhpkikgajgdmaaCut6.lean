/- Layer 6: the laws' cut, in the print's form: its nodes are the caller's, their rows but cut. -/
import Derived.Test.YtjhpkikgajgdmaaTrU
namespace Go.Proofs.Ytjhpkikgajgdmaa.K
open Go.RowKit Go.Proofs.YtjhpkikgajgdmaaW.PrintWords Go.Proofs.YtjhpkikgajgdmaaW.PrintLast Go.Proofs.YtjhpkikgajgdmaaW.PrintMore
set_option linter.unusedVariables false
set_option linter.unusedSimpArgs false
def purflinglaw04_Cut.f (k : Nat) (l0 : List Nd) : Option (List Nd) := some (cutL l0)
theorem purflinglaw04_Cut.calls (k : Nat) (P0_ : Nat → Prop) (A0 : Option Addr) (c0 : Nat) (l0 : List Nd) (r : List Nd) (w : World) (hs0 : Kd.V k43 43 w w.heap.size (fun k_ => P0_ k_) (.slice A0 l0.length c0) l0) (h : purflinglaw04_Cut.f k l0 = some r) :
    Calls Try.prog 16 #[.slice A0 l0.length c0] w fun e w' => ∃ v0_ : Value, e = .returned (v0_) ∧ Kd.N k43 43 w' w.heap.size (fun k_ => (P0_ k_ ∨ w.heap.size ≤ k_)) v0_ r ∧ Below w.heap.size w w' := by
  obtain rfl : cutL l0 = r := Option.some.inj h
  obtain ⟨A, c, hv, hc, hF⟩ := hs0
  injection hv with h1 _ h3
  subst h1 h3
  have hC := Kd.F_now hF
  obtain ⟨CS, hCS⟩ := nodesAt_of hC
  refine (cut_rows A0 c0 l0 w hC.2.1 CS hCS hc).mono ?_
  rintro e w' ⟨v, rfl, hR, hB⟩
  have hrows := Kd.F_rows hF
  have hlen : (cutRows CS l0.length).length = (cutL l0).length := by unfold cutL cutRows; rw [List.length_map, List.length_map, List.length_range, List.length_take]
  refine ⟨v, rfl, ⟨fun k hk => .inr (Kd.R_base hR k hk), cutRows CS l0.length, hlen, Kd.raw_tight hR, fun q x cs hx hc => ?_⟩, hB⟩
  unfold cutL at hx
  unfold cutRows at hc
  rw [List.getElem?_map] at hx hc
  obtain ⟨y, hy, rfl⟩ := Option.map_eq_some_iff.1 hx
  obtain ⟨i, hi, rfl⟩ := Option.map_eq_some_iff.1 hc
  rw [List.getElem?_take] at hy
  have hq : i = q := by
    obtain ⟨h1, h2⟩ := List.getElem?_eq_some_iff.1 hi
    rw [List.getElem_range] at h2; exact h2.symm
  subst hq
  split at hy
  · obtain ⟨ad, hA, hcl⟩ := hrows.2.2 (by have := (List.getElem?_eq_some_iff.1 hy).1; omega)
    obtain ⟨cs, hl34, hFK, hcell⟩ := hcl i y hy
    obtain ⟨ad', hA', hl', -, hcells, -⟩ := hCS i y hy
    rw [hA] at hA'
    injection hA' with hA'
    subst hA'
    have hcs : cs = CS i := by
      apply List.ext_getElem?
      intro j
      by_cases hj : j < 34
      · have e1 := hcell j _ (List.getElem?_eq_getElem (by rw [hl34]; exact hj))
        have e2 := hcells j _ (List.getElem?_eq_getElem (by rw [hl']; exact hj))
        have e3 := e1.symm.trans e2
        rw [List.getElem?_eq_getElem (by rw [hl34]; exact hj), List.getElem?_eq_getElem (by rw [hl']; exact hj)]
        exact e3
      · rw [List.getElem?_eq_none (by rw [hl34]; show 34 ≤ j; omega), List.getElem?_eq_none (by rw [hl']; omega)]
    subst hcs
    intro W' hW
    refine cutV_K (hFK W' (fun k hk hlt => ?_))
    refine (hW k ⟨.inl hk, fun e => ?_⟩ (Nat.lt_of_lt_of_le hlt hB.size)).trans (hB.block k hlt)
    have := Kd.R_base hR k e.symm
    omega
  · cases hy
end Go.Proofs.Ytjhpkikgajgdmaa.K
