/- Layer 7, plain: GridLays. -/
import Derived.Test.YtfoocmmjefdojaaGp
import Derived.Test.YtfoocmmjefdojaaK9
import Derived.Test.YtfoocmmjefdojaaOpens
import Derived.KernelRfl
namespace Go.Proofs.Ytfoocmmjefdojaa.Pure
set_option linter.unusedVariables false
set_option linter.unusedSimpArgs false
open Go.RowKit Go.Proofs.Ytfoocmmjefdojaa.K Go.Proofs.YtfoocmmjefdojaaW.PrintWords Go.Proofs.YtfoocmmjefdojaaW.PrintLast Go.Proofs.YtfoocmmjefdojaaW.PrintMore

theorem shown_ev : Ev (fun k => purflinglaw07_shown.f k) true := by
  have h : purflinglaw07_shown.f 10 = some true := by decide +kernel
  exact Ev.of purflinglaw07_shown.mono h
theorem beq_refl_int (a : Int) : (a == a) = true := by simp
theorem GridLays (l0 : List (List Sp)) (l1 : List Int) (g0 : ∀ x ∈ l0, ∀ y ∈ x, good_34 y) (g1 : ∀ x ∈ l1, (Lit.int .i64 x).wf = true) : ∃ k, purflinglaw07_GridLays.f k l0 l1 = some true := by
  apply Ev.rounds
  unfold purflinglaw07_GridLays.f
  obtain ⟨c, hc, hcl, hcr⟩ := cut_ev l0
  have h0 := mn_le l1.length 21 (by decide)
  have hcells : (cellsFrom 0 c).length ≤ 100000 := by
    have h1 := cells_len 10 c 0 hcr
    have h2 : c.length * 10 ≤ 20 * 10 := Nat.mul_le_mul_right _ hcl
    omega
  refine ev_bind shown_ev (ev_bind hc (ev_pos h0.1 (ev_pos h0.2.1 ?_)))
  obtain ⟨t, ht, hl⟩ := lay_ev c (l1.take (mn (l1.length : Int) 21).toNat) (by omega) (fun row hr => by have := hcr row hr; omega) hcells
  have hR := right_ev c (l1.take (mn (l1.length : Int) 21).toNat) (by omega) (fun row hr => by have := hcr row hr; omega)
  have htl : t.1.length ≤ 1000000 := by have := lay_len ht; omega
  refine ev_bind (ev_const ht) (ev_bind hl (ev_pos rfl ?_))
  refine ev_bind (ev_const (show grid_Right.f c (l1.take (mn (l1.length : Int) 21).toNat) = some _ from rfl)) (ev_bind hR (ev_pos (by simp) (ev_bind (same_ev t.1 htl) (ev_pos rfl (ev_pos rfl (ev_now ?_))))))
  exact beq_refl_int _
end Go.Proofs.Ytfoocmmjefdojaa.Pure
