/- Layer 4: the laws' cut. -/
import Derived.Test.YtdmnaehgngpikaaTrB
import Derived.Test.YtdmnaehgngpikaaTrA
namespace Go.Proofs.Ytdmnaehgngpikaa.K
open Go.RowKit Go.Proofs.YtdmnaehgngpikaaW.PrintWords Go.Proofs.YtdmnaehgngpikaaW.PrintLast Go.Proofs.YtdmnaehgngpikaaW.PrintMore
set_option linter.unusedVariables false
set_option linter.unusedSimpArgs false
attribute [local go_sem] Oper.semAt_some
/-- rows that were copied read as the elements do -/
theorem c_of_raw {w : World} {A : Option Addr} {rows : List (List Value)} {xs : List Nd} (hl : rows.length = xs.length) (h : Kd.C (Kd.raw 34) w A rows.length rows) (hk : ∀ (j : Nat) (x : Nd) (c : List Value), xs[j]? = some x → rows[j]? = some c → k48.K w x c) : Kd.C k48 w A xs.length xs := by
  refine ⟨rfl, by have := h.2.1; omega, fun hp => ?_⟩
  obtain ⟨ad, hA, hc⟩ := h.2.2 (by omega)
  refine ⟨ad, hA, fun j p hj => ?_⟩
  have hlt := (List.getElem?_eq_some_iff.1 hj).1
  obtain ⟨c, hcj⟩ : ∃ c, rows[j]? = some c := ⟨_, List.getElem?_eq_getElem (by omega)⟩
  obtain ⟨cs, hcl, hK, hcell⟩ := hc j c hcj
  obtain ⟨rfl, -, -⟩ := hK
  exact ⟨cs, hcl, hk j p cs hj hcj, hcell⟩
end Go.Proofs.Ytdmnaehgngpikaa.K
