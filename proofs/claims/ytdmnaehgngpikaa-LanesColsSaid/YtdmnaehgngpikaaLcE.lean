/- Layer 6, plain: the reference's check. -/
import Derived.Test.YtdmnaehgngpikaaK16
import Derived.Test.YtdmnaehgngpikaaLc2
import Derived.Test.YtdmnaehgngpikaaTrZ
namespace Go.Proofs.Ytdmnaehgngpikaa.K
open Go.RowKit Go.Proofs.YtdmnaehgngpikaaW.PrintWords Go.Proofs.YtdmnaehgngpikaaW.PrintLast Go.Proofs.YtdmnaehgngpikaaW.PrintMore
set_option linter.unusedVariables false
set_option linter.unusedSimpArgs false
theorem rcheck6_ev (l : List Nd) (a : Int) : Ev (fun K => purflingref06_Check.f K (cutL l) a) (checkL (cutL l) a) := by
  obtain ⟨k0, h⟩ := rcheck_ev (cutL l) (by have := cut_len150 l; omega) (fun n hn => by have := cut_kids l n hn; omega) (cut_links l)
  refine ⟨k0, fun k hk => ?_⟩
  dsimp only
  unfold purflingref06_Check.f checkL
  have h' := h k hk
  dsimp only at h'
  rw [h', Option.bind_some]
  by_cases q : (checkP (cutL l)).2 = 0
  · rw [if_pos q, if_pos q]
    by_cases q1 : a < 0
    · rw [if_pos q1, if_pos q1]
    · rw [if_neg q1, if_neg q1]
      by_cases q2 : a ≥ ((cutL l).length : Int)
      · rw [if_pos q2, if_pos q2]
      · rw [if_neg q2, if_neg q2, if_pos (by omega), if_pos (by omega), kind_eq]
        split <;> rfl
  · rw [if_neg q, if_neg q]
def kp (l : List Nd) (c : Int) (k : Int) : Bool := ([c] : List Int).contains (kindOf l k)
theorem kp_iff (l : List Nd) (c k : Int) : kp l c k = true ↔ kindOf l k = c := by unfold kp; simp
end Go.Proofs.Ytdmnaehgngpikaa.K
