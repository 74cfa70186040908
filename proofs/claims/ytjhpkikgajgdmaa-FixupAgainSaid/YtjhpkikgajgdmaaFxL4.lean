/- Layer 5, plain: FixupAgain. -/
import Derived.Test.YtjhpkikgajgdmaaFxN
import Derived.Test.YtjhpkikgajgdmaaFxE
import Derived.Test.YtjhpkikgajgdmaaK19
namespace Go.Proofs.Ytjhpkikgajgdmaa.K
open Go.RowKit Go.Proofs.YtjhpkikgajgdmaaW.PrintWords Go.Proofs.YtjhpkikgajgdmaaW.PrintLast Go.Proofs.YtjhpkikgajgdmaaW.PrintMore
set_option linter.unusedVariables false
set_option linter.unusedSimpArgs false

theorem again_j0 {l : List Nd} (h : PageOK l) (hs : l.length ≤ 150) (k : Nat) : purflinglaw05_FixupAgain.j0 (k + 1) true (fixP l) false = some true := by
  have hb := fixed_small h hs
  have hst := fix_st h
  have hl : (linksOf (fixP l)).length ≤ 1000000000 := by
    rw [links_len]
    have := hst.sum
    omega
  rw [purflinglaw05_FixupAgain.j0, if_neg (by decide)]
  unfold fixup_Fix.f fixup_Fixed.f
  rw [if_pos hl, if_pos hl, Option.bind_some, Option.bind_some]
  have hff := fix_fixed h
  have hfa : fixP (fixP l) = fixP l := by rw [fixed_len hff, fix_comp h]
  have hsame : sameB (fixP l) (fixP l) = true := sameB_refl (fun n hn => by have := hb.2 n hn; omega)
  rcases fix_check h (by omega) with q | q
  · have e1 : fixR (fixP l) = (fixP l, 0) := by unfold fixR; rw [if_pos q, hfa]
    have e2 : fixedR (fixP l) = (true, 0) := by unfold fixedR; rw [if_pos q, hff]
    rw [e1, e2]
    unfold purflingref04_Same.f
    rw [if_pos hsame]
    simp
  · have e1 : fixR (fixP l) = ([], 42) := by unfold fixR; rw [if_neg (by rw [q]; decide), q]
    have e2 : fixedR (fixP l) = (false, 42) := by unfold fixedR; rw [if_neg (by rw [q]; decide), q]
    rw [e1, e2]
    simp
theorem pure_FixupAgain {P : Prop} (l0 : List Nd) (_ : P) : ∃ k, purflinglaw05_FixupAgain.f k l0 = some true := by
  have hs := cut_small l0
  refine ⟨1, ?_⟩
  unfold purflinglaw05_FixupAgain.f purflinglaw05_shown.f purflinglaw04_Cut.f
  rw [Option.bind_some, Option.bind_some, cut_fix, Option.bind_some]
  by_cases q : (checkP (cutL l0)).2 = 0
  · have hok := (ok_iff _).1 q
    have hj := again_j0 hok hs.1 0
    unfold fixR fixup_Fixed.f
    rw [if_pos q, if_pos hs.2.2, if_pos rfl, Option.bind_some]
    unfold fixedR
    rw [if_pos q, if_pos rfl]
    cases hf : fixedB (cutL l0)
    · rw [if_neg (by decide)]
      exact hj
    · rw [if_pos rfl]
      have e : (((fixP (cutL l0)).length : Int) != ((cutL l0).length : Int)) = false := by
        rw [fixed_len hf, compP_len]; simp
      rw [e]
      exact hj
  · unfold fixR
    rw [if_neg q, if_neg q]
end Go.Proofs.Ytjhpkikgajgdmaa.K
