/- Layer 6: Collect, check, Captions. -/
import Derived.Test.YtdmnaehgngpikaaLaA
import Derived.Test.YtdmnaehgngpikaaK4
namespace Go.Proofs.Ytdmnaehgngpikaa.K
open Go.RowKit Go.Proofs.YtdmnaehgngpikaaW.PrintWords Go.Proofs.YtdmnaehgngpikaaW.PrintLast Go.Proofs.YtdmnaehgngpikaaW.PrintMore
set_option linter.unusedVariables false
set_option linter.unusedSimpArgs false
attribute [local go_sem] Oper.semAt_some
end Go.Proofs.Ytdmnaehgngpikaa.K
namespace Go.Proofs.Ytdmnaehgngpikaa.K
open Go.RowKit Go.Proofs.YtdmnaehgngpikaaW.PrintWords Go.Proofs.YtdmnaehgngpikaaW.PrintLast Go.Proofs.YtdmnaehgngpikaaW.PrintMore
set_option linter.unusedVariables false
set_option linter.unusedSimpArgs false
attribute [local go_sem] Oper.semAt_some
/-- what is wrong with a page and a place -/
def checkL (l : List Nd) (a : Int) : Int := if (checkP l).2 = 0 then (if a < 0 then 2 else if a ≥ (l.length : Int) then 2 else if kindOf l a = 2 then 0 else 2) else (checkP l).2
theorem lcheck_any (l : List Nd) (A : Option Addr) (c : Nat) (w : World) (hNC : Kd.C k48 w A l.length l) (hc : l.length ≤ c) (hl : (linksOf l).length ≤ 1000000000) (a : Int) :
    Calls Try.prog 23 #[.slice A l.length c, .int .i64 a] w fun e w' => e = .returned (.int .i64 (checkL l a)) ∧ Below w.heap.size w w' := by
  refine lanes_check.calls A c l a _ w hNC hc ?_
  unfold lanes_check.f tree_Check.f checkL kindOf
  rw [if_pos hl, Option.bind_some]
  by_cases q : (checkP l).2 = 0
  · rw [if_pos q, if_pos q]
    by_cases q1 : a < 0
    · rw [if_pos q1, if_pos q1]
    · rw [if_neg q1, if_neg q1]
      by_cases q2 : a ≥ (l.length : Int)
      · rw [if_pos q2, if_pos q2]
      · rw [if_neg q2, if_neg q2, if_pos (by omega), if_pos (by omega)]
        split <;> rfl
  · rw [if_neg q, if_neg q]
theorem checkL_ok {l : List Nd} {a : Int} (h : checkL l a = 0) : PageOK l ∧ ∃ n : Nat, a = n ∧ n < l.length ∧ kindOf l a = 2 := by
  unfold checkL at h
  by_cases q : (checkP l).2 = 0
  · rw [if_pos q] at h
    by_cases q1 : a < 0
    · rw [if_pos q1] at h; cases h
    · rw [if_neg q1] at h
      by_cases q2 : a ≥ (l.length : Int)
      · rw [if_pos q2] at h; cases h
      · rw [if_neg q2] at h
        by_cases q3 : kindOf l a = 2
        · obtain ⟨n, rfl⟩ := Int.eq_ofNat_of_zero_le (by omega : 0 ≤ a)
          exact ⟨(ok_iff l).1 q, n, rfl, by omega, q3⟩
        · rw [if_neg q3] at h; cases h
  · rw [if_neg q] at h; exact absurd h q
end Go.Proofs.Ytdmnaehgngpikaa.K
