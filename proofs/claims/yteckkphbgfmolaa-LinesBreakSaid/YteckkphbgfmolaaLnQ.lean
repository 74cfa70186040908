/- Layer 8: the reference's Right. -/
import Derived.Test.YteckkphbgfmolaaLnP
import Derived.Test.YteckkphbgfmolaaK4
namespace Go.Proofs.Yteckkphbgfmolaa.Pure
open Go.RowKit Go.Proofs.YteckkphbgfmolaaW.PrintWords Go.Proofs.YteckkphbgfmolaaW.PrintLast Go.Proofs.YteckkphbgfmolaaW.PrintMore Go.Proofs.Yteckkphbgfmolaa.K
set_option linter.unusedVariables false
set_option linter.unusedSimpArgs false

theorem length_f (x : Int) : purflingref08_length.f x = some (lengthB x) := by
  unfold purflingref08_length.f lengthB
  by_cases h : x ≥ 0
  · rw [if_pos h]; congr 1; simp only [show 0 ≤ x from h, true_and]
  · rw [if_neg h]; congr 1; rw [decide_eq_false (by omega)]
theorem rright_l0 (n : Nd) (hl : n.f3.length ≤ 10000) : ∀ (d j : Nat), j + d = n.f3.length → Ev (fun k => purflingref08_Right.l0 k (j : Int) (n.f0) (n.f1) (n.f2.f0.f0) (n.f2.f0.f1) (n.f2.f1.f0) (n.f2.f1.f1) (n.f2.f2.f0) (n.f2.f2.f1) (n.f2.f2.f2) (n.f2.f2.f3) (n.f2.f3.f0.f0) (n.f2.f3.f0.f1) (n.f2.f3.f0.f2) (n.f2.f3.f1.f0) (n.f2.f3.f1.f1) (n.f2.f3.f1.f2) (n.f2.f3.f2.f0) (n.f2.f3.f2.f1) (n.f2.f3.f2.f2) (n.f2.f3.f3.f0) (n.f2.f3.f3.f1) (n.f2.f3.f3.f2) (n.f2.f4) (n.f2.f5) (n.f2.f6) (n.f2.f7) (n.f2.f8) (n.f2.f9.f0) (n.f2.f9.f1) (n.f2.f10) (n.f2.f11) (n.f3) (n.f4) (n.f5)) ((n.f3.drop j).all lengthB)
  | 0, j, h => by
    rw [List.drop_of_length_le (by omega), List.all_nil]
    exact Ev.step (fun k => by rw [purflingref08_Right.l0]) (ev_neg (by omega) (ev_now rfl))
  | d + 1, j, h => by
    obtain ⟨x, hx, hm⟩ := at_some (xs := n.f3) (j := j) (by omega)
    rw [show n.f3.drop j = x :: n.f3.drop (j + 1) by
      obtain ⟨h1, h2⟩ := List.getElem?_eq_some_iff.1 hx; rw [← h2]; exact List.drop_eq_getElem_cons h1, List.all_cons]
    refine Ev.step (fun k => by rw [purflingref08_Right.l0]) (ev_pos (by omega) (ev_pos (by omega) ?_))
    rw [rd_at hx, length_f]
    simp only [Option.bind_some]
    cases hb : lengthB x with
    | false => simp only [Bool.false_eq_true, if_false, Bool.false_and]; exact ev_now rfl
    | true =>
      simp only [if_true, Bool.true_and]
      rw [up_ok (by omega)]
      exact rright_l0 n hl d (j + 1) (by omega)
theorem rright_j0 (n : Nd) (hl : n.f3.length ≤ 10000) (b : Bool) : Ev (fun k => purflingref08_Right.j0 k b (n.f0) (n.f1) (n.f2.f0.f0) (n.f2.f0.f1) (n.f2.f1.f0) (n.f2.f1.f1) (n.f2.f2.f0) (n.f2.f2.f1) (n.f2.f2.f2) (n.f2.f2.f3) (n.f2.f3.f0.f0) (n.f2.f3.f0.f1) (n.f2.f3.f0.f2) (n.f2.f3.f1.f0) (n.f2.f3.f1.f1) (n.f2.f3.f1.f2) (n.f2.f3.f2.f0) (n.f2.f3.f2.f1) (n.f2.f3.f2.f2) (n.f2.f3.f3.f0) (n.f2.f3.f3.f1) (n.f2.f3.f3.f2) (n.f2.f4) (n.f2.f5) (n.f2.f6) (n.f2.f7) (n.f2.f8) (n.f2.f9.f0) (n.f2.f9.f1) (n.f2.f10) (n.f2.f11) (n.f3) (n.f4) (n.f5)) (!b && n.f3.all lengthB) := by
  refine Ev.step (fun k => by rw [purflingref08_Right.j0]) ?_
  cases b with
  | true => exact ev_pos rfl (ev_now rfl)
  | false =>
    refine ev_neg (by decide) ?_
    have := rright_l0 n hl n.f3.length 0 (by omega)
    exact this
theorem rright_jt (n : Nd) : Ev (fun k => purflingref08_Right.j0 k true (n.f0) (n.f1) (n.f2.f0.f0) (n.f2.f0.f1) (n.f2.f1.f0) (n.f2.f1.f1) (n.f2.f2.f0) (n.f2.f2.f1) (n.f2.f2.f2) (n.f2.f2.f3) (n.f2.f3.f0.f0) (n.f2.f3.f0.f1) (n.f2.f3.f0.f2) (n.f2.f3.f1.f0) (n.f2.f3.f1.f1) (n.f2.f3.f1.f2) (n.f2.f3.f2.f0) (n.f2.f3.f2.f1) (n.f2.f3.f2.f2) (n.f2.f3.f3.f0) (n.f2.f3.f3.f1) (n.f2.f3.f3.f2) (n.f2.f4) (n.f2.f5) (n.f2.f6) (n.f2.f7) (n.f2.f8) (n.f2.f9.f0) (n.f2.f9.f1) (n.f2.f10) (n.f2.f11) (n.f3) (n.f4) (n.f5)) false := by
  refine Ev.step (fun k => by rw [purflingref08_Right.j0]) ?_
  exact ev_pos rfl (ev_now rfl)
theorem rright_ev (n : Nd) : Ev (fun k => purflingref08_Right.f k (n.f0) (n.f1) (n.f2.f0.f0) (n.f2.f0.f1) (n.f2.f1.f0) (n.f2.f1.f1) (n.f2.f2.f0) (n.f2.f2.f1) (n.f2.f2.f2) (n.f2.f2.f3) (n.f2.f3.f0.f0) (n.f2.f3.f0.f1) (n.f2.f3.f0.f2) (n.f2.f3.f1.f0) (n.f2.f3.f1.f1) (n.f2.f3.f1.f2) (n.f2.f3.f2.f0) (n.f2.f3.f2.f1) (n.f2.f3.f2.f2) (n.f2.f3.f3.f0) (n.f2.f3.f3.f1) (n.f2.f3.f3.f2) (n.f2.f4) (n.f2.f5) (n.f2.f6) (n.f2.f7) (n.f2.f8) (n.f2.f9.f0) (n.f2.f9.f1) (n.f2.f10) (n.f2.f11) (n.f3) (n.f4) (n.f5)) (rightB n) := by
  unfold purflingref08_Right.f rightB
  by_cases h0 : n.f0 = 1
  · by_cases hl : n.f3.length ≤ 10000
    · refine ev_pos h0 (ev_neg (by omega) ?_)
      rw [length_f, length_f, decide_eq_true h0, decide_eq_true (show (n.f3.length : Int) ≤ 10000 by omega)]
      simp only [Option.bind_some, Bool.true_and, List.all_cons, List.all_nil, Bool.and_true]
      cases h4 : lengthB n.f4 with
      | false => exact ev_neg (by decide) (ev_eq (rright_jt n) (by simp))
      | true => exact ev_pos rfl (ev_eq (rright_j0 n hl _) (by simp))
    · refine ev_pos h0 (ev_pos (by omega) (ev_eq (rright_jt n) ?_))
      rw [decide_eq_false (show ¬ (n.f3.length : Int) ≤ 10000 by omega)]; simp
  · refine ev_neg h0 (ev_eq (rright_jt n) ?_)
    rw [decide_eq_false h0]; rfl
end Go.Proofs.Yteckkphbgfmolaa.Pure
namespace Go.Proofs.Yteckkphbgfmolaa.K
open Go.RowKit Go.Proofs.YteckkphbgfmolaaW.PrintWords Go.Proofs.YteckkphbgfmolaaW.PrintLast Go.Proofs.YteckkphbgfmolaaW.PrintMore Go.Proofs.Yteckkphbgfmolaa.Pure
set_option linter.unusedVariables false
set_option linter.unusedSimpArgs false
theorem rright_any (A1 : Option Addr) (c1 : Nat) (A3 : Option Addr) (c3 : Nat) (n : Nd) (w : World) (hr1 : Kd.C (Kd.int .i64) w A1 n.f1.length n.f1) (hc1 : n.f1.length ≤ c1) (hr3 : Kd.C (Kd.int .i64) w A3 n.f3.length n.f3) (hc3 : n.f3.length ≤ c3) :
    Calls Try.prog 14 #[.agg (nodeC A1 c1 A3 c3 n)] w fun e w' => e = .returned (.bool (rightB n)) ∧ Below w.heap.size w w' := by
  obtain ⟨k, hk⟩ := (rright_ev n).rounds
  exact purflingref08_Right.calls k (n.f0) A1 c1 (n.f1) (n.f2.f0.f0) (n.f2.f0.f1) (n.f2.f1.f0) (n.f2.f1.f1) (n.f2.f2.f0) (n.f2.f2.f1) (n.f2.f2.f2) (n.f2.f2.f3) (n.f2.f3.f0.f0) (n.f2.f3.f0.f1) (n.f2.f3.f0.f2) (n.f2.f3.f1.f0) (n.f2.f3.f1.f1) (n.f2.f3.f1.f2) (n.f2.f3.f2.f0) (n.f2.f3.f2.f1) (n.f2.f3.f2.f2) (n.f2.f3.f3.f0) (n.f2.f3.f3.f1) (n.f2.f3.f3.f2) (n.f2.f4) (n.f2.f5) (n.f2.f6) (n.f2.f7) (n.f2.f8) (n.f2.f9.f0) (n.f2.f9.f1) (n.f2.f10) (n.f2.f11) A3 c3 (n.f3) (n.f4) (n.f5) _ w hr1 hc1 hr3 hc3 hk
end Go.Proofs.Yteckkphbgfmolaa.K
