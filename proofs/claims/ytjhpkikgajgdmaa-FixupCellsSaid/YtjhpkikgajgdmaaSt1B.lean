/- Contracts of layer 3's size and made. -/
import Derived.Test.YtjhpkikgajgdmaaSt1
import Derived.LoopTactic
import Derived.Outline
import Derived.Handy
namespace Go.Proofs.Ytjhpkikgajgdmaa
open Go.RowKit

set_option maxHeartbeats 400000 in
theorem size_any (z : Sz) (w : World) :
    Calls Try.prog 48 #[.agg #[.int .i64 z.k, .int .i64 z.n]] w fun e w' => e = .returned (.agg #[.int .i64 (sizeC z).k, .int .i64 (sizeC z).n]) ∧ Below w.heap.size w w' := by
  obtain ⟨k, n⟩ := z
  dsimp only
  go_enter Try.func48, Try.ntmps48
  go_wp2
  all_goals go_returns
  · have h1 : k = 0 := by assumption
    exact ⟨by simp [sizeC, h1], by go_grown⟩
  · have h1 : ¬ k = 0 := by assumption
    have h2 : n < 0 := by assumption
    exact ⟨by simp [sizeC, h1]; omega, by go_grown⟩
  · have h1 : ¬ k = 0 := by assumption
    have h2 : 0 ≤ n := by assumption
    exact ⟨by simp [sizeC, h1]; omega, by go_grown⟩

theorem rmade_any (z : Sz) (w : World) :
    Calls Try.prog 56 #[.agg #[.int .i64 z.k, .int .i64 z.n]] w fun e w' => e = .returned (.agg #[.int .i64 (sizeC z).k, .int .i64 (sizeC z).n]) ∧ Below w.heap.size w w' := by
  obtain ⟨k, n⟩ := z
  dsimp only
  go_enter Try.func56, Try.ntmps56
  go_wp2
  all_goals go_returns
  all_goals (refine ⟨?_, by go_grown⟩)
  all_goals (simp_all [sizeC])
  all_goals omega

end Go.Proofs.Ytjhpkikgajgdmaa
