-- PRINTED by print.py (a twelfth state) out of the translation. Not trusted: Lean checks it.
import Derived.Test.YtfoocmmjefdojaaK0
namespace Go.Proofs.Ytfoocmmjefdojaa.K
open Go.RowKit Go.Proofs.YtfoocmmjefdojaaW.PrintWords Go.Proofs.YtfoocmmjefdojaaW.PrintLast Go.Proofs.YtfoocmmjefdojaaW.PrintMore
attribute [local go_sem] max2_int min2_int max_two min_two max_three min_three max_four min_four   -- for this text's walks alone
set_option linter.unusedVariables false
set_option linter.unusedSimpArgs false

theorem eqA45 (d : Nat) (w : World) (x0 y0 : Int) (x1 y1 : Int) :
    (Op.equalIn (d + 2) 45 (.agg #[.int .i64 x0, .int .i64 x1]) (.agg #[.int .i64 y0, .int .i64 y1])).run Try.prog w = .ok (x0 == y0 && (x1 == y1)) w := by
  unfold Op.equalIn
  have hs : ∀ w, (Go.sizeOf 3).run Try.prog w = .ok 1 w := fun w => by kernel_rfl
  obtain ⟨b0, hb0⟩ : ∃ b, b = (x0 == y0) := ⟨_, rfl⟩
  have e0 : (Op.equalIn (d + 1) 3 (.int .i64 x0) (.int .i64 y0)).run Try.prog w = .ok b0 w := by rw [hb0]; go_simp
  have p0 : (Go.part 3 #[.int .i64 x0, .int .i64 x1] 0).run Try.prog w = .ok (.int .i64 x0) w := by first | (go_simp; done) | (go_simp; rfl)
  have q0 : (Go.part 3 #[.int .i64 y0, .int .i64 y1] 0).run Try.prog w = .ok (.int .i64 y0) w := by first | (go_simp; done) | (go_simp; rfl)
  obtain ⟨b1, hb1⟩ : ∃ b, b = (x1 == y1) := ⟨_, rfl⟩
  have e1 : (Op.equalIn (d + 1) 3 (.int .i64 x1) (.int .i64 y1)).run Try.prog w = .ok b1 w := by rw [hb1]; go_simp
  have p1 : (Go.part 3 #[.int .i64 x0, .int .i64 x1] 1).run Try.prog w = .ok (.int .i64 x1) w := by first | (go_simp; done) | (go_simp; rfl)
  have q1 : (Go.part 3 #[.int .i64 y0, .int .i64 y1] 1).run Try.prog w = .ok (.int .i64 y1) w := by first | (go_simp; done) | (go_simp; rfl)
  rw [show (x0 == y0 && (x1 == y1)) = (b0 && (b1)) by rw [hb0, hb1]]
  clear hb0 hb1
  cases b0 <;> cases b1 <;> simp [Sem.run_bind, run_underlying Try.underlying45, Result.andThen, hs, show List.range' 0 2 = [0, 1] from rfl, Sem.run_pure, e0, p0, q0, e1, p1, q1]
end Go.Proofs.Ytfoocmmjefdojaa.K
