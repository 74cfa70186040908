/- Equality of rows of plain cells. -/
import Derived.Test.YtjhpkikgajgdmaaProg
import Derived.Test.YtjhpkikgajgdmaaDefs
import Derived.Outline
import Derived.Handy
import Derived.BigQuiet
import Derived.WalkKit
import Derived.DeepKeys
namespace Go.Proofs.Ytjhpkikgajgdmaa
open Go.RowKit
set_option linter.unusedVariables false
set_option linter.unusedSimpArgs false

theorem equal_refl {P : Program} {t : TypeId} {cs : Array Value} {L : List Lit} (m D : Nat) (hm : m ≤ 10000) (hk : P.keyTypeAt m t = true) (hf : (Value.agg cs).formed P t = true) (hL : P.keyLits D t cs.toList = some L) (w : World) :
    (Op.equal t (.agg cs) (.agg cs)).run P w = .ok true w := by
  obtain ⟨r, hr, hi⟩ := run_equalIn_deep (10000 - m) m t hk w D D (.agg cs) (.agg cs) L L hf hf hL hL
  rw [hi.2 rfl] at hr
  unfold Op.equal
  rw [show Op.maxDepth = 10000 - m + m by unfold Op.maxDepth; omega]
  exact hr

theorem bin_refl {P : Program} {t : TypeId} {cs : Array Value} {L : List Lit} (m D : Nat) (hm : m ≤ 10000) (hk : P.keyTypeAt m t = true) (hf : (Value.agg cs).formed P t = true) (hL : P.keyLits D t cs.toList = some L) (w : World) :
    (binOp .eql t (.agg cs) (.agg cs)).run P w = .ok (.bool true) w := by
  unfold binOp
  simp [Sem.run_bind, equal_refl m D hm hk hf hL w]

theorem int_refl {P : Program} {d : Nat} {t : TypeId} {k k' : IntKind} {a : Int} (w : World) (h : P.underlying t = some (.int k')) : (Op.equalIn (d + 1) t (.int k a) (.int k a)).run P w = .ok true w := by rw [run_equalIn_int w d t k k' a a h]; simp
theorem four_refl (a b c d : Int) (w : World) : (binOp .eql 33 (.agg #[.int .i64 a, .int .i64 b, .int .i64 c, .int .i64 d]) (.agg #[.int .i64 a, .int .i64 b, .int .i64 c, .int .i64 d])).run Try.prog w = .ok (.bool true) w := by
  unfold binOp Op.equal
  simp only [Sem.run_bind]
  have hi : ∃ i, Try.prog.info? 2 = some i := info_of_underlying Try.underlying2
  obtain ⟨i, hi⟩ := hi
  rw [show Op.maxDepth = 9998 + 1 + 1 from rfl, run_equalIn_array w (9998 + 1) _ _ Try.underlying33 hi]
  rw [show List.range 4 = [0, 1, 2, 3] from rfl]
  have p0 : ∀ w, (part 2 #[.int .i64 a, .int .i64 b, .int .i64 c, .int .i64 d] (0 * Try.prog.cellsOf 2)).run Try.prog w = .ok (.int .i64 a) w := fun w => by kernel_rfl
  have p1 : ∀ w, (part 2 #[.int .i64 a, .int .i64 b, .int .i64 c, .int .i64 d] (1 * Try.prog.cellsOf 2)).run Try.prog w = .ok (.int .i64 b) w := fun w => by kernel_rfl
  have p2 : ∀ w, (part 2 #[.int .i64 a, .int .i64 b, .int .i64 c, .int .i64 d] (2 * Try.prog.cellsOf 2)).run Try.prog w = .ok (.int .i64 c) w := fun w => by kernel_rfl
  have p3 : ∀ w, (part 2 #[.int .i64 a, .int .i64 b, .int .i64 c, .int .i64 d] (3 * Try.prog.cellsOf 2)).run Try.prog w = .ok (.int .i64 d) w := fun w => by kernel_rfl
  have q : ∀ a w, (Op.equalIn (9998 + 1) 2 (.int .i64 a) (.int .i64 a)).run Try.prog w = .ok true w := fun a w => int_refl w Try.underlying2
  simp only [Op.eqItems, Sem.run_bind, p0, p1, p2, p3, q, Result.andThen_ok, Bool.not_true, Bool.false_eq_true, if_false, if_true, Sem.run_pure]
end Go.Proofs.Ytjhpkikgajgdmaa
