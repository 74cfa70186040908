/- Layer 3: a style equals itself. -/
import Derived.Test.YtjhpkikgajgdmaaProg
import Derived.Test.YtjhpkikgajgdmaaDefs
import Derived.Test.YtjhpkikgajgdmaaStE
import Derived.WalkKit
import Derived.DeepKeys
namespace Go.Proofs.Ytjhpkikgajgdmaa
open Go.RowKit
set_option linter.unusedVariables false
set_option linter.unusedSimpArgs false

/-- v of type t equals itself -/
def EqSelf (P : Program) (d : Nat) (t : TypeId) (v : Value) : Prop := ∀ w, (Op.equalIn d t v v).run P w = .ok true w
def PartIs (P : Program) (t : TypeId) (xs : Array Value) (off : Nat) (v : Value) : Prop := ∀ w, (part t xs off).run P w = .ok v w

theorem eqFields_refl {P : Program} (d : Nat) (xs : Array Value) : ∀ (fs : List Field), (∀ f ∈ fs, ∃ v, PartIs P f.type xs f.offset v ∧ EqSelf P d f.type v) → ∀ w, (Op.eqFields d xs xs fs).run P w = .ok true w
  | [], _, w => by simp [Op.eqFields]
  | f :: fs, h, w => by
    obtain ⟨v, hp, he⟩ := h f (by simp)
    have ih := eqFields_refl d xs fs (fun g hg => h g (by simp [hg]))
    by_cases hn : f.name = "_"
    · simp [Op.eqFields, hn, ih w]
    · simp only [Op.eqFields, hn, ne_eq, not_false_eq_true, if_true, Sem.run_bind, hp w, he w, Result.andThen_ok, Bool.not_true, Bool.false_eq_true, if_false, ih w]

theorem eqItems_refl {P : Program} (d : Nat) (e : TypeId) (xs : Array Value) : ∀ (is : List Nat), (∀ i ∈ is, ∃ v, PartIs P e xs (i * P.cellsOf e) v ∧ EqSelf P d e v) → ∀ w, (Op.eqItems d e (P.cellsOf e) xs xs is).run P w = .ok true w
  | [], _, w => by simp [Op.eqItems]
  | i :: is, h, w => by
    obtain ⟨v, hp, he⟩ := h i (by simp)
    have ih := eqItems_refl d e xs is (fun g hg => h g (by simp [hg]))
    simp only [Op.eqItems, Sem.run_bind, hp w, he w, Result.andThen_ok, Bool.not_true, Bool.false_eq_true, if_false, ih w]

theorem eqSelf_struct {P : Program} {d : Nat} {t : TypeId} {xs : Array Value} {fs : Array Field} (ht : P.underlying t = some (.struct fs)) (hp : P.stoodInHeld t = false)
    (h : ∀ f ∈ fs.toList, ∃ v, PartIs P f.type xs f.offset v ∧ EqSelf P d f.type v) : EqSelf P (d + 1) t (.agg xs) := fun w => by
  have e : P.fieldsOf t = fs := by simp [Program.fieldsOf, ht]
  rw [run_equalIn_struct w d t xs xs (by rw [e]; exact ht) hp, e]
  exact eqFields_refl d xs _ h w
theorem eqSelf_array {P : Program} {d n : Nat} {t e : TypeId} {xs : Array Value} (ht : P.underlying t = some (.array n e)) {i : TypeInfo} (hi : P.info? e = some i)
    (h : ∀ i ∈ List.range n, ∃ v, PartIs P e xs (i * P.cellsOf e) v ∧ EqSelf P d e v) : EqSelf P (d + 1) t (.agg xs) := fun w => by
  rw [run_equalIn_array w d xs xs ht hi]
  exact eqItems_refl d e xs _ h w
theorem eqSelf_int {P : Program} {d : Nat} {t : TypeId} {k k' : IntKind} {a : Int} (ht : P.underlying t = some (.int k')) : EqSelf P (d + 1) t (.int k a) := fun w => int_refl w ht
theorem eqSelf_bool {P : Program} {d : Nat} {t : TypeId} {a : Bool} (ht : P.underlying t = some .bool) : EqSelf P (d + 1) t (.bool a) := fun w => by rw [run_equalIn_bool w d t a a ht]; simp

theorem eqSelf_size (d : Nat) (z : Sz) : EqSelf Try.prog (d + 2) 32 z.v := by
  refine eqSelf_struct Try.underlying32 (by kernel_rfl) ?_
  simp only [List.forall_mem_cons, List.not_mem_nil, false_implies, implies_true, and_true]
  exact ⟨⟨.int .i64 z.k, fun w => by kernel_rfl, eqSelf_int Try.underlying3⟩, ⟨.int .i64 z.n, fun w => by kernel_rfl, eqSelf_int Try.underlying2⟩⟩
theorem eqSelf_line (d : Nat) (z : Ln) : EqSelf Try.prog (d + 2) 36 z.v := by
  refine eqSelf_struct Try.underlying36 (by kernel_rfl) ?_
  simp only [List.forall_mem_cons, List.not_mem_nil, false_implies, implies_true, and_true]
  exact ⟨⟨.int .i64 z.s, fun w => by kernel_rfl, eqSelf_int Try.underlying3⟩, ⟨.int .i64 z.w, fun w => by kernel_rfl, eqSelf_int Try.underlying2⟩, ⟨.int .u32 z.c, fun w => by kernel_rfl, eqSelf_int Try.underlying34⟩⟩
theorem eqSelf_four (d : Nat) (a b c e : Int) : EqSelf Try.prog (d + 2) 33 (.agg #[.int .i64 a, .int .i64 b, .int .i64 c, .int .i64 e]) := by
  obtain ⟨i, hi⟩ := info_of_underlying Try.underlying2
  refine eqSelf_array Try.underlying33 hi ?_
  rw [show List.range 4 = [0, 1, 2, 3] from rfl]
  simp only [List.forall_mem_cons, List.not_mem_nil, false_implies, implies_true, and_true]
  exact ⟨⟨.int .i64 a, fun w => by kernel_rfl, eqSelf_int Try.underlying2⟩, ⟨.int .i64 b, fun w => by kernel_rfl, eqSelf_int Try.underlying2⟩, ⟨.int .i64 c, fun w => by kernel_rfl, eqSelf_int Try.underlying2⟩, ⟨.int .i64 e, fun w => by kernel_rfl, eqSelf_int Try.underlying2⟩⟩
theorem eqSelf_two (d : Nat) (a b : Int) : EqSelf Try.prog (d + 2) 38 (.agg #[.int .i64 a, .int .i64 b]) := by
  obtain ⟨i, hi⟩ := info_of_underlying Try.underlying2
  refine eqSelf_array Try.underlying38 hi ?_
  rw [show List.range 2 = [0, 1] from rfl]
  simp only [List.forall_mem_cons, List.not_mem_nil, false_implies, implies_true, and_true]
  exact ⟨⟨.int .i64 a, fun w => by kernel_rfl, eqSelf_int Try.underlying2⟩, ⟨.int .i64 b, fun w => by kernel_rfl, eqSelf_int Try.underlying2⟩⟩
def linesV (a b c e : Ln) : Value := .agg #[.int .i64 a.s, .int .i64 a.w, .int .u32 a.c, .int .i64 b.s, .int .i64 b.w, .int .u32 b.c, .int .i64 c.s, .int .i64 c.w, .int .u32 c.c, .int .i64 e.s, .int .i64 e.w, .int .u32 e.c]
theorem eqSelf_lines (d : Nat) (a b c e : Ln) : EqSelf Try.prog (d + 3) 37 (linesV a b c e) := by
  obtain ⟨i, hi⟩ := info_of_underlying Try.underlying36
  refine eqSelf_array Try.underlying37 hi ?_
  rw [show List.range 4 = [0, 1, 2, 3] from rfl]
  simp only [List.forall_mem_cons, List.not_mem_nil, false_implies, implies_true, and_true]
  exact ⟨⟨a.v, fun w => by kernel_rfl, eqSelf_line d a⟩, ⟨b.v, fun w => by kernel_rfl, eqSelf_line d b⟩, ⟨c.v, fun w => by kernel_rfl, eqSelf_line d c⟩, ⟨e.v, fun w => by kernel_rfl, eqSelf_line d e⟩⟩
theorem eqSelf_sty (d : Nat) (s : Sty) : EqSelf Try.prog (d + 4) 40 (.agg s.cells) := by
  refine eqSelf_struct Try.underlying40 (by kernel_rfl) ?_
  simp only [List.forall_mem_cons, List.not_mem_nil, false_implies, implies_true, and_true]
  exact ⟨⟨s.wd.v, fun w => by kernel_rfl, eqSelf_size _ _⟩, ⟨s.ht.v, fun w => by kernel_rfl, eqSelf_size _ _⟩, ⟨_, fun w => by kernel_rfl, eqSelf_four _ s.p0 s.p1 s.p2 s.p3⟩, ⟨linesV s.b0 s.b1 s.b2 s.b3, fun w => by kernel_rfl, eqSelf_lines _ _ _ _ _⟩,
    ⟨.int .i64 s.cs, fun w => by kernel_rfl, eqSelf_int Try.underlying3⟩, ⟨.int .i64 s.rs, fun w => by kernel_rfl, eqSelf_int Try.underlying3⟩, ⟨.int .i64 s.al, fun w => by kernel_rfl, eqSelf_int Try.underlying3⟩,
    ⟨.bool s.fx, fun w => by kernel_rfl, eqSelf_bool Try.underlying4⟩, ⟨.bool s.co, fun w => by kernel_rfl, eqSelf_bool Try.underlying4⟩, ⟨_, fun w => by kernel_rfl, eqSelf_two _ s.g0 s.g1⟩, ⟨.bool s.hi, fun w => by kernel_rfl, eqSelf_bool Try.underlying4⟩, ⟨.bool s.be, fun w => by kernel_rfl, eqSelf_bool Try.underlying4⟩⟩
theorem sty_refl (s : Sty) (w : World) : (binOp .eql 40 (.agg s.cells) (.agg s.cells)).run Try.prog w = .ok (.bool true) w := by
  unfold binOp Op.equal
  simp only [Sem.run_bind]
  rw [show Op.maxDepth = 9996 + 4 from rfl, eqSelf_sty 9996 s w]
  rfl
end Go.Proofs.Ytjhpkikgajgdmaa
