/- Layer 8: nodes by value; Right and broken on them. -/
import Derived.Test.YteckkphbgfmolaaLnI
import Derived.Test.YteckkphbgfmolaaK6
import Derived.Maps.OwnIn
namespace Go.Proofs.Yteckkphbgfmolaa.K
open Go.RowKit Go.Proofs.YteckkphbgfmolaaW.PrintWords Go.Proofs.YteckkphbgfmolaaW.PrintLast Go.Proofs.YteckkphbgfmolaaW.PrintMore
set_option linter.unusedVariables false
set_option linter.unusedSimpArgs false
attribute [local go_sem] Oper.semAt_some

abbrev Nd := S35
def nodeC (A1 : Option Addr) (c1 : Nat) (A3 : Option Addr) (c3 : Nat) (n : Nd) : Array Value := #[.int .i64 n.f0, .slice A1 n.f1.length c1, .int .i64 n.f2.f0.f0, .int .i64 n.f2.f0.f1, .int .i64 n.f2.f1.f0, .int .i64 n.f2.f1.f1, .int .i64 n.f2.f2.f0, .int .i64 n.f2.f2.f1, .int .i64 n.f2.f2.f2, .int .i64 n.f2.f2.f3, .int .i64 n.f2.f3.f0.f0, .int .i64 n.f2.f3.f0.f1, .int .u32 n.f2.f3.f0.f2, .int .i64 n.f2.f3.f1.f0, .int .i64 n.f2.f3.f1.f1, .int .u32 n.f2.f3.f1.f2, .int .i64 n.f2.f3.f2.f0, .int .i64 n.f2.f3.f2.f1, .int .u32 n.f2.f3.f2.f2, .int .i64 n.f2.f3.f3.f0, .int .i64 n.f2.f3.f3.f1, .int .u32 n.f2.f3.f3.f2, .int .i64 n.f2.f4, .int .i64 n.f2.f5, .int .i64 n.f2.f6, .bool n.f2.f7, .bool n.f2.f8, .int .i64 n.f2.f9.f0, .int .i64 n.f2.f9.f1, .bool n.f2.f10, .bool n.f2.f11, .slice A3 n.f3.length c3, .int .i64 n.f4, .int .i64 n.f5]
def rightB (n : Nd) : Bool := decide (n.f0 = 1) && decide ((n.f3.length : Int) ≤ 10000) && ([n.f4, n.f5].all lengthB && n.f3.all lengthB)
theorem right_f (n : Nd) : lines_Right.f (n.f0) (n.f1) (n.f2.f0.f0) (n.f2.f0.f1) (n.f2.f1.f0) (n.f2.f1.f1) (n.f2.f2.f0) (n.f2.f2.f1) (n.f2.f2.f2) (n.f2.f2.f3) (n.f2.f3.f0.f0) (n.f2.f3.f0.f1) (n.f2.f3.f0.f2) (n.f2.f3.f1.f0) (n.f2.f3.f1.f1) (n.f2.f3.f1.f2) (n.f2.f3.f2.f0) (n.f2.f3.f2.f1) (n.f2.f3.f2.f2) (n.f2.f3.f3.f0) (n.f2.f3.f3.f1) (n.f2.f3.f3.f2) (n.f2.f4) (n.f2.f5) (n.f2.f6) (n.f2.f7) (n.f2.f8) (n.f2.f9.f0) (n.f2.f9.f1) (n.f2.f10) (n.f2.f11) (n.f3) (n.f4) (n.f5) = some (rightB n) := by
  unfold lines_Right.f rightB lines_areLengths.f
  by_cases h0 : n.f0 = 1
  · rw [if_pos h0, decide_eq_true h0, Bool.true_and]
    by_cases h1 : (n.f3.length : Int) ≤ 10000
    · rw [if_pos h1, decide_eq_true h1, Bool.true_and]
      simp only [Option.bind_some]
      cases [n.f4, n.f5].all lengthB <;> simp
    · rw [if_neg h1, decide_eq_false h1, Bool.false_and]
  · rw [if_neg h0, decide_eq_false h0, Bool.false_and, Bool.false_and]
theorem right_any (A1 : Option Addr) (c1 : Nat) (A3 : Option Addr) (c3 : Nat) (n : Nd) (w : World) (hr1 : Kd.C (Kd.int .i64) w A1 n.f1.length n.f1) (hc1 : n.f1.length ≤ c1) (hr3 : Kd.C (Kd.int .i64) w A3 n.f3.length n.f3) (hc3 : n.f3.length ≤ c3) :
    Calls Try.prog 15 #[.agg (nodeC A1 c1 A3 c3 n)] w fun e w' => e = .returned (.bool (rightB n)) ∧ Below w.heap.size w w' :=
  lines_Right.calls (n.f0) A1 c1 (n.f1) (n.f2.f0.f0) (n.f2.f0.f1) (n.f2.f1.f0) (n.f2.f1.f1) (n.f2.f2.f0) (n.f2.f2.f1) (n.f2.f2.f2) (n.f2.f2.f3) (n.f2.f3.f0.f0) (n.f2.f3.f0.f1) (n.f2.f3.f0.f2) (n.f2.f3.f1.f0) (n.f2.f3.f1.f1) (n.f2.f3.f1.f2) (n.f2.f3.f2.f0) (n.f2.f3.f2.f1) (n.f2.f3.f2.f2) (n.f2.f3.f3.f0) (n.f2.f3.f3.f1) (n.f2.f3.f3.f2) (n.f2.f4) (n.f2.f5) (n.f2.f6) (n.f2.f7) (n.f2.f8) (n.f2.f9.f0) (n.f2.f9.f1) (n.f2.f10) (n.f2.f11) A3 c3 (n.f3) (n.f4) (n.f5) (rightB n) w hr1 hc1 hr3 hc3 (right_f n)
theorem broken_any (A1 : Option Addr) (c1 : Nat) (A3 : Option Addr) (c3 : Nat) (n : Nd) (width : Int) (w : World) :
    Calls Try.prog 25 #[.agg (nodeC A1 c1 A3 c3 n), .int .i64 width] w fun e w' => e = .returned (.func (.func 31) #[] #[.pointer (some ⟨w.heap.size, 0, none⟩), .pointer (some ⟨w.heap.size + 1, 0, none⟩)]) ∧ (w.alloc (.cells (nodeC A1 c1 A3 c3 n) 35)).alloc (.cells #[.int .i64 width] 2) = w' := by
  generalize nodeC A1 c1 A3 c3 n = cs
  go_enter Try.func25, Try.ntmps25
  go_wp2
  go_ret
  exact ⟨rfl, rfl⟩

section
variable {F : Fence} {m : Nat} {P : Program} {ops : Array Oper} {rest : List Oper} {o : Oper} {a : Act} {Q : Exit → Act → World → Prop}
theorem print_appendIn {w0 W : World} (base : Nat) (hgd : o.guard = none) (s x : Operand) (t e : TypeId) (z : Value) (size bytes : Nat)
    (ho : o.op = .call { callee := .builtin .append, args := #[s, x], argTypes := #[t, t] })
    (ht : P.underlying t = some (.slice e)) (hinfo : (P.info? e).map (fun i => (i.zero, i.size, i.bytes)) = some (some z, size, bytes)) (hz : z.cells.size = size) (hs0 : 0 < size) (hb0 : 0 < bytes)
    (v : Value) (n : Nat) (xs ys : List Value) (hs : a.eval s = v) (hx : a.eval x = .slice (some ⟨W.heap.size, 0, none⟩) 1 1) (hys : ys.length = size) (h1 : ∀ u ∈ ys, u.oneCell' = true)
    (HO : W.ownsRow base e size v n xs) (HB : Below base w0 W) (hbase : base ≤ W.heap.size) (hl : (n + 1) * bytes ≤ 140737488355328)
    (h : ∀ v1 w1, w1.ownsRow base e size v1 (n + 1) (xs ++ ys) → Below base w0 w1 → W.grownBy w1 v.ownBlock → (v1.ownBlock = v.ownBlock ∨ ∃ b, v1.ownBlock = some b ∧ W.heap.size ≤ b) → wpListIn F m P ops Q rest (a.put o.dst v1) w1) :
    wpListIn F m P ops Q (o :: rest) a (W.alloc (.cells ys.toArray e)) := by
  obtain ⟨i0, hi, hzz⟩ := Option.map_eq_some_iff.1 hinfo
  simp only [Prod.mk.injEq] at hzz
  obtain ⟨hz0, hz1, hz2⟩ := hzz
  have hlen : n + 1 ≤ 140737488355328 := Nat.le_trans (Nat.le_mul_of_pos_right _ hb0) hl
  refine wpListIn_append_own_at (w := W.alloc (.cells ys.toArray e)) hgd s x t ho base e i0 z size bytes ht hi hz0 hz1 hz2 hz hs0 v n xs hs (HO.alloc _) ⟨W.heap.size, 0, none⟩ 1 1 ys hx (by rw [hys]; simp)
    (by simpa using World.news_of_block (cs := ys.toArray) (t := e) (fr := (0, 0)) (heap_alloc_new W (.cells ys.toArray e))) h1 (by simp only [maxLen]; omega) hl (by simp; omega) ?_
  intro v1 w1 hown hg _ hat
  refine h v1 w1 hown ((HB.alloc hbase _).grown hg (by simp; omega) (own_base HO)) (World.grownBy.trans (World.grownBy_alloc W _ _) hg) ?_
  rcases hat with hat | hat
  · exact .inl hat
  · exact .inr ⟨_, hat, by simp⟩
theorem R_appendIn {α : Type} (d : Kd α) {w0 W : World} (base : Nat) (hgd : o.guard = none) (s x : Operand) (t e : TypeId) (z : Value) (bytes : Nat)
    (ho : o.op = .call { callee := .builtin .append, args := #[s, x], argTypes := #[t, t] })
    (ht : P.underlying t = some (.slice e)) (hinfo : (P.info? e).map (fun i => (i.zero, i.size, i.bytes)) = some (some z, d.sz, bytes)) (hz : z.cells.size = d.sz) (hs0 : 0 < d.sz) (hb0 : 0 < bytes)
    (v : Value) (xs : List α) (p : α) (cs : List Value) (ok okp : Nat → Prop) (hs : a.eval s = v) (hx : a.eval x = .slice (some ⟨W.heap.size, 0, none⟩) 1 1) (hp : d.M W base okp p cs) (hokp : ∀ k, okp k → ok k ∧ some k ≠ v.ownBlock) (hfresh : ∀ k, W.heap.size ≤ k → ok k)
    (HO : d.R e W base ok v xs) (HB : Below base w0 W) (hbase : base ≤ W.heap.size) (hl : (xs.length + 1) * bytes ≤ 140737488355328)
    (h : ∀ v1 w1, d.R e w1 base ok v1 (xs ++ [p]) → Below base w0 w1 → W.grownBy w1 v.ownBlock → (v1.ownBlock = v.ownBlock ∨ ∃ b, v1.ownBlock = some b ∧ W.heap.size ≤ b) → wpListIn F m P ops Q rest (a.put o.dst v1) w1) :
    wpListIn F m P ops Q (o :: rest) a (W.alloc (.cells cs.toArray e)) := by
  obtain ⟨h0, inner, hown, hr⟩ := HO
  refine print_appendIn base hgd s x t e z d.sz bytes ho ht hinfo hz hs0 hb0 v xs.length inner cs hs hx (d.K_len (d.K_of_M hp)) (d.K_one (d.K_of_M hp)) hown HB hbase hl ?_
  intro v1 w1 hown1 hb1 hg1 hat1
  exact h v1 w1 (Kd.R_appended h0 hr hp hokp hfresh hown1 hg1 hat1) hb1 hg1 hat1
end
end Go.Proofs.Yteckkphbgfmolaa.K
