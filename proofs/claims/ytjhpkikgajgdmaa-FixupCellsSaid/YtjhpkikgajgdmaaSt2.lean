/- Layer 3: the iterator over a style's sides. -/
import Derived.Test.YtjhpkikgajgdmaaProg
import Derived.Test.YtjhpkikgajgdmaaDefs
import Derived.Test.YtjhpkikgajgdmaaRange
import Derived.Test.YtjhpkikgajgdmaaSt1
import Derived.WalkKit
import Derived.LoopTactic
import Derived.Outline
import Derived.Lib.Hide
import Derived.Handy
import Derived.Deep.DeepCutAuto
import Derived.Deep.CutBlock
namespace Go.Proofs.Ytjhpkikgajgdmaa
open Go.RowKit
set_option linter.unusedVariables false
set_option linter.unusedSimpArgs false
attribute [local go_sem] Oper.semAt_some

def sideV (x : Int × Ln) : Array Value := #[.int .i64 x.1, .agg #[.int .i64 x.2.s, .int .i64 x.2.w, .int .u32 x.2.c]]

theorem idx4 (x0 x1 x2 x3 : Int) (w : World) :
    (Instr.index 33 (.agg #[.int .i64 x0, .int .i64 x1, .int .i64 x2, .int .i64 x3]) (.int .i64 0)).run Try.prog w = .ok (.int .i64 x0) w ∧
    (Instr.index 33 (.agg #[.int .i64 x0, .int .i64 x1, .int .i64 x2, .int .i64 x3]) (.int .i64 1)).run Try.prog w = .ok (.int .i64 x1) w ∧
    (Instr.index 33 (.agg #[.int .i64 x0, .int .i64 x1, .int .i64 x2, .int .i64 x3]) (.int .i64 2)).run Try.prog w = .ok (.int .i64 x2) w ∧
    (Instr.index 33 (.agg #[.int .i64 x0, .int .i64 x1, .int .i64 x2, .int .i64 x3]) (.int .i64 3)).run Try.prog w = .ok (.int .i64 x3) w :=
  ⟨by kernel_rfl, by kernel_rfl, by kernel_rfl, by kernel_rfl⟩

set_option maxRecDepth 100000 in
set_option maxHeartbeats 1000000 in
theorem sides1_iter (s : Sty) (b : Nat) : IterC Try.prog 63 #[.pointer (some ⟨b, 0, none⟩)] sideV s.sides (StyAt b 0 s) := by
  intro l J Jx W hJ hJx hRd hY h0
  refine callsIn_wide.1 (callsIn_of_wp (n := 0) Try.func63 rfl trivial ?_ rfl)
  simp only [Try.ntmps63, List.size_toArray, List.length_cons, List.length_nil, Nat.reduceAdd, Nat.reduceSub, Array.replicate_succ, Array.replicate_zero, List.push_toArray, List.append_toArray, List.nil_append, List.cons_append]
  have hW := hRd [] W h0
  have c4 : W.cell? ⟨b, 4, none⟩ = some (.int .i64 s.p0) := by simpa using hW 4 _ rfl
  have c5 : W.cell? ⟨b, 5, none⟩ = some (.int .i64 s.p1) := by simpa using hW 5 _ rfl
  have c6 : W.cell? ⟨b, 6, none⟩ = some (.int .i64 s.p2) := by simpa using hW 6 _ rfl
  have c7 : W.cell? ⟨b, 7, none⟩ = some (.int .i64 s.p3) := by simpa using hW 7 _ rfl
  have HY := Lib.hid hY
  have HR := Lib.hid hRd
  have HW := Lib.hid hW
  clear hY hRd hW hJ hJx
  gi_wp2
  gi_loopw [3, 4, 7] (fun _ _ i wr => ∃ k : Nat, k ≤ 4 ∧ i = .int .i64 k ∧ J (s.sides.take k) wr) (fun _ _ i _ => 4 - (intOf i).toNat)
  case atStart => exact ⟨0, by omega, rfl, h0⟩
  case round =>
    obtain ⟨k, hk, rfl, hJk⟩ := hrel
    have hW := HR.out _ _ hJk
    have HC : ∀ (i : Nat) v, s.cells.toList[i]? = some v → wr.cell? ⟨b, i, none⟩ = some v := fun i v hv => by simpa using hW i v hv
    have i0 := fun w => (idx4 s.p0 s.p1 s.p2 s.p3 w).1
    have i1 := fun w => (idx4 s.p0 s.p1 s.p2 s.p3 w).2.1
    have i2 := fun w => (idx4 s.p0 s.p1 s.p2 s.p3 w).2.2.1
    have i3 := fun w => (idx4 s.p0 s.p1 s.p2 s.p3 w).2.2.2
    match k, hk, hJk with
    | 0, _, hJk =>
      obtain ⟨fn, tmps, assign, body, hy, hR⟩ := HY.out [] (s.p0, s.b0) [(s.p1, s.b1), (s.p2, s.b2), (s.p3, s.b3)] wr rfl hJk
      have d0 : wr.cell? ⟨b, 8, none⟩ = some (.int .i64 s.b0.s) := HC 8 _ rfl
      have d1 : wr.cell? ⟨b, 9, none⟩ = some (.int .i64 s.b0.w) := HC 9 _ rfl
      have d2 : wr.cell? ⟨b, 10, none⟩ = some (.int .u32 s.b0.c) := HC 10 _ rfl
      dsimp only [sideV] at hy
      clear hW HC
      gi_wp2
      refine hR.mono ?_
      rintro e W3 (⟨rfl, hJ3⟩ | ⟨rfl, hJ3⟩)
      · gi_wp2
        go_roundw
        case rel => exact ⟨1, by omega, by go_num, hJ3⟩
        case measure => simp [intOf]
      · gi_wp2
        refine bodyPost_ret (results_none rfl _ _ _) rfl ?_
        exact ⟨⟨_, rfl⟩, .inr ⟨[], _, [(s.p1, s.b1), (s.p2, s.b2), (s.p3, s.b3)], rfl, hJ3⟩⟩
    | 1, _, hJk =>
      obtain ⟨fn, tmps, assign, body, hy, hR⟩ := HY.out [(s.p0, s.b0)] (s.p1, s.b1) [(s.p2, s.b2), (s.p3, s.b3)] wr rfl hJk
      have d0 : wr.cell? ⟨b, 11, none⟩ = some (.int .i64 s.b1.s) := HC 11 _ rfl
      have d1 : wr.cell? ⟨b, 12, none⟩ = some (.int .i64 s.b1.w) := HC 12 _ rfl
      have d2 : wr.cell? ⟨b, 13, none⟩ = some (.int .u32 s.b1.c) := HC 13 _ rfl
      dsimp only [sideV] at hy
      clear hW HC
      gi_wp2
      refine hR.mono ?_
      rintro e W3 (⟨rfl, hJ3⟩ | ⟨rfl, hJ3⟩)
      · gi_wp2
        go_roundw
        case rel => exact ⟨2, by omega, by go_num, hJ3⟩
        case measure => simp [intOf]
      · gi_wp2
        refine bodyPost_ret (results_none rfl _ _ _) rfl ?_
        exact ⟨⟨_, rfl⟩, .inr ⟨[(s.p0, s.b0)], _, [(s.p2, s.b2), (s.p3, s.b3)], rfl, hJ3⟩⟩
    | 2, _, hJk =>
      obtain ⟨fn, tmps, assign, body, hy, hR⟩ := HY.out [(s.p0, s.b0), (s.p1, s.b1)] (s.p2, s.b2) [(s.p3, s.b3)] wr rfl hJk
      have d0 : wr.cell? ⟨b, 14, none⟩ = some (.int .i64 s.b2.s) := HC 14 _ rfl
      have d1 : wr.cell? ⟨b, 15, none⟩ = some (.int .i64 s.b2.w) := HC 15 _ rfl
      have d2 : wr.cell? ⟨b, 16, none⟩ = some (.int .u32 s.b2.c) := HC 16 _ rfl
      dsimp only [sideV] at hy
      clear hW HC
      gi_wp2
      refine hR.mono ?_
      rintro e W3 (⟨rfl, hJ3⟩ | ⟨rfl, hJ3⟩)
      · gi_wp2
        go_roundw
        case rel => exact ⟨3, by omega, by go_num, hJ3⟩
        case measure => simp [intOf]
      · gi_wp2
        refine bodyPost_ret (results_none rfl _ _ _) rfl ?_
        exact ⟨⟨_, rfl⟩, .inr ⟨[(s.p0, s.b0), (s.p1, s.b1)], _, [(s.p3, s.b3)], rfl, hJ3⟩⟩
    | 3, _, hJk =>
      obtain ⟨fn, tmps, assign, body, hy, hR⟩ := HY.out [(s.p0, s.b0), (s.p1, s.b1), (s.p2, s.b2)] (s.p3, s.b3) [] wr rfl hJk
      have d0 : wr.cell? ⟨b, 17, none⟩ = some (.int .i64 s.b3.s) := HC 17 _ rfl
      have d1 : wr.cell? ⟨b, 18, none⟩ = some (.int .i64 s.b3.w) := HC 18 _ rfl
      have d2 : wr.cell? ⟨b, 19, none⟩ = some (.int .u32 s.b3.c) := HC 19 _ rfl
      dsimp only [sideV] at hy
      clear hW HC
      gi_wp2
      refine hR.mono ?_
      rintro e W3 (⟨rfl, hJ3⟩ | ⟨rfl, hJ3⟩)
      · gi_wp2
        go_roundw
        case rel => exact ⟨4, by omega, by go_num, hJ3⟩
        case measure => simp [intOf]
      · gi_wp2
        refine bodyPost_ret (results_none rfl _ _ _) rfl ?_
        exact ⟨⟨_, rfl⟩, .inr ⟨[(s.p0, s.b0), (s.p1, s.b1), (s.p2, s.b2)], _, [], rfl, hJ3⟩⟩
    | 4, _, hJk =>
      clear hW HC
      gi_wp2
      refine bodyPost_end (results_none rfl _ _ _) rfl ?_
      exact ⟨⟨_, rfl⟩, .inl hJk⟩
    | n + 5, h, _ => omega

theorem sides_any (s : Sty) (w : World) :
    Calls Try.prog 60 #[.agg s.cells] w fun e w' => e = .returned (.func (.func 63) #[] #[.pointer (some ⟨w.heap.size, 0, none⟩)]) ∧ w.alloc (.cells s.cells 40) = w' := by
  generalize s.cells = cs
  go_enter Try.func60, Try.ntmps60
  go_wp2
  go_returns
  exact ⟨rfl, rfl⟩

end Go.Proofs.Ytjhpkikgajgdmaa
