/- Layer 13: RightBands. -/
import Derived.Test.YtfoocmmjefdojaaCo2
import Derived.Test.YtfoocmmjefdojaaK3
namespace Go.Proofs.Ytfoocmmjefdojaa.K
open Go.RowKit Go.Proofs.YtfoocmmjefdojaaW.PrintWords Go.Proofs.YtfoocmmjefdojaaW.PrintLast Go.Proofs.YtfoocmmjefdojaaW.PrintMore
set_option linter.unusedVariables false
set_option linter.unusedSimpArgs false
attribute [local go_sem] eqA62

def bandB (b : S62) : Bool :=
  decide (b.f2 = -1 ∨ b.f3 = -1) && decide (0 ≤ b.f0 ∧ b.f0 ≤ b.f1 ∧ b.f1 ≤ 1125899906842623) && decide (-1 ≤ b.f2 ∧ b.f2 ≤ 10000000) && decide (-1 ≤ b.f3 ∧ b.f3 ≤ 1073741824)

set_option maxHeartbeats 4000000 in
set_option maxRecDepth 100000 in
theorem rb1_any (b : S62) (w : World) :
    Calls Try.prog 51 #[.agg #[.int .i64 b.f0, .int .i64 b.f1, .int .i64 b.f2, .int .i64 b.f3]] w fun e w' => e = .returned (.bool (!bandB b)) ∧ Below w.heap.size w w' := by
  obtain ⟨f0, f1, f2, f3⟩ := b
  dsimp only
  have HW := Lib.hid fun (W : World) (B : Nat) (hB : B = W.heap.size) => within_any 0 1125899906842623 (some ⟨B, 0, none⟩) 2 [f0, f1] (W.alloc (.cells #[.int .i64 f0, .int .i64 f1] 2)) (by rw [hB]; exact c_two W f0 f1) (Nat.le_refl _)
  have HW1 := Lib.hid fun (W : World) (B : Nat) (hB : B = W.heap.size) => within_any (-1) 10000000 (some ⟨B, 0, none⟩) 1 [f2] (W.alloc (.cells #[.int .i64 f2] 2)) (by rw [hB]; exact c_one W f2) (Nat.le_refl _)
  have HW2 := Lib.hid fun (W : World) (B : Nat) (hB : B = W.heap.size) => within_any (-1) 1073741824 (some ⟨B, 0, none⟩) 1 [f3] (W.alloc (.cells #[.int .i64 f3] 2)) (by rw [hB]; exact c_one W f3) (Nat.le_refl _)
  simp only [withinB_two] at HW
  simp only [withinB_one] at HW1 HW2
  simp only [List.length_cons, List.length_nil, Nat.zero_add, Nat.reduceAdd] at HW HW1 HW2
  obtain ⟨R, hR⟩ : ∃ R, R = !bandB ⟨f0, f1, f2, f3⟩ := ⟨_, rfl⟩
  rw [← hR]
  have HS := Lib.hid hR
  clear hR
  by_cases h2 : f2 = -1
  all_goals by_cases h3 : f3 = -1
  all_goals (try subst h2)
  all_goals (try subst h3)
  all_goals
    go_enter Try.func51, Try.ntmps51
    go_wp2_with (first
      | (go_at_call 49; (with_reducible refine (HW.out _ _ (by simp)).mono ?_); rintro e w' ⟨rfl, hb⟩; have hcc := (bcells hb).1; have hff := (bcells hb).2; have hzz := hb.size; simp only [World.size_alloc] at hzz; have hz1 : w.heap.size < w'.heap.size := (by omega); have hz2 : w.heap.size + 1 < w'.heap.size := (by omega); have hz3 : w.heap.size < w'.heap.size + 1 := (by omega); have hz4 : w.heap.size + 1 < w'.heap.size + 1 := (by omega); have hB1 : Below w.heap.size w w' := (((((Below.refl _ w).alloc (Nat.le_refl _) _).alloc (by simp) _).alloc (by simp; omega) _).trans (hb.mono (by simp; omega))))
      | (go_at_call 49; (with_reducible refine (HW1.out _ _ (by simp)).mono ?_); rintro e w'' ⟨rfl, hb2⟩; have hcc2 := (bcells hb2).1; have hff2 := (bcells hb2).2; have hzz2 := hb2.size; simp only [World.size_alloc] at hzz2; have hy1 : w.heap.size < w''.heap.size := (by omega); have hy2 : w.heap.size + 1 < w''.heap.size := (by omega); have hy3 : w.heap.size < w''.heap.size + 1 := (by omega); have hy4 : w.heap.size + 1 < w''.heap.size + 1 := (by omega); have hB2 : Below w.heap.size w w'' := ((hB1.alloc hB1.size _).trans (hb2.mono (by simp; omega))))
      | (go_at_call 49; (with_reducible refine (HW2.out _ _ (by simp)).mono ?_); rintro e w3 ⟨rfl, hb3⟩; have hzz3 := hb3.size; simp only [World.size_alloc] at hzz3; have hB3 : Below w.heap.size w w3 := ((hB2.alloc hB2.size _).trans (hb3.mono (by simp; omega)))))
    all_goals go_ret
    all_goals refine ⟨ret_b ?_, ?_⟩
  all_goals first
    | (rw [HS.out, Bool.eq_iff_iff]; simp [bandB]; done)
    | (rw [HS.out, Bool.eq_iff_iff]; simp [bandB]; omega)
    | go_grown
    | assumption
    | (trace_state; fail)
end Go.Proofs.Ytfoocmmjefdojaa.K
