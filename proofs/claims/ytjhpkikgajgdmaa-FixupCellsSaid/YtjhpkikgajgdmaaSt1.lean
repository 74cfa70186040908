/- Contracts of layer 3's small functions. -/
import Derived.Test.YtjhpkikgajgdmaaProg
import Derived.Test.YtjhpkikgajgdmaaDefs
import Derived.WalkKit
import Derived.LoopTactic
import Derived.Outline
import Derived.Lib.Hide
import Derived.Handy
namespace Go.Proofs.Ytjhpkikgajgdmaa
open Go.RowKit

set_option maxHeartbeats 400000 in
theorem within_any (least most : Int) (v : Value) (zs : List Int) (w : World) (h : Ints w v zs) :
    Calls Try.prog 59 #[.int .i64 least, .int .i64 most, v] w fun e w' => e = .returned (.bool (withinB least most zs)) ∧ w = w' := by
  obtain ⟨b, off, n, cap, rfl, hn, hlen, hc⟩ := h
  have HN := Lib.hid hn
  clear hn
  go_enter Try.func59, Try.ntmps59
  go_wp2
  go_loop [8, 11] (fun _ i => ∃ (k : Nat) (pre rest : List Int), zs = pre ++ rest ∧ pre.length = k ∧ i = .int .i64 k ∧ withinB least most zs = withinB least most rest) (fun _ i => n - (intOf i).toNat)
  case atStart => exact ⟨0, [], zs, rfl, rfl, rfl, rfl⟩
  case round =>
    obtain ⟨k, pre, rest, hz, hk, rfl, hb⟩ := hrel
    cases rest with
    | nil =>
      have hge : ¬ k < n := by have := HN.out; rw [hz] at this; simp at this; omega
      have HB := Lib.hid hb
      clear hb hz hk hc
      go_wp2
      go_ret
      exact ⟨by rw [HB.out]; rfl, rfl⟩
    | cons x rest =>
      have hlt : k < n := by have := HN.out; rw [hz] at this; simp at this; omega
      have hcell : w.cell? ⟨b, off + k, none⟩ = some (.int .i64 x) := hc k x (by rw [hz, ← hk]; simp)
      have HB := Lib.hid hb
      have HZ := Lib.hid hz
      have HK := Lib.hid hk
      clear hb hz hk hc
      go_wp2
      · go_ret
        exact ⟨by rw [HB.out]; simp [withinB]; omega, rfl⟩
      · go_round
        case rel => exact ⟨k + 1, pre ++ [x], rest, by rw [HZ.out]; simp, by simp [HK.out], by go_num, by rw [HB.out]; simp [withinB]; omega⟩
        case measure => simp [intOf]; omega
      · go_ret
        exact ⟨by rw [HB.out]; simp [withinB]; omega, rfl⟩

theorem areLengths_any (v : Value) (zs : List Int) (w : World) (h : Ints w v zs) :
    Calls Try.prog 58 #[v] w fun e w' => e = .returned (.bool (withinB (-1073741824) 1073741824 zs)) ∧ w = w' := by
  go_enter Try.func58, Try.ntmps58
  go_wp2_with (go_at_call 59; refine (within_any _ _ _ _ _ h).mono ?_; rintro e w' ⟨rfl, rfl⟩)
  go_ret
  exact ⟨rfl, rfl⟩

set_option maxHeartbeats 400000 in
theorem isSize_any (z : Sz) (w : World) :
    Calls Try.prog 57 #[.agg #[.int .i64 z.k, .int .i64 z.n]] w fun e w' => e = .returned (.bool (sizeB z)) ∧ Below w.heap.size w w' := by
  obtain ⟨k, n⟩ := z
  dsimp only
  go_enter Try.func57, Try.ntmps57
  go_wp2_with (first | (go_at_call 59; refine (within_any _ _ _ _ _ (ints_one _ _ _ _ (by simp))).mono ?_; rintro e w' ⟨rfl, rfl⟩) | (go_at_call 58; refine (areLengths_any _ _ _ (ints_one _ _ _ _ (by simp))).mono ?_; rintro e w' ⟨rfl, rfl⟩))
  all_goals go_returns
  · have h1 : k = 1 := by simpa using (by assumption : (k == 1) = true)
    subst h1
    exact ⟨by simp [sizeB, lenB, withinB], by go_grown⟩
  · have h1 : k = 2 := by simpa using (by assumption : (k == 2) = true)
    subst h1
    have hb : (!withinB 0 10000000 [n]) = true := by assumption
    exact ⟨by simp [sizeB, withinB] at hb ⊢; omega, by go_grown⟩
  · have h1 : k = 2 := by simpa using (by assumption : (k == 2) = true)
    subst h1
    have hb : (!withinB 0 10000000 [n]) = false := by assumption
    exact ⟨by simp [sizeB, withinB] at hb ⊢; omega, by go_grown⟩
  · have h1 : k = 0 := by simpa using (by assumption : (k == 0) = true)
    subst h1
    exact ⟨by simp [sizeB], by go_grown⟩
  · have h0 : (k == 0) = false := by assumption
    have h1 : (k == 1) = false := by assumption
    have h2 : (k == 2) = false := by assumption
    simp at h0 h1 h2
    exact ⟨by simp [sizeB, h0, h1, h2], by go_grown⟩

theorem rlength_any (n : Int) (w : World) :
    Calls Try.prog 55 #[.int .i64 n] w fun e w' => e = .returned (.bool (lenB n)) ∧ w = w' := by
  go_enter Try.func55, Try.ntmps55
  go_wp2
  all_goals go_returns
  all_goals (refine ⟨?_, rfl⟩)
  all_goals (simp_all [lenB])
  all_goals omega

theorem rsize_any (z : Sz) (w : World) :
    Calls Try.prog 54 #[.agg #[.int .i64 z.k, .int .i64 z.n]] w fun e w' => e = .returned (.bool (sizeB z)) ∧ Below w.heap.size w w' := by
  obtain ⟨k, n⟩ := z
  dsimp only
  go_enter Try.func54, Try.ntmps54
  go_wp2_with (go_at_call 55; refine (rlength_any _ _).mono ?_; rintro e w' ⟨rfl, rfl⟩)
  all_goals go_returns
  all_goals (refine ⟨?_, by go_grown⟩)
  all_goals (simp_all [sizeB])
  all_goals omega

end Go.Proofs.Ytjhpkikgajgdmaa
