/- Layer 1: saturating sums. -/
import Derived.Test.YtdeojdbehbpggaaProg
import Derived.Test.YtdeojdbehbpggaaDefs
import Derived.WalkKit
import Derived.LoopTactic
import Derived.Outline
import Derived.Lib.Hide
import Derived.Handy
import Derived.ScopeJumps
import Derived.WalkMore
import Derived.Test.YtdeojdbehbpggaaSt1
import Derived.Test.YtdeojdbehbpggaaRange
namespace Go.Proofs.Ytdeojdbehbpggaa
open Go.RowKit
set_option linter.unusedVariables false
set_option linter.unusedSimpArgs false

def I64 (n : Int) : Prop := -9223372036854775808 ≤ n ∧ n ≤ 9223372036854775807
def satAdd (a b : Int) : Int := if 9223372036854775807 < a + b then 9223372036854775807 else if a + b < -9223372036854775808 then -9223372036854775808 else a + b
theorem satAdd_i64 (a b : Int) : I64 (satAdd a b) := by unfold satAdd I64; split <;> (try split) <;> omega

set_option maxHeartbeats 1000000 in
theorem add_any (v : Value) (zs : List Int) (w : World) (h : Ints w v zs) (hz : ∀ x ∈ zs, I64 x) :
    Calls Try.prog 27 #[v] w fun e w' => e = .returned (.int .i64 (zs.foldl satAdd 0)) ∧ w = w' := by
  obtain ⟨b, off, n, cap, rfl, hn, hlen, hc⟩ := h
  have HN := Lib.hid hn
  have HZ := Lib.hid hz
  clear hn hz
  go_enter Try.func27, Try.ntmps27
  go_wp2
  refine wp_scope_jumps2 0 (fun a' w' => w = w' ∧ ∃ (k : Nat) (pre rest : List Int) (s : Int), zs = pre ++ rest ∧ pre.length = k ∧ I64 s ∧ zs.foldl satAdd 0 = rest.foldl satAdd s ∧
      ∃ (u5 u6 u7 u8 u9 u10 u11 u12 u13 u14 u15 u16 u17 u18 u19 u20 u21 u22 u23 u24 u25 u26 u27 u28 u29 u30 u31 u32 u33 u34 u35 u36 u37 u38 u39 u40 u41 : Value), a' = { tmps := #[.slice (some ⟨b, off, none⟩) n cap, undef, .int .i64 0, .int .i64 s, .int .i64 k, u5, u6, u7, u8, u9, u10, u11, u12, u13, u14, u15, u16, u17, u18, u19, u20, u21, u22, u23, u24, u25, u26, u27, u28, u29, u30, u31, u32, u33, u34, u35, u36, u37, u38, u39, u40, u41], defers := [] })
    (fun a' _ => n - (intOf (a'.tmps.getD 4 undef)).toNat) rfl ?_ ?_
  · rintro a' w' ⟨rfl, k, pre, rest, s, hx, hk, hs, hf, u5, u6, u7, u8, u9, u10, u11, u12, u13, u14, u15, u16, u17, u18, u19, u20, u21, u22, u23, u24, u25, u26, u27, u28, u29, u30, u31, u32, u33, u34, u35, u36, u37, u38, u39, u40, u41, rfl⟩
    cases rest with
    | nil =>
      have hge : k = n := by have := HN.out; rw [hx] at this; simp at this; omega
      subst hge
      have HF := Lib.hid hf
      clear hf hk hc hx
      go_wp2
      simp only [Exit.jump]
      go_ret
      exact ⟨by rw [HF.out]; rfl, rfl⟩
    | cons x rest =>
      have hlt : k < n := by have := HN.out; rw [hx] at this; simp at this; omega
      have hcell : w.cell? ⟨b, off + k, none⟩ = some (.int .i64 x) := hc k x (by rw [hx, ← hk]; simp)
      have hne : ((k : Int) == (n : Int)) = false := by simp; omega
      have hx64 : I64 x := HZ.out x (by rw [hx]; simp)
      have HF := Lib.hid hf
      have HX := Lib.hid hx
      have HK := Lib.hid hk
      have HS := Lib.hid hs
      have HX64 := Lib.hid hx64
      clear hf hk hc hx hs hx64
      go_wp2_with (go_at_call 32; refine (edge_any _ _).mono ?_; rintro e w' ⟨rfl, rfl⟩)
      all_goals go_step3
      all_goals have hs := HS.out
      all_goals have hx64 := HX64.out
      all_goals unfold I64 at hs hx64
      · have h1 : s < wrap64 (s + x) ↔ 0 < x := by assumption
        have e : satAdd s x = wrap64 (s + x) := by unfold satAdd; (try unfold wrap64 at *); split <;> (try split) <;> omega
        exact ⟨rfl, ⟨rfl, k + 1, pre ++ [x], rest, _, by rw [HX.out]; simp, by simp [HK.out], by rw [← e]; exact satAdd_i64 _ _, by rw [HF.out, ← e]; rfl, _, _, _, _, _, _, _, _, _, _, _, _, _, _, _, _, _, _, _, _, _, _, _, _, _, _, _, _, _, _, _, _, _, _, _, _, _, rfl⟩, by simp [intOf]; omega⟩
      · have h1 : ¬ (s < wrap64 (s + x) ↔ 0 < x) := by assumption
        have h2 : x < 0 := by assumption
        have e : satAdd s x = -9223372036854775808 := by unfold satAdd; (try unfold wrap64 at *); split <;> (try split) <;> omega
        exact ⟨rfl, ⟨rfl, k + 1, pre ++ [x], rest, _, by rw [HX.out]; simp, by simp [HK.out], by rw [← e]; exact satAdd_i64 _ _, by rw [HF.out, ← e]; rfl, _, _, _, _, _, _, _, _, _, _, _, _, _, _, _, _, _, _, _, _, _, _, _, _, _, _, _, _, _, _, _, _, _, _, _, _, _, rfl⟩, by simp [intOf]; omega⟩
      · have h1 : ¬ (s < wrap64 (s + x) ↔ 0 < x) := by assumption
        have h2 : 0 ≤ x := by assumption
        have h3 : (x != 0) = true := (by assumption : (!decide (s < wrap64 (s + x)) == decide (0 < x)) = true ∧ (x != 0) = true).2
        simp at h3
        have e : satAdd s x = 9223372036854775807 := by unfold satAdd; (try unfold wrap64 at *); split <;> (try split) <;> omega
        exact ⟨rfl, ⟨rfl, k + 1, pre ++ [x], rest, _, by rw [HX.out]; simp, by simp [HK.out], by rw [← e]; exact satAdd_i64 _ _, by rw [HF.out, ← e]; rfl, _, _, _, _, _, _, _, _, _, _, _, _, _, _, _, _, _, _, _, _, _, _, _, _, _, _, _, _, _, _, _, _, _, _, _, _, _, rfl⟩, by simp [intOf]; omega⟩
      · have h1 : ¬ (s < wrap64 (s + x) ↔ 0 < x) := by assumption
        have h2 : (!decide (s < wrap64 (s + x)) == decide (0 < x)) = false ∨ (x != 0) = false := by assumption
        have h3 : x = 0 := by
          rcases h2 with h2 | h2
          · exact absurd (by simp at h2; simpa using h2) h1
          · simpa using h2
        have e : satAdd s x = wrap64 (s + x) := by unfold satAdd; (try unfold wrap64 at *); split <;> (try split) <;> omega
        exact ⟨rfl, ⟨rfl, k + 1, pre ++ [x], rest, _, by rw [HX.out]; simp, by simp [HK.out], by rw [← e]; exact satAdd_i64 _ _, by rw [HF.out, ← e]; rfl, _, _, _, _, _, _, _, _, _, _, _, _, _, _, _, _, _, _, _, _, _, _, _, _, _, _, _, _, _, _, _, _, _, _, _, _, _, rfl⟩, by simp [intOf]; omega⟩
  · intro pass
    go_wp2
    go_step3
    rename_i hK
    exact hK _ _ (pass _ _ ⟨rfl, 0, [], zs, 0, rfl, rfl, by unfold I64; omega, rfl, _, _, _, _, _, _, _, _, _, _, _, _, _, _, _, _, _, _, _, _, _, _, _, _, _, _, _, _, _, _, _, _, _, _, _, _, _, rfl⟩)

end Go.Proofs.Ytdeojdbehbpggaa
