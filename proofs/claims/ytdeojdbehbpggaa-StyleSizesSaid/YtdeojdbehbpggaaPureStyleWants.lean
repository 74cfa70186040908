/- Layer 3, StyleWants: a greater share of a length asks for no less, all of it asks for it; for any two shares and any length. No conditions. -/
import Derived.Test.YtdeojdbehbpggaaK6
import Derived.Test.YtdeojdbehbpggaaK4
import Derived.Test.YtdeojdbehbpggaaDiv
namespace Go.Proofs.Ytdeojdbehbpggaa.Pure
open Go.RowKit Go.Proofs.Ytdeojdbehbpggaa.K Go.Proofs.YtdeojdbehbpggaaW.PrintWords Go.Proofs.YtdeojdbehbpggaaW.PrintLast

/-- what a share of a length is -/
def partI (s n : Int) : Int := if s < 0 ∨ n < 0 then 0 else min (s * n / 10000) 9223372036854775807

theorem part_eq (k : Nat) (hk : 6 < k) (s n : Int) (hs : s ≤ 9223372036854775807) (hn : n ≤ 9223372036854775807) : fixed_Part.f k s n = some (partI s n) := by
  obtain ⟨k, rfl⟩ : ∃ m, k = m + 1 := ⟨k - 1, by omega⟩
  unfold fixed_Part.f partI
  by_cases h : s < 0
  · rw [if_pos h, fixed_Part.j0, if_pos rfl, if_pos (.inl h)]
  · rw [if_neg h]
    by_cases h2 : n < 0
    · rw [fixed_Part.j0, if_pos (by simpa using h2), if_pos (.inr h2)]
    · rw [fixed_Part.j0, if_neg (by simpa using h2), if_neg (by omega)]
      have e1 : IntKind.u64.wrap s = s := wraps_u64 s (by omega) (by omega)
      have e2 : IntKind.u64.wrap n = n := wraps_u64 n (by omega) (by omega)
      rw [e1, e2, mul64 s n (by omega) (by omega) (by omega) (by omega)]
      simp only [Option.bind_some]
      have hp : 0 ≤ s * n := Int.mul_nonneg (by omega) (by omega)
      by_cases hq : s * n / 18446744073709551616 ≥ 10000
      · rw [if_pos hq]
        congr 1
        omega
      · rw [if_neg hq, div64 k (by omega) _ _ (by omega) (by omega) (by omega) (by omega)]
        simp only [Option.bind_some]
        have e3 : s * n / 18446744073709551616 * 18446744073709551616 + s * n % 18446744073709551616 = s * n := by omega
        rw [e3]
        congr 1
        unfold mn wrap64
        split <;> omega

theorem rpart_eq (k : Nat) (hk : 6 < k) (s n : Int) (hs : s ≤ 9223372036854775807) (hn : n ≤ 9223372036854775807) : purflingref01_Part.f k s n = some (partI s n) := by
  obtain ⟨k, rfl⟩ : ∃ m, k = m + 1 := ⟨k - 1, by omega⟩
  unfold purflingref01_Part.f partI
  by_cases h : s < 0
  · rw [if_pos h, purflingref01_Part.j0, if_pos rfl, if_pos (.inl h)]
  · rw [if_neg h]
    by_cases h2 : n < 0
    · rw [purflingref01_Part.j0, if_pos (by simpa using h2), if_pos (.inr h2)]
    · rw [purflingref01_Part.j0, if_neg (by simpa using h2), if_neg (by omega)]
      have e1 : IntKind.u64.wrap s = s := wraps_u64 s (by omega) (by omega)
      have e2 : IntKind.u64.wrap n = n := wraps_u64 n (by omega) (by omega)
      rw [e1, e2, mul64 s n (by omega) (by omega) (by omega) (by omega)]
      simp only [Option.bind_some]
      have hp : 0 ≤ s * n := Int.mul_nonneg (by omega) (by omega)
      by_cases hq : s * n / 18446744073709551616 ≥ 10000
      · rw [if_pos hq]
        congr 1
        omega
      · rw [if_neg hq, div64 k (by omega) _ _ (by omega) (by omega) (by omega) (by omega)]
        simp only [Option.bind_some]
        have e3 : s * n / 18446744073709551616 * 18446744073709551616 + s * n % 18446744073709551616 = s * n := by omega
        rw [e3]
        by_cases hg : s * n / 10000 > 9223372036854775807
        · rw [if_pos hg]
          congr 1
          omega
        · rw [if_neg hg]
          congr 1
          unfold wrap64
          omega

theorem wanted_share (k : Nat) (hk : 6 < k) (s n d : Int) (hs : s ≤ 9223372036854775807) (hn : n ≤ 9223372036854775807) : style_Wanted.f k 2 s n d = some (if n ≥ 0 then partI s n else d) := by
  unfold style_Wanted.f
  rw [if_neg (by decide), if_pos rfl]
  split
  · rw [part_eq k hk s n hs hn]; rfl
  · rfl

theorem StyleWants : purflinglaw03_StyleWants.Pure := by
  intro p q n hp hq hn
  have hp' : -9223372036854775808 ≤ p ∧ p ≤ 9223372036854775807 := by simpa [Lit.wf, IntKind.min, IntKind.max, IntKind.signed, IntKind.bits] using hp
  have hq' : -9223372036854775808 ≤ q ∧ q ≤ 9223372036854775807 := by simpa [Lit.wf, IntKind.min, IntKind.max, IntKind.signed, IntKind.bits] using hq
  have hn' : -9223372036854775808 ≤ n ∧ n ≤ 9223372036854775807 := by simpa [Lit.wf, IntKind.min, IntKind.max, IntKind.signed, IntKind.bits] using hn
  refine ⟨8, ?_⟩
  unfold purflinglaw03_StyleWants.f purflinglaw03_shown.f
  simp only [Option.bind_some]
  by_cases h1 : p < 0
  · rw [if_pos h1, purflinglaw03_StyleWants.j0, if_pos rfl]
  rw [if_neg h1]
  by_cases h2 : p > q
  · rw [if_pos h2, purflinglaw03_StyleWants.j0, if_pos rfl]
  rw [if_neg h2]
  by_cases h3 : q > 10000
  · rw [if_pos h3, purflinglaw03_StyleWants.j0, if_pos rfl]
  rw [if_neg h3, purflinglaw03_StyleWants.j0]
  by_cases h4 : n < 0
  · rw [if_pos (by simpa using h4)]
  rw [if_neg (by simpa using h4), wanted_share 7 (by decide) p n _ (by omega) (by omega), wanted_share 7 (by decide) q n _ (by omega) (by omega), wanted_share 7 (by decide) 10000 n _ (by omega) (by omega), wanted_share 7 (by decide) p (-1) _ (by omega) (by omega)]
  simp only [Option.bind_some]
  rw [if_pos (show n ≥ 0 by omega), if_pos (show n ≥ 0 by omega), if_pos (show n ≥ 0 by omega), if_neg (show ¬ (-1 : Int) ≥ 0 by decide), if_pos trivial]
  have e0 : style_Wanted.f 7 0 0 n 7 = some 7 := by
    unfold style_Wanted.f
    rw [if_neg (by decide), if_neg (by decide)]
  rw [e0]
  simp only [Option.bind_some]
  have a1 : 0 ≤ p * n := Int.mul_nonneg (by omega) (by omega)
  have a2 : p * n ≤ q * n := Int.mul_le_mul_of_nonneg_right (by omega) (by omega)
  have a3 : q * n ≤ 10000 * n := Int.mul_le_mul_of_nonneg_right (by omega) (by omega)
  have b1 : partI p n = p * n / 10000 := by unfold partI; rw [if_neg (by omega)]; omega
  have b2 : partI q n = q * n / 10000 := by unfold partI; rw [if_neg (by omega)]; omega
  have b3 : partI 10000 n = n := by unfold partI; rw [if_neg (by omega)]; omega
  rw [b1, b2, b3, if_pos (by omega), if_pos (by omega), if_pos (by omega), if_pos rfl, if_pos trivial]
  rfl
end Go.Proofs.Ytdeojdbehbpggaa.Pure
