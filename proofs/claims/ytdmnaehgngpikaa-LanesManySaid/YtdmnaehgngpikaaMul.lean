/- Plain law: a product in two words. No program in sight but the printed function. -/
import Derived.Test.YtdmnaehgngpikaaK4
import Derived.Laws.Bits64
import Derived.Laws.BitsLemmas
namespace Go.Proofs.Ytdmnaehgngpikaa.K
open Go.RowKit Go.Proofs.YtdmnaehgngpikaaW.PrintWords Go.Proofs.YtdmnaehgngpikaaW.PrintLast Go.Proofs.YtdmnaehgngpikaaW.PrintMore
theorem wraps_u64 (n : Int) (h₀ : 0 ≤ n) (h₁ : n < 2 ^ 64) : IntKind.u64.wrap n = n := by rw [IntKind.wrap_u64]; omega
theorem u64_low32 (x : Int) (h₀ : 0 ≤ x) (h₁ : x < 18446744073709551616) : Go.bits .and .u64 x 4294967295 = x % 4294967296 :=
  bits_mask .u64 64 (by decide) wraps_u64 32 (by decide) x h₀ h₁
/-- the product, of any two words -/
theorem mul64 (a b : Int) (ha0 : 0 ≤ a) (ha : a < 18446744073709551616) (hb0 : 0 ≤ b) (hb : b < 18446744073709551616) :
    bits_Mul64.f a b = some (a * b / 18446744073709551616, a * b % 18446744073709551616) := by
  have hx : 0 ≤ a / 4294967296 ∧ a / 4294967296 < 4294967296 ∧ 0 ≤ a % 4294967296 ∧ a % 4294967296 < 4294967296 ∧ a = a / 4294967296 * 4294967296 + a % 4294967296 := by omega
  have hy : 0 ≤ b / 4294967296 ∧ b / 4294967296 < 4294967296 ∧ 0 ≤ b % 4294967296 ∧ b % 4294967296 < 4294967296 ∧ b = b / 4294967296 * 4294967296 + b % 4294967296 := by omega
  unfold bits_Mul64.f
  rw [u64_low32 b hb0 hb, u64_low32 a ha0 ha]
  generalize a / 4294967296 = x1 at *
  generalize a % 4294967296 = x0 at *
  generalize b / 4294967296 = y1 at *
  generalize b % 4294967296 = y0 at *
  obtain ⟨h1, h2, h3, h4, rfl⟩ := hx
  obtain ⟨k1, k2, k3, k4, rfl⟩ := hy
  have q00 : 0 ≤ x0 * y0 ∧ x0 * y0 ≤ 4294967295 * 4294967295 := ⟨Int.mul_nonneg h3 k3, Int.mul_le_mul (by omega) (by omega) k3 (by omega)⟩
  have q01 : 0 ≤ x0 * y1 ∧ x0 * y1 ≤ 4294967295 * 4294967295 := ⟨Int.mul_nonneg h3 k1, Int.mul_le_mul (by omega) (by omega) k1 (by omega)⟩
  have q10 : 0 ≤ x1 * y0 ∧ x1 * y0 ≤ 4294967295 * 4294967295 := ⟨Int.mul_nonneg h1 k3, Int.mul_le_mul (by omega) (by omega) k3 (by omega)⟩
  have q11 : 0 ≤ x1 * y1 ∧ x1 * y1 ≤ 4294967295 * 4294967295 := ⟨Int.mul_nonneg h1 k1, Int.mul_le_mul (by omega) (by omega) k1 (by omega)⟩
  have hm : (x1 * 4294967296 + x0) * (y1 * 4294967296 + y0) = x1 * y1 * 18446744073709551616 + (x1 * y0 + x0 * y1) * 4294967296 + x0 * y0 := by
    rw [Int.add_mul, Int.mul_add, Int.mul_add]
    have e1 : x1 * 4294967296 * (y1 * 4294967296) = x1 * y1 * 18446744073709551616 := by rw [Int.mul_assoc, ← Int.mul_assoc 4294967296, Int.mul_comm 4294967296 y1, Int.mul_assoc y1, ← Int.mul_assoc]; rfl
    have e2 : x1 * 4294967296 * y0 = x1 * y0 * 4294967296 := by rw [Int.mul_assoc, Int.mul_comm 4294967296, ← Int.mul_assoc]
    have e3 : x0 * (y1 * 4294967296) = x0 * y1 * 4294967296 := by rw [Int.mul_assoc]
    rw [e1, e2, e3]
    omega
  rw [hm]
  generalize x0 * y0 = p00 at *
  generalize x0 * y1 = p01 at *
  generalize x1 * y0 = p10 at *
  generalize x1 * y1 = p11 at *
  obtain ⟨t, ht⟩ : ∃ t, t = p10 + p00 / 4294967296 := ⟨_, rfl⟩
  have w1 : IntKind.u64.wrap (IntKind.u64.wrap p10 + IntKind.u64.wrap p00 / 4294967296) = t := by simp only [IntKind.wrap_u64]; omega
  rw [w1, u64_low32 t (by omega) (by omega)]
  simp only [IntKind.wrap_u64, Option.some.injEq, Prod.mk.injEq]
  clear w1 hm
  have hs : 0 ≤ t / 4294967296 ∧ t / 4294967296 ≤ 4294967294 ∧ t = t / 4294967296 * 4294967296 + t % 4294967296 ∧ 0 ≤ t % 4294967296 ∧ t % 4294967296 ≤ 4294967295 := by omega
  have hz : 0 ≤ p00 / 4294967296 ∧ p00 = p00 / 4294967296 * 4294967296 + p00 % 4294967296 ∧ 0 ≤ p00 % 4294967296 ∧ p00 % 4294967296 ≤ 4294967295 := by omega
  generalize t / 4294967296 = s at *
  generalize t % 4294967296 = m at *
  generalize p00 / 4294967296 = z at *
  generalize p00 % 4294967296 = c at *
  have hn : 0 ≤ (m + p01) / 4294967296 ∧ (m + p01) / 4294967296 ≤ 4294967295 ∧ m + p01 = (m + p01) / 4294967296 * 4294967296 + (m + p01) % 4294967296 ∧ 0 ≤ (m + p01) % 4294967296 ∧ (m + p01) % 4294967296 ≤ 4294967295 := by omega
  have e1 : (m + p01 % 18446744073709551616) % 18446744073709551616 = m + p01 := by omega
  have e2 : (p11 % 18446744073709551616 + s) % 18446744073709551616 = p11 + s := by omega
  rw [e1, e2]
  generalize (m + p01) / 4294967296 = n at *
  generalize (m + p01) % 4294967296 = o at *
  have e3 : p11 * 18446744073709551616 + (p10 + p01) * 4294967296 + p00 = (p11 + s + n) * 18446744073709551616 + (o * 4294967296 + c) := by omega
  rw [e3]
  have e4 : ((p11 + s + n) * 18446744073709551616 + (o * 4294967296 + c)) / 18446744073709551616 = p11 + s + n := by
    rw [Int.add_comm, Int.add_mul_ediv_right _ _ (by decide), Int.ediv_eq_zero_of_lt (by omega) (by omega), Int.zero_add]
  refine ⟨?_, trivial⟩
  rw [e4, Int.emod_eq_of_lt (by omega) (by omega)]
end Go.Proofs.Ytdmnaehgngpikaa.K
