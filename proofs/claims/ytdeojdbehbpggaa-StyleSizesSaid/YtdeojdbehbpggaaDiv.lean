/- Plain law: a product in two words, and its division by ten thousand. No program in sight but the printed functions. -/
import Derived.Test.YtdeojdbehbpggaaK2
import Derived.Test.YtdeojdbehbpggaaK1
import Derived.Laws.Bits64
import Derived.Laws.BitsLemmas
namespace Go.Proofs.Ytdeojdbehbpggaa.K
open Go.RowKit Go.Proofs.YtdeojdbehbpggaaW.PrintWords Go.Proofs.YtdeojdbehbpggaaW.PrintLast Go.Proofs.YtdeojdbehbpggaaW.PrintMore

theorem wraps_u64 (n : Int) (h₀ : 0 ≤ n) (h₁ : n < 2 ^ 64) : IntKind.u64.wrap n = n := by rw [IntKind.wrap_u64]; omega
theorem u64_low32 (x : Int) (h₀ : 0 ≤ x) (h₁ : x < 18446744073709551616) : Go.bits .and .u64 x 4294967295 = x % 4294967296 :=
  bits_mask .u64 64 (by decide) wraps_u64 32 (by decide) x h₀ h₁
theorem u64_join (i : Nat) (x y : Int) (hx₀ : 0 ≤ x) (hx : x % 2 ^ i = 0) (hx₁ : x < 2 ^ 64) (hy₀ : 0 ≤ y) (hy : y < 2 ^ i) (hy₁ : y < 2 ^ 64) : Go.bits .or .u64 x y = x + y :=
  bits_join .u64 64 (by decide) wraps_u64 i x y hx₀ hx hx₁ hy₀ hy hy₁
theorem shl64 (x y : Int) (n : Nat) (hy : y = n) (hn : n ≤ 64) : shl .u64 x y = (x * 2 ^ n) % 18446744073709551616 := by
  unfold shl
  rw [IntKind.wrap_u64, hy]
  simp [IntKind.bits, Nat.min_eq_left hn]
theorem shr64 (x y : Int) (n : Nat) (hy : y = n) (hn : n ≤ 64) : shr .u64 x y = x / 2 ^ n := by
  unfold shr
  rw [hy]
  simp [IntKind.bits, Nat.min_eq_left hn]

/-- the product, of any two words -/
theorem mul64 (a b : Int) (ha0 : 0 ≤ a) (ha : a < 18446744073709551616) (hb0 : 0 ≤ b) (hb : b < 18446744073709551616) :
    bits_Mul64.f a b = some (a * b / 18446744073709551616, a * b % 18446744073709551616) := by
  have hx : 0 ≤ a / 4294967296 ∧ a / 4294967296 < 4294967296 ∧ 0 ≤ a % 4294967296 ∧ a % 4294967296 < 4294967296 ∧ a = a / 4294967296 * 4294967296 + a % 4294967296 := by omega
  have hy : 0 ≤ b / 4294967296 ∧ b / 4294967296 < 4294967296 ∧ 0 ≤ b % 4294967296 ∧ b % 4294967296 < 4294967296 ∧ b = b / 4294967296 * 4294967296 + b % 4294967296 := by omega
  unfold bits_Mul64.f
  rw [u64_low32 b hb0 hb, u64_low32 a ha0 ha]
  generalize a / 4294967296 = x1 at *
  generalize a % 4294967296 = x0 at *
  generalize b / 4294967296 = y1 at *
  generalize b % 4294967296 = y0 at *
  obtain ⟨h1, h2, h3, h4, rfl⟩ := hx
  obtain ⟨k1, k2, k3, k4, rfl⟩ := hy
  have q00 : 0 ≤ x0 * y0 ∧ x0 * y0 ≤ 4294967295 * 4294967295 := ⟨Int.mul_nonneg h3 k3, Int.mul_le_mul (by omega) (by omega) k3 (by omega)⟩
  have q01 : 0 ≤ x0 * y1 ∧ x0 * y1 ≤ 4294967295 * 4294967295 := ⟨Int.mul_nonneg h3 k1, Int.mul_le_mul (by omega) (by omega) k1 (by omega)⟩
  have q10 : 0 ≤ x1 * y0 ∧ x1 * y0 ≤ 4294967295 * 4294967295 := ⟨Int.mul_nonneg h1 k3, Int.mul_le_mul (by omega) (by omega) k3 (by omega)⟩
  have q11 : 0 ≤ x1 * y1 ∧ x1 * y1 ≤ 4294967295 * 4294967295 := ⟨Int.mul_nonneg h1 k1, Int.mul_le_mul (by omega) (by omega) k1 (by omega)⟩
  have hm : (x1 * 4294967296 + x0) * (y1 * 4294967296 + y0) = x1 * y1 * 18446744073709551616 + (x1 * y0 + x0 * y1) * 4294967296 + x0 * y0 := by
    rw [Int.add_mul, Int.mul_add, Int.mul_add]
    have e1 : x1 * 4294967296 * (y1 * 4294967296) = x1 * y1 * 18446744073709551616 := by rw [Int.mul_assoc, ← Int.mul_assoc 4294967296, Int.mul_comm 4294967296 y1, Int.mul_assoc y1, ← Int.mul_assoc]; rfl
    have e2 : x1 * 4294967296 * y0 = x1 * y0 * 4294967296 := by rw [Int.mul_assoc, Int.mul_comm 4294967296, ← Int.mul_assoc]
    have e3 : x0 * (y1 * 4294967296) = x0 * y1 * 4294967296 := by rw [Int.mul_assoc]
    rw [e1, e2, e3]
    omega
  rw [hm]
  generalize x0 * y0 = p00 at *
  generalize x0 * y1 = p01 at *
  generalize x1 * y0 = p10 at *
  generalize x1 * y1 = p11 at *
  obtain ⟨t, ht⟩ : ∃ t, t = p10 + p00 / 4294967296 := ⟨_, rfl⟩
  have w1 : IntKind.u64.wrap (IntKind.u64.wrap p10 + IntKind.u64.wrap p00 / 4294967296) = t := by simp only [IntKind.wrap_u64]; omega
  rw [w1, u64_low32 t (by omega) (by omega)]
  simp only [IntKind.wrap_u64, Option.some.injEq, Prod.mk.injEq]
  clear w1 hm
  have hs : 0 ≤ t / 4294967296 ∧ t / 4294967296 ≤ 4294967294 ∧ t = t / 4294967296 * 4294967296 + t % 4294967296 ∧ 0 ≤ t % 4294967296 ∧ t % 4294967296 ≤ 4294967295 := by omega
  have hz : 0 ≤ p00 / 4294967296 ∧ p00 = p00 / 4294967296 * 4294967296 + p00 % 4294967296 ∧ 0 ≤ p00 % 4294967296 ∧ p00 % 4294967296 ≤ 4294967295 := by omega
  generalize t / 4294967296 = s at *
  generalize t % 4294967296 = m at *
  generalize p00 / 4294967296 = z at *
  generalize p00 % 4294967296 = c at *
  have hn : 0 ≤ (m + p01) / 4294967296 ∧ (m + p01) / 4294967296 ≤ 4294967295 ∧ m + p01 = (m + p01) / 4294967296 * 4294967296 + (m + p01) % 4294967296 ∧ 0 ≤ (m + p01) % 4294967296 ∧ (m + p01) % 4294967296 ≤ 4294967295 := by omega
  have e1 : (m + p01 % 18446744073709551616) % 18446744073709551616 = m + p01 := by omega
  have e2 : (p11 % 18446744073709551616 + s) % 18446744073709551616 = p11 + s := by omega
  rw [e1, e2]
  generalize (m + p01) / 4294967296 = n at *
  generalize (m + p01) % 4294967296 = o at *
  have e3 : p11 * 18446744073709551616 + (p10 + p01) * 4294967296 + p00 = (p11 + s + n) * 18446744073709551616 + (o * 4294967296 + c) := by omega
  rw [e3]
  have e4 : ((p11 + s + n) * 18446744073709551616 + (o * 4294967296 + c)) / 18446744073709551616 = p11 + s + n := by
    rw [Int.add_comm, Int.add_mul_ediv_right _ _ (by decide), Int.ediv_eq_zero_of_lt (by omega) (by omega), Int.zero_add]
  refine ⟨?_, trivial⟩
  rw [e4, Int.emod_eq_of_lt (by omega) (by omega)]

theorem lz_ten (k : Nat) (hk : 0 < k) : bits_LeadingZeros64.f k 10000 = some 50 := by
  obtain ⟨k, rfl⟩ : ∃ m, k = m + 1 := ⟨k - 1, by omega⟩
  unfold bits_LeadingZeros64.f bits_Len64.f
  rw [if_neg (by decide), bits_Len64.j0]
  kernel_rfl

/-- the division, by ten thousand -/
theorem div64 (k : Nat) (hk : 5 < k) (hi lo : Int) (hh0 : 0 ≤ hi) (hh : hi < 10000) (hl0 : 0 ≤ lo) (hl : lo < 18446744073709551616) :
    bits_Div64.f k hi lo 10000 = some ((hi * 18446744073709551616 + lo) / 10000, (hi * 18446744073709551616 + lo) % 10000) := by
  unfold bits_Div64.f
  rw [if_neg (by decide), if_neg (by omega)]
  by_cases h0 : hi = 0
  · subst h0
    rw [if_pos rfl]
    have e1 : Int.tdiv lo 10000 = lo / 10000 := Int.tdiv_eq_ediv_of_nonneg hl0
    have e2 : Int.tmod lo 10000 = lo % 10000 := Int.tmod_eq_emod_of_nonneg hl0
    rw [e1, e2, IntKind.wrap_u64]
    congr 2 <;> omega
  · rw [if_neg h0, lz_ten k (by omega)]
    simp only [Option.bind_some]
    have es : IntKind.u64.wrap 50 = 50 := by decide
    have es2 : IntKind.u64.wrap (64 - 50) = 14 := by decide
    rw [es, es2, if_pos (by decide), if_pos (by decide)]
    have ey : shl .u64 10000 50 = 11258999068426240000 := by rw [shl64 10000 50 50 rfl (by decide)]; decide
    have eh : shl .u64 hi 50 = hi * 1125899906842624 := by rw [shl64 hi 50 50 rfl (by decide)]; omega
    have el : shr .u64 lo 14 = lo / 16384 := by rw [shr64 lo 14 14 rfl (by decide)]; rfl
    have e10 : shl .u64 lo 50 = lo * 1125899906842624 % 18446744073709551616 := by rw [shl64 lo 50 50 rfl (by decide)]; rfl
    rw [ey, eh, el, e10]
    rw [if_neg (by decide)]
    have eor : Go.bits .or .u64 (hi * 1125899906842624) (lo / 16384) = hi * 1125899906842624 + lo / 16384 := u64_join 50 _ _ (by omega) (by omega) (by omega) (by omega) (by omega) (by omega)
    rw [eor, u64_low32 11258999068426240000 (by decide) (by decide), u64_low32 _ (by omega) (by omega)]
    obtain ⟨u, hu⟩ : ∃ u, u = hi * 1125899906842624 + lo / 16384 := ⟨_, rfl⟩
    obtain ⟨v, hv⟩ : ∃ v, v = lo * 1125899906842624 % 18446744073709551616 := ⟨_, rfl⟩
    rw [← hu, ← hv]
    have ed : (11258999068426240000 : Int) / 4294967296 = 2621440000 := by decide
    have em : (11258999068426240000 : Int) % 4294967296 = 0 := by decide
    rw [ed, em]
    have eq1 : IntKind.u64.wrap (Int.tdiv u 2621440000) = u / 2621440000 := by
      rw [Int.tdiv_eq_ediv_of_nonneg (by omega), IntKind.wrap_u64]; omega
    rw [eq1]
    obtain ⟨q1, hq1⟩ : ∃ q, q = u / 2621440000 := ⟨_, rfl⟩
    rw [← hq1]
    have er1 : IntKind.u64.wrap (u - IntKind.u64.wrap (q1 * 2621440000)) = u % 2621440000 := by
      simp only [IntKind.wrap_u64]; omega
    rw [er1]
    obtain ⟨k, rfl⟩ : ∃ m, k = m + 5 := ⟨k - 5, by omega⟩
    rw [bits_Div64.l0, if_neg (by omega)]
    have z1 : IntKind.u64.wrap (q1 * 0) = 0 := by rw [Int.mul_zero]; decide
    rw [z1]
    have c1 : (decide ((0 : Int) > IntKind.u64.wrap (IntKind.u64.wrap (4294967296 * (u % 2621440000)) + v / 4294967296))) = false := by
      have := wrap_u64_nonneg (IntKind.u64.wrap (4294967296 * (u % 2621440000)) + v / 4294967296)
      simp; omega
    rw [c1, bits_Div64.j1, if_neg (by decide), bits_Div64.j2, if_neg (by decide)]
    have e21 : IntKind.u64.wrap (IntKind.u64.wrap (IntKind.u64.wrap (u * 4294967296) + v / 4294967296) - IntKind.u64.wrap (q1 * 11258999068426240000)) = (u % 2621440000) * 4294967296 + v / 4294967296 := by
      simp only [IntKind.wrap_u64]; omega
    rw [e21]
    obtain ⟨r, hr⟩ : ∃ r, r = (u % 2621440000) * 4294967296 + v / 4294967296 := ⟨_, rfl⟩
    rw [← hr]
    have eq0 : IntKind.u64.wrap (Int.tdiv r 2621440000) = r / 2621440000 := by
      rw [Int.tdiv_eq_ediv_of_nonneg (by omega), IntKind.wrap_u64]; omega
    rw [eq0]
    obtain ⟨q0, hq0⟩ : ∃ q, q = r / 2621440000 := ⟨_, rfl⟩
    rw [← hq0]
    have er0 : IntKind.u64.wrap (r - IntKind.u64.wrap (q0 * 2621440000)) = r % 2621440000 := by
      simp only [IntKind.wrap_u64]; omega
    rw [er0, bits_Div64.l1, if_neg (by omega)]
    have z0 : IntKind.u64.wrap (q0 * 0) = 0 := by rw [Int.mul_zero]; decide
    rw [z0]
    have c0 : (decide ((0 : Int) > IntKind.u64.wrap (IntKind.u64.wrap (4294967296 * (r % 2621440000)) + v % 4294967296))) = false := by
      have := wrap_u64_nonneg (IntKind.u64.wrap (4294967296 * (r % 2621440000)) + v % 4294967296)
      simp; omega
    rw [c0, bits_Div64.j4, if_neg (by decide), if_pos (by decide)]
    have eR : shr .u64 (IntKind.u64.wrap (IntKind.u64.wrap (IntKind.u64.wrap (r * 4294967296) + v % 4294967296) - IntKind.u64.wrap (q0 * 11258999068426240000))) 50 = IntKind.u64.wrap (IntKind.u64.wrap (IntKind.u64.wrap (r * 4294967296) + v % 4294967296) - IntKind.u64.wrap (q0 * 11258999068426240000)) / 1125899906842624 := by rw [shr64 _ 50 50 rfl (by decide)]; rfl
    rw [eR]
    simp only [IntKind.wrap_u64, Option.some.injEq, Prod.mk.injEq]
    omega
end Go.Proofs.Ytdeojdbehbpggaa.K
