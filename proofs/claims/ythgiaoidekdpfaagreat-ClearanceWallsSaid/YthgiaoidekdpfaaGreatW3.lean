/-
  WIDE, the plain law: the high and low halves of a product. Conditions: none.
-/
import Derived.Test.YthgiaoidekdpfaaGreatW2
set_option linter.all false
namespace Go.Proofs.YthgiaoidekdpfaaGreat
open Go.SX Go.RowKit
theorem wrU {x : Int} (h1 : 0 ≤ x) (h2 : x < 18446744073709551616) : IntKind.u64.wrap x = x := by
  unfold IntKind.wrap
  simp only [IntKind.bits, IntKind.signed]
  simp
  omega
theorem wrU_mod (x : Int) : IntKind.u64.wrap x = x % 18446744073709551616 := by
  unfold IntKind.wrap
  simp only [IntKind.bits, IntKind.signed]
  simp
/-- The grade school product. -/
theorem halves (a0 a1 b0 b1 : Int) (h0 : 0 ≤ a0 ∧ a0 < 4294967296) (h1 : 0 ≤ a1 ∧ a1 < 4294967296) (h2 : 0 ≤ b0 ∧ b0 < 4294967296) (h3 : 0 ≤ b1 ∧ b1 < 4294967296) :
    a1 * b1 + (a1 * b0 + a0 * b0 / 4294967296) / 4294967296 + ((a1 * b0 + a0 * b0 / 4294967296) % 4294967296 + a0 * b1) / 4294967296 = ((a1 * 4294967296 + a0) * (b1 * 4294967296 + b0)) / 18446744073709551616 := by
  have e : (a1 * 4294967296 + a0) * (b1 * 4294967296 + b0) = a1 * b1 * 18446744073709551616 + (a1 * b0) * 4294967296 + (a0 * b1) * 4294967296 + a0 * b0 := by
    simp only [Int.add_mul, Int.mul_add]
    have e1 : a1 * 4294967296 * (b1 * 4294967296) = a1 * b1 * 18446744073709551616 := by
      rw [Int.mul_assoc, Int.mul_comm 4294967296 (b1 * 4294967296), Int.mul_assoc b1, ← Int.mul_assoc]; rfl
    have e2 : a1 * 4294967296 * b0 = a1 * b0 * 4294967296 := by rw [Int.mul_assoc, Int.mul_comm 4294967296 b0, Int.mul_assoc]
    have e3 : a0 * (b1 * 4294967296) = a0 * b1 * 4294967296 := by rw [Int.mul_assoc]
    rw [e1, e2, e3]; omega
  rw [e]
  have n1 : 0 ≤ a1 * b1 := Int.mul_nonneg h1.1 h3.1
  have n2 : 0 ≤ a1 * b0 := Int.mul_nonneg h1.1 h2.1
  have n3 : 0 ≤ a0 * b1 := Int.mul_nonneg h0.1 h3.1
  have n4 : 0 ≤ a0 * b0 := Int.mul_nonneg h0.1 h2.1
  generalize a1 * b1 = p at *
  generalize a1 * b0 = q at *
  generalize a0 * b1 = r at *
  generalize a0 * b0 = s at *
  omega
theorem shr32 (x : Int) (h : 0 ≤ x) : ishift .shr .u64 x 32 = x / 4294967296 := by
  have e : (2 : Int) ^ min (32 : Int).toNat IntKind.u64.bits = 4294967296 := by decide
  unfold ishift
  simp only [e]
  exact Int.fdiv_eq_ediv_of_nonneg _ (by omega)
theorem and32 (x : Int) (h1 : 0 ≤ x) (h2 : x < 18446744073709551616) : ibits .and .u64 x 4294967295 = x % 4294967296 := by
  obtain ⟨n, rfl⟩ := Int.eq_ofNat_of_zero_le h1
  have h3 : n < 18446744073709551616 := by omega
  have e : (BitVec.ofInt 64 (n : Int) &&& BitVec.ofInt 64 4294967295).toNat = n % 4294967296 := by
    rw [BitVec.toNat_and]
    have e1 : (BitVec.ofInt 64 (n : Int)).toNat = n := by simp [BitVec.toNat_ofInt]; omega
    have e2 : (BitVec.ofInt 64 (4294967295 : Int)).toNat = 2 ^ 32 - 1 := by decide
    rw [e1, e2, Nat.and_two_pow_sub_one_eq_mod]
  show IntKind.u64.wrap ((BitVec.ofInt 64 (n : Int) &&& BitVec.ofInt 64 4294967295).toNat : Int) = _
  rw [e, wrU (by omega) (by omega)]
  omega
theorem prod_lt {x y : Int} (m n : Int) (hx : 0 ≤ x ∧ x ≤ m) (hy : 0 ≤ y ∧ y ≤ n) (hm : 0 ≤ m) : 0 ≤ x * y ∧ x * y ≤ m * n :=
  ⟨Int.mul_nonneg hx.1 hy.1, Int.mul_le_mul hx.2 hy.2 hy.1 hm⟩
theorem mul64_lo (a b : Int) : mul64_1 a b = a * b % 18446744073709551616 := wrU_mod _
theorem mul64_hi (a b : Int) (ha : 0 ≤ a ∧ a < 18446744073709551616) (hb : 0 ≤ b ∧ b < 18446744073709551616) : mul64_0 a b = a * b / 18446744073709551616 := by
  have a0 : 0 ≤ a % 4294967296 ∧ a % 4294967296 < 4294967296 := by omega
  have a1 : 0 ≤ a / 4294967296 ∧ a / 4294967296 < 4294967296 := by omega
  have b0 : 0 ≤ b % 4294967296 ∧ b % 4294967296 < 4294967296 := by omega
  have b1 : 0 ≤ b / 4294967296 ∧ b / 4294967296 < 4294967296 := by omega
  have ea : a = a / 4294967296 * 4294967296 + a % 4294967296 := by omega
  have eb : b = b / 4294967296 * 4294967296 + b % 4294967296 := by omega
  have hh := halves _ _ _ _ a0 a1 b0 b1
  rw [← ea, ← eb] at hh
  rw [← hh]
  unfold mul64_0 mul64_s0
  rw [and32 a ha.1 ha.2, and32 b hb.1 hb.2, shr32 a ha.1, shr32 b hb.1]
  generalize a % 4294967296 = x0 at *
  generalize a / 4294967296 = x1 at *
  generalize b % 4294967296 = y0 at *
  generalize b / 4294967296 = y1 at *
  have p1 := prod_lt (x := x1) (y := y1) 4294967295 4294967295 (by omega) (by omega) (by omega)
  have p2 := prod_lt (x := x1) (y := y0) 4294967295 4294967295 (by omega) (by omega) (by omega)
  have p3 := prod_lt (x := x0) (y := y1) 4294967295 4294967295 (by omega) (by omega) (by omega)
  have p4 := prod_lt (x := x0) (y := y0) 4294967295 4294967295 (by omega) (by omega) (by omega)
  generalize x1 * y1 = p at *
  generalize x1 * y0 = q at *
  generalize x0 * y1 = r at *
  generalize x0 * y0 = s at *
  rw [wrU (x := s) (by omega) (by omega), wrU (x := q) (by omega) (by omega), wrU (x := p) (by omega) (by omega), wrU (x := r) (by omega) (by omega), shr32 s (by omega), wrU (x := q + s / 4294967296) (by omega) (by omega),
    shr32 _ (by omega), and32 _ (by omega) (by omega), wrU (x := p + _) (by omega) (by omega), wrU (x := _ % _ + r) (by omega) (by omega), shr32 _ (by omega), wrU (by omega) (by omega)]
end Go.Proofs.YthgiaoidekdpfaaGreat
