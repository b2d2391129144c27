/-
  DIVISION, the plain law: a number of two halves by a number of one half (two digits of 32 bits, the second one after the first one). Conditions: the divisor is greater than the upper half.
-/
import Derived.Test.YthgiaoidekdpfaaGreatN2
set_option linter.all false
namespace Go.Proofs.YthgiaoidekdpfaaGreat
open Go.SX Go.RowKit
/-- The trial digit, made less until it is right: q the digit, r the rest for the divisor's upper half. -/
noncomputable def adj (y1 y0 u : Int) : Nat → Int → Int → Int
  | 0, q, _ => q
  | k + 1, q, r => bif decide (q ≥ 4294967296) || decide (q * y0 > 4294967296 * r + u) then (bif decide (r + y1 ≥ 4294967296) then q - 1 else adj y1 y0 u k (q - 1) (r + y1)) else q
structure AdjOk (y1 y0 u32 u q r : Int) : Prop where
  h1 : 2147483648 ≤ y1 ∧ y1 < 4294967296
  h0 : 0 ≤ y0 ∧ y0 < 4294967296
  hu : 0 ≤ u ∧ u < 4294967296
  hn : 0 ≤ u32 ∧ u32 < y1 * 4294967296 + y0
  eq : q * y1 + r = u32
  hr : 0 ≤ r ∧ r < 4294967296
  ge : (u32 * 4294967296 + u) / (y1 * 4294967296 + y0) ≤ q
  q0 : 0 ≤ q
theorem AdjOk.ub {y1 y0 u32 u q r : Int} (h : AdjOk y1 y0 u32 u q r) : q ≤ 4294967297 := by
  obtain ⟨h1, h0, hu, hn, eq, hr, ge, q0⟩ := h
  rcases Int.lt_or_le q 4294967298 with g | g
  · omega
  · have := Int.mul_le_mul_of_nonneg_right g (show 0 ≤ y1 by omega)
    omega
theorem quo_lt {y1 y0 u32 u : Int} (h1 : 2147483648 ≤ y1 ∧ y1 < 4294967296) (h0 : 0 ≤ y0 ∧ y0 < 4294967296) (hu : 0 ≤ u ∧ u < 4294967296) (hn : 0 ≤ u32 ∧ u32 < y1 * 4294967296 + y0) :
    0 ≤ (u32 * 4294967296 + u) / (y1 * 4294967296 + y0) ∧ (u32 * 4294967296 + u) / (y1 * 4294967296 + y0) < 4294967296 := by
  have hY : 0 < y1 * 4294967296 + y0 := by omega
  refine ⟨Int.ediv_nonneg (by omega) (by omega), ?_⟩
  apply Int.ediv_lt_of_lt_mul hY
  have := Int.mul_le_mul_of_nonneg_right (show u32 + 1 ≤ y1 * 4294967296 + y0 by omega) (show (0 : Int) ≤ 4294967296 by omega)
  omega
/-- The products fit. -/
theorem AdjOk.fit {y1 y0 u32 u q r : Int} (h : AdjOk y1 y0 u32 u q r) : 0 ≤ q * y0 ∧ q * y0 < 18446744073709551616 := by
  have hq := h.ub
  have := Int.mul_nonneg h.q0 h.h0.1
  have h2 := Int.mul_le_mul hq (show y0 ≤ 4294967295 by have := h.h0; omega) h.h0.1 (by omega)
  omega
theorem big_cond {y1 y0 u32 u q r : Int} (h : AdjOk y1 y0 u32 u q r) (hc : q ≥ 4294967296 ∨ q * y0 > 4294967296 * r + u) : (u32 * 4294967296 + u) / (y1 * 4294967296 + y0) ≤ q - 1 := by
  have hl := quo_lt h.h1 h.h0 h.hu h.hn
  obtain ⟨h1, h0, hu, hn, eq, hr, ge, q0⟩ := h
  rcases hc with hc | hc
  · omega
  · have hY : 0 < y1 * 4294967296 + y0 := by omega
    have : (u32 * 4294967296 + u) / (y1 * 4294967296 + y0) < q := by
      apply Int.ediv_lt_of_lt_mul hY
      have e : q * (y1 * 4294967296 + y0) = q * y1 * 4294967296 + q * y0 := by grind
      rw [e]
      generalize q * y1 = s at *
      generalize q * y0 = t at *
      omega
    omega
theorem small_cond {y1 y0 u32 u q r : Int} (h : AdjOk y1 y0 u32 u q r) (hc : q * y0 ≤ 4294967296 * r + u) : q = (u32 * 4294967296 + u) / (y1 * 4294967296 + y0) := by
  obtain ⟨h1, h0, hu, hn, eq, hr, ge, q0⟩ := h
  have hY : 0 < y1 * 4294967296 + y0 := by omega
  have : q ≤ (u32 * 4294967296 + u) / (y1 * 4294967296 + y0) := by
    apply Int.le_ediv_of_mul_le hY
    have e : q * (y1 * 4294967296 + y0) = q * y1 * 4294967296 + q * y0 := by grind
    rw [e]
    generalize q * y1 = s at *
    generalize q * y0 = t at *
    omega
  omega
theorem AdjOk.next {y1 y0 u32 u q r : Int} (h : AdjOk y1 y0 u32 u q r) (hc : q ≥ 4294967296 ∨ q * y0 > 4294967296 * r + u) (hr' : r + y1 < 4294967296) : AdjOk y1 y0 u32 u (q - 1) (r + y1) := by
  have hb := big_cond h hc
  have hl := quo_lt h.h1 h.h0 h.hu h.hn
  have e : (q - 1) * y1 = q * y1 - y1 := by rw [Int.sub_mul, Int.one_mul]
  exact ⟨h.h1, h.h0, h.hu, h.hn, by rw [e]; have := h.eq; omega, by have := h.hr; have := h.h1; omega, hb, by omega⟩
theorem adj_last {y1 y0 u32 u q r : Int} (h : AdjOk y1 y0 u32 u q r) (hc : q ≥ 4294967296 ∨ q * y0 > 4294967296 * r + u) (hr' : r + y1 ≥ 4294967296) : q - 1 = (u32 * 4294967296 + u) / (y1 * 4294967296 + y0) := by
  have hb := big_cond h hc
  have hq := h.ub
  have hl := quo_lt h.h1 h.h0 h.hu h.hn
  obtain ⟨h1, h0, hu, hn, eq, hr, ge, q0⟩ := h
  have hY : 0 < y1 * 4294967296 + y0 := by omega
  have : q - 1 ≤ (u32 * 4294967296 + u) / (y1 * 4294967296 + y0) := by
    apply Int.le_ediv_of_mul_le hY
    have e : (q - 1) * (y1 * 4294967296 + y0) = (q * y1 - y1) * 4294967296 + (q - 1) * y0 := by grind
    have h2 := Int.mul_le_mul (show q - 1 ≤ 4294967296 by omega) (show y0 ≤ 4294967295 by omega) h0.1 (by omega)
    rw [e]
    generalize q * y1 = s at *
    generalize (q - 1) * y0 = t at *
    omega
  omega
/-- THE DIGIT. -/
theorem adj_eq {y1 y0 u32 u : Int} : ∀ (k : Nat) (q r : Int), AdjOk y1 y0 u32 u q r → r + 2147483648 * k ≥ 4294967296 → adj y1 y0 u (k + 1) q r = (u32 * 4294967296 + u) / (y1 * 4294967296 + y0)
  | k, q, r, h, hk => by
    unfold adj
    by_cases hc : q ≥ 4294967296 ∨ q * y0 > 4294967296 * r + u
    · have : (decide (q ≥ 4294967296) || decide (q * y0 > 4294967296 * r + u)) = true := by simpa using hc
      rw [this, cond_true]
      by_cases hr : r + y1 ≥ 4294967296
      · rw [decide_eq_true hr, cond_true]
        exact adj_last h hc hr
      · rw [decide_eq_false hr, cond_false]
        have hn := h.next hc (by omega)
        have h1 := h.h1
        cases k with
        | zero => exfalso; have := h.hr; omega
        | succ k => exact adj_eq k _ _ hn (by omega)
    · have : (decide (q ≥ 4294967296) || decide (q * y0 > 4294967296 * r + u)) = false := by simpa using hc
      rw [this, cond_false]
      exact small_cond h (by omega)
/-- The first guess. -/
theorem adj_first {y1 y0 u32 u : Int} (h1 : 2147483648 ≤ y1 ∧ y1 < 4294967296) (h0 : 0 ≤ y0 ∧ y0 < 4294967296) (hu : 0 ≤ u ∧ u < 4294967296) (hn : 0 ≤ u32 ∧ u32 < y1 * 4294967296 + y0) : AdjOk y1 y0 u32 u (u32 / y1) (u32 - u32 / y1 * y1) := by
  have hY : 0 < y1 * 4294967296 + y0 := by omega
  have hd := Int.mul_ediv_add_emod u32 y1
  have hm1 := Int.emod_nonneg u32 (show y1 ≠ 0 by omega)
  have hm2 := Int.emod_lt_of_pos u32 (show 0 < y1 by omega)
  have hc : y1 * (u32 / y1) = u32 / y1 * y1 := Int.mul_comm _ _
  rw [hc] at hd
  refine ⟨h1, h0, hu, hn, by omega, by omega, ?_, Int.ediv_nonneg hn.1 (by omega)⟩
  have : (u32 * 4294967296 + u) / (y1 * 4294967296 + y0) < u32 / y1 + 1 := by
    apply Int.ediv_lt_of_lt_mul hY
    have e : (u32 / y1 + 1) * (y1 * 4294967296 + y0) = (u32 / y1 * y1) * 4294967296 + y1 * 4294967296 + (u32 / y1 + 1) * y0 := by grind
    have := Int.mul_nonneg (show 0 ≤ u32 / y1 + 1 by have := Int.ediv_nonneg hn.1 (show 0 ≤ y1 by omega); omega) h0.1
    rw [e]
    generalize u32 / y1 * y1 = s at *
    generalize (u32 / y1 + 1) * y0 = t at *
    omega
  omega
/-- TWO DIGITS: the quotient and the rest. -/
theorem two_digits {Y u32 u1 u0 q1 r1 q0 : Int} (hY : 0 < Y) (hn : 0 ≤ u32) (h1 : 0 ≤ u1 ∧ u1 < 4294967296) (h0 : 0 ≤ u0 ∧ u0 < 4294967296) (e1 : q1 = (u32 * 4294967296 + u1) / Y) (er : r1 = u32 * 4294967296 + u1 - q1 * Y) (e0 : q0 = (r1 * 4294967296 + u0) / Y) :
    q1 * 4294967296 + q0 = ((u32 * 4294967296 + u1) * 4294967296 + u0) / Y ∧ r1 * 4294967296 + u0 - q0 * Y = ((u32 * 4294967296 + u1) * 4294967296 + u0) % Y ∧ 0 ≤ r1 ∧ r1 < Y := by
  have d1 := Int.mul_ediv_add_emod (u32 * 4294967296 + u1) Y
  have m1 := Int.emod_nonneg (u32 * 4294967296 + u1) (show Y ≠ 0 by omega)
  have m2 := Int.emod_lt_of_pos (u32 * 4294967296 + u1) hY
  have d0 := Int.mul_ediv_add_emod (r1 * 4294967296 + u0) Y
  have m3 := Int.emod_nonneg (r1 * 4294967296 + u0) (show Y ≠ 0 by omega)
  have m4 := Int.emod_lt_of_pos (r1 * 4294967296 + u0) hY
  rw [← e1] at d1
  rw [← e0] at d0
  have c1 : Y * q1 = q1 * Y := Int.mul_comm _ _
  have c0 : Y * q0 = q0 * Y := Int.mul_comm _ _
  rw [c1] at d1
  rw [c0] at d0
  have e : (u32 * 4294967296 + u1) * 4294967296 + u0 = (r1 * 4294967296 + u0 - q0 * Y) + Y * (q1 * 4294967296 + q0) := by
    have : Y * (q1 * 4294967296 + q0) = q1 * Y * 4294967296 + q0 * Y := by grind
    rw [this]
    generalize q1 * Y = s at *
    generalize q0 * Y = t at *
    omega
  have hlt : 0 ≤ r1 * 4294967296 + u0 - q0 * Y ∧ r1 * 4294967296 + u0 - q0 * Y < Y := by omega
  refine ⟨?_, ?_, by omega, by omega⟩
  · rw [e, Int.add_mul_ediv_left _ _ (show Y ≠ 0 by omega), Int.ediv_eq_zero_of_lt hlt.1 hlt.2]
    omega
  · rw [e, Int.add_mul_emod_self_left, Int.emod_eq_of_lt hlt.1 hlt.2]
end Go.Proofs.YthgiaoidekdpfaaGreat
