/-
  ROOTS, the plain law: what the reference's Sqrt returns. Conditions: the number is not negative.
-/
import Derived.Test.YtjlkecfkjcanaaaR2
set_option linter.all false
namespace Go.Proofs.Ytjlkecfkjcanaaa
open Go.SX Go.RowKit
noncomputable def sqr (n : Int) : Int := fr 63 n 63
theorem sqr_law {n : Int} (h0 : 0 ≤ n) (h1 : n < 9223372036854775808) : 0 ≤ sqr n ∧ sqr n * sqr n ≤ n ∧ n < (sqr n + 1) * (sqr n + 1) ∧ sqr n ≤ 3037000499 := by
  obtain ⟨a, b, c, d⟩ := fr_all (T := 63) h0 (show n < 2 ^ 63 * 2 ^ 63 from by have : (2 : Int) ^ 63 * 2 ^ 63 = 85070591730234615865843651857942052864 := rfl; omega)
  have : fr 63 n 63 ≤ 3037000499 := by
    rcases Int.lt_or_le 3037000499 (fr 63 n 63) with h | h
    · have := Int.mul_le_mul (show (3037000500 : Int) ≤ fr 63 n 63 by omega) (show (3037000500 : Int) ≤ fr 63 n 63 by omega) (by omega) a
      omega
    · exact h
  exact ⟨a, b, c, this⟩
theorem val_prod1 {n : Int} (h0 : 0 ≤ n) (h : isI n) : val (mulP_0 (limbL (wsize_0 n)) (limbL (wsize_0 1))) = n := by
  show val (prodL _ _) = _
  rw [(prodL_eq (wsize_rng h) (wsize_rng (a := 1) (by decide))).2.2, wsize_eq n h, wsize_eq 1 (by decide), if_neg (by omega), if_neg (by omega), Int.mul_one]
/-- SQRT. -/
theorem rSqrt_law {n m : Int} (h0 : 0 ≤ n) (h : isI n) (hm : m = 0 ∨ m = 1 ∨ m = 2) : rRoot_1 n 1 m = true ∧ rRoot_0 n 1 m = if (m = 1 ∧ sqr n * sqr n ≠ n) ∨ (m = 2 ∧ sqr n * (sqr n + 1) < n) then sqr n + 1 else sqr n := by
  obtain ⟨a, b, c, d⟩ := sqr_law h0 h.2
  obtain ⟨x1, x2, x3⟩ := prodL_eq (wsize_rng h) (wsize_rng (a := 1) (by decide))
  have vX := val_prod1 h0 h
  have X1 : rng (mulP_0 (limbL (wsize_0 n)) (limbL (wsize_0 1))) := x1
  have X2 : norm (mulP_0 (limbL (wsize_0 n)) (limbL (wsize_0 1))) := x2
  have hc : (decide (n < 0) || decide ((1 : Int) < 0) || !(m == 0 || m == 1 || m == 2)) = false := by
    rw [decide_eq_false (by omega)]
    rcases hm with rfl | rfl | rfl <;> rfl
  have es : fr 63 (val (mulP_0 (limbL (wsize_0 n)) (limbL (wsize_0 1)))) 63 = sqr n := by rw [vX]; rfl
  have e0 : rroot_0 (mulP_0 (limbL (wsize_0 n)) (limbL (wsize_0 1))) = decide (sqr n * sqr n = n) := by
    unfold rroot_0
    rw [es]
    have : cmpD (mulP_0 (limbL (sqr n)) (limbL (sqr n))) (mulP_0 (limbL (wsize_0 n)) (limbL (wsize_0 1))) = _ := (sqD ⟨a, by omega⟩ X1 X2).1
    rw [this, vX]
    rcases cmpI_cases (sqr n * sqr n) n with ⟨g1, g2⟩ | ⟨g1, g2⟩ | ⟨g1, g2⟩ <;> rw [g2] <;> simp <;> omega
  have e1 : rroot_1 (mulP_0 (limbL (wsize_0 n)) (limbL (wsize_0 1))) = if sqr n * (sqr n + 1) < n then 1 else -1 := by
    unfold rroot_1 rroot_s0
    rw [es, wrU (by omega) (by omega)]
    obtain ⟨y1, y2, y3⟩ := prodL_eq (a := sqr n) (b := sqr n + 1) ⟨a, by omega⟩ ⟨by omega, by omega⟩
    have : cmpD (mulP_0 (limbL (wsize_0 n)) (limbL (wsize_0 1))) (mulP_0 (limbL (sqr n)) (limbL (sqr n + 1))) = _ := cmpD_eq X1 y1 X2 y2
    have y4 : val (mulP_0 (limbL (sqr n)) (limbL (sqr n + 1))) = _ := y3
    rw [this, vX, y4]
    rcases cmpI_cases n (sqr n * (sqr n + 1)) with ⟨g1, g2⟩ | ⟨g1, g2⟩ | ⟨g1, g2⟩ <;> rw [g2]
    · rw [if_neg (by omega)]; rfl
    · rw [if_neg (by omega)]; rfl
    · rw [if_pos (by omega)]; rfl
  unfold rRoot_0 rRoot_1
  rw [hc, cond_false, cond_false, es, e0, e1]
  have es0 : rrounded_s0 false (sqr n) (decide (sqr n * sqr n = n)) (if sqr n * (sqr n + 1) < n then 1 else -1) m = if (m = 1 ∧ sqr n * sqr n ≠ n) ∨ (m = 2 ∧ sqr n * (sqr n + 1) < n) then sqr n + 1 else sqr n := by
    unfold rrounded_s0
    have w : IntKind.u64.wrap (sqr n + 1) = sqr n + 1 := wrU (by omega) (by omega)
    rw [w]
    rcases hm with rfl | rfl | rfl
    · rfl
    · by_cases h : sqr n * sqr n = n
      · simp [h]
      · simp [h]
    · by_cases h : sqr n * (sqr n + 1) < n
      · simp [h]
      · simp [h]
  have hb : 0 ≤ (if (m = 1 ∧ sqr n * sqr n ≠ n) ∨ (m = 2 ∧ sqr n * (sqr n + 1) < n) then sqr n + 1 else sqr n) ∧ (if (m = 1 ∧ sqr n * sqr n ≠ n) ∨ (m = 2 ∧ sqr n * (sqr n + 1) < n) then sqr n + 1 else sqr n) ≤ 3037000500 := by split <;> omega
  unfold rrounded_0 rrounded_1
  rw [es0, decide_eq_false (by omega)]
  generalize (if (m = 1 ∧ sqr n * sqr n ≠ n) ∨ (m = 2 ∧ sqr n * (sqr n + 1) < n) then sqr n + 1 else sqr n) = v at *
  simp only [cond_false]
  rw [decide_eq_false (by omega), cond_false, wrI (by omega) (by omega)]
  exact ⟨rfl, rfl⟩
end Go.Proofs.Ytjlkecfkjcanaaa
