/-
  FAR FROM A PIECE that lies along an axis: by the distance across. Conditions: bounds.
-/
import Derived.Test.YthgiaoidekdpfaaGreatA1
set_option linter.all false
namespace Go.Proofs.YthgiaoidekdpfaaGreat
open Go.SX Go.RowKit
theorem unit_nm {a b n : Int} (h : unit2 a b) : n * a * (n * a) + n * b * (n * b) = n * n := by rcases h with ⟨rfl, rfl⟩ | ⟨rfl, rfl⟩ | ⟨rfl, rfl⟩ | ⟨rfl, rfl⟩ <;> grind
theorem far_line {a0 a1 a2 a3 y z d a b n : Int} (a4 a5 : Int) (a7 : Bool) (hab : unit2 a b) (hn : 1 ≤ n ∧ n ≤ 20000) (h0 : bd 60000 a0) (h1 : bd 60000 a1) (h2 : a2 = a0 + n * a) (h3 : a3 = a1 + n * b) (hy : bd 60000 y) (hz : bd 60000 z)
    (hd : 0 ≤ d ∧ d ≤ 2000) (hk : d ≤ a * (z - a1) - b * (y - a0) ∨ a * (z - a1) - b * (y - a0) ≤ -d) : dstC Cl a0 a1 a2 a3 a4 a5 0 a7 y z d = false := by
  have b2 : bd 90000 a2 := by rcases hab with ⟨rfl, rfl⟩ | ⟨rfl, rfl⟩ | ⟨rfl, rfl⟩ | ⟨rfl, rfl⟩ <;> omega
  have b3 : bd 90000 a3 := by rcases hab with ⟨rfl, rfl⟩ | ⟨rfl, rfl⟩ | ⟨rfl, rfl⟩ | ⟨rfl, rfl⟩ <;> omega
  have m0 : minus_0 y a0 = y - a0 := minus_eq (by omega) (by omega)
  have m1 : minus_0 z a1 = z - a1 := minus_eq (by omega) (by omega)
  have m2 : minus_0 a2 a0 = n * a := by rw [minus_eq (by omega) (by omega)]; omega
  have m3 : minus_0 a3 a1 = n * b := by rw [minus_eq (by omega) (by omega)]; omega
  have m4 : minus_0 y a2 = y - a2 := minus_eq (by omega) (by omega)
  have m5 : minus_0 z a3 = z - a3 := minus_eq (by omega) (by omega)
  obtain ⟨k, ek⟩ : ∃ k, k = a * (z - a1) - b * (y - a0) := ⟨_, rfl⟩
  rw [← ek] at hk
  have kk : d * d ≤ k * k := by
    rcases hk with h | h
    · exact sq_le hd.1 h
    · have := sq_le hd.1 (show d ≤ -k by omega)
      have e : -k * -k = k * k := by grind
      omega
  have bna : bd 20000 (n * a) := by rcases hab with ⟨rfl, rfl⟩ | ⟨rfl, rfl⟩ | ⟨rfl, rfl⟩ | ⟨rfl, rfl⟩ <;> omega
  have bnb : bd 20000 (n * b) := by rcases hab with ⟨rfl, rfl⟩ | ⟨rfl, rfl⟩ | ⟨rfl, rfl⟩ | ⟨rfl, rfl⟩ <;> omega
  have dd : IntKind.i64.wrap (d * d) = d * d := by
    have := mul_bd (m := 2000) (n := 2000) (x := d) (y := d) (by omega) (by omega) (by omega) (by omega)
    exact wrI (by omega) (by omega)
  have ic : isI (vcross_0 (n * a) (n * b) (y - a0) (z - a1)) := wrap_isI _
  have hB : isB a0 a1 a2 a3 a4 a5 0 a7 y z = false := rfl
  have c3 : Cl (dv3 a0 a1 a2 a3 y z d) = false := by
    unfold dv3 Cl
    rw [m0, m1, m2, m3, wcmp_eq _ _ _ _ ic ic (wrap_isI _) (v_isI _ _ _ _), dd, vcross_eq (by omega) (by omega) (by omega) (by omega), vinner_eq (by omega) (by omega) (by omega) (by omega), unit_nm hab]
    have e : n * a * (z - a1) - n * b * (y - a0) = n * k := by rw [ek]; grind
    rw [e]
    have e2 : n * k * (n * k) = k * k * (n * n) := by grind
    rw [e2]
    have nn := Int.mul_nonneg (show 0 ≤ n by omega) (show 0 ≤ n by omega)
    have := Int.mul_le_mul_of_nonneg_right kk nn
    rcases cmpI_cases (k * k * (n * n)) (d * d * (n * n)) with ⟨h, _⟩ | ⟨_, h⟩ | ⟨_, h⟩
    · omega
    · rw [h]; rfl
    · rw [h]; rfl
  have k1 : k * k ≤ (y - a0) * (y - a0) + (z - a1) * (z - a1) := by
    have p := sq_nn1 (y - a0)
    have q := sq_nn1 (z - a1)
    have e : k * k = (z - a1) * (z - a1) ∨ k * k = (y - a0) * (y - a0) := by
      rcases hab with ⟨rfl, rfl⟩ | ⟨rfl, rfl⟩ | ⟨rfl, rfl⟩ | ⟨rfl, rfl⟩
      · left; rw [ek]; grind
      · right; rw [ek]; grind
      · left; rw [ek]; grind
      · right; rw [ek]; grind
    rcases e with e | e <;> omega
  have k2 : k * k ≤ (y - a2) * (y - a2) + (z - a3) * (z - a3) := by
    have p := sq_nn1 (y - a2)
    have q := sq_nn1 (z - a3)
    have e : k * k = (z - a3) * (z - a3) ∨ k * k = (y - a2) * (y - a2) := by
      rcases hab with ⟨rfl, rfl⟩ | ⟨rfl, rfl⟩ | ⟨rfl, rfl⟩ | ⟨rfl, rfl⟩
      · left; rw [ek, h3]; grind
      · right; rw [ek, h2]; grind
      · left; rw [ek, h3]; grind
      · right; rw [ek, h2]; grind
    rcases e with e | e <;> omega
  have c4 : Cl (dv4 a0 a1 a2 a3 y z d) = false := by
    unfold dv4 Cl
    rw [m0, m1, m4, m5, wcmp_eq _ _ _ _ (by split <;> exact v_isI _ _ _ _) ⟨by omega, by omega⟩ ⟨by omega, by omega⟩ ⟨by omega, by omega⟩, vinner_eq (by omega) (by omega) (by omega) (by omega), vinner_eq (by omega) (by omega) (by omega) (by omega), Int.mul_one]
    generalize (y - a0) * (y - a0) + (z - a1) * (z - a1) = A at *
    generalize (y - a2) * (y - a2) + (z - a3) * (z - a3) = B at *
    rcases cmpI_cases (if B < A then B else A) (d * d) with ⟨h, _⟩ | ⟨_, h⟩ | ⟨_, h⟩
    · exfalso; split at h <;> omega
    · rw [h]; rfl
    · rw [h]; rfl
  unfold dstC
  rw [hB, cond_false, c3, c4]
  cases isS a0 a1 a2 a3 0 y z <;> rfl
/-- An end of the piece itself is near. -/
theorem near_end {a0 a1 a2 a3 d : Int} (a4 a5 : Int) (a7 : Bool) (h0 : bd 60000 a0) (h1 : bd 60000 a1) (h2 : bd 60000 a2) (h3 : bd 60000 a3) (hd : 1 ≤ d ∧ d ≤ 2000) : dstC Cl a0 a1 a2 a3 a4 a5 0 a7 a0 a1 d = true := by
  have m0 : minus_0 a0 a0 = 0 := minus_self _
  have m1 : minus_0 a1 a1 = 0 := minus_self _
  have m4 : minus_0 a0 a2 = a0 - a2 := minus_eq (by omega) (by omega)
  have m5 : minus_0 a1 a3 = a1 - a3 := minus_eq (by omega) (by omega)
  have m2 : minus_0 a2 a0 = a2 - a0 := minus_eq (by omega) (by omega)
  have m3 : minus_0 a3 a1 = a3 - a1 := minus_eq (by omega) (by omega)
  have hS : isS a0 a1 a2 a3 0 a0 a1 = false := by
    unfold isS
    rw [m0, m1, m2, m3, vinner_eq (by omega) (by omega) (by omega) (by omega), Int.zero_mul, Int.zero_mul]
    rfl
  have hB : isB a0 a1 a2 a3 a4 a5 0 a7 a0 a1 = false := rfl
  have p := sq_nn (a0 - a2) (a1 - a3)
  have dd : 1 ≤ d * d := Int.mul_le_mul hd.1 hd.1 (by omega) (by omega)
  unfold dstC
  rw [hB, hS, cond_false, cond_false]
  unfold dv4 Cl
  rw [m0, m1, m4, m5, wcmp_eq _ _ _ _ (by split <;> exact v_isI _ _ _ _) ⟨by omega, by omega⟩ ⟨by omega, by omega⟩ ⟨by omega, by omega⟩, vinner_eq (by omega) (by omega) (by omega) (by omega), vinner_eq (by omega) (by omega) (by omega) (by omega), Int.mul_one]
  rw [show (0 : Int) * 0 + 0 * 0 = 0 by omega]
  generalize (a0 - a2) * (a0 - a2) + (a1 - a3) * (a1 - a3) = A at *
  rcases cmpI_cases (if A < 0 then A else 0) (d * d) with ⟨_, h⟩ | ⟨h, _⟩ | ⟨h, _⟩
  · rw [h]; rfl
  · exfalso; split at h <;> omega
  · exfalso; split at h <;> omega
/-- Both ends of a piece on one side: they do not cross. -/
theorem no_cross {p0 p1 p2 p3 a0 a1 a2 a3 a b n : Int} (hab : unit2 a b) (hn : 1 ≤ n ∧ n ≤ 20000) (h0 : bd 60000 a0) (h1 : bd 60000 a1) (h2 : a2 = a0 + n * a) (h3 : a3 = a1 + n * b) (q0 : bd 60000 p0) (q1 : bd 60000 p1) (q2 : bd 60000 p2) (q3 : bd 60000 p3)
    (k0 : 0 < a * (p1 - a1) - b * (p0 - a0)) (k1 : 0 < a * (p3 - a1) - b * (p2 - a0)) : ccross_0 p0 p1 p2 p3 0 a0 a1 a2 a3 0 = false := by
  have b2 : bd 90000 a2 := by rcases hab with ⟨rfl, rfl⟩ | ⟨rfl, rfl⟩ | ⟨rfl, rfl⟩ | ⟨rfl, rfl⟩ <;> omega
  have b3 : bd 90000 a3 := by rcases hab with ⟨rfl, rfl⟩ | ⟨rfl, rfl⟩ | ⟨rfl, rfl⟩ | ⟨rfl, rfl⟩ <;> omega
  have m2 : minus_0 a2 a0 = n * a := by rw [minus_eq (by omega) (by omega)]; omega
  have m3 : minus_0 a3 a1 = n * b := by rw [minus_eq (by omega) (by omega)]; omega
  have bna : bd 20000 (n * a) := by rcases hab with ⟨rfl, rfl⟩ | ⟨rfl, rfl⟩ | ⟨rfl, rfl⟩ | ⟨rfl, rfl⟩ <;> omega
  have bnb : bd 20000 (n * b) := by rcases hab with ⟨rfl, rfl⟩ | ⟨rfl, rfl⟩ | ⟨rfl, rfl⟩ | ⟨rfl, rfl⟩ <;> omega
  have one : ∀ {y z : Int}, bd 60000 y → bd 60000 z → 0 < a * (z - a1) - b * (y - a0) → wcmp_0 (vcross_0 (n * a) (n * b) (minus_0 y a0) (minus_0 z a1)) 1 0 1 = 1 := by
    intro y z hy hz hk
    rw [csgn (show isI (vcross_0 (n * a) (n * b) (minus_0 y a0) (minus_0 z a1)) from wrap_isI _), minus_eq (by omega) (by omega), minus_eq (by omega) (by omega), vcross_eq (by omega) (by omega) (by omega) (by omega)]
    have e : n * a * (z - a1) - n * b * (y - a0) = n * (a * (z - a1) - b * (y - a0)) := by grind
    rw [e]
    have := Int.mul_pos (show 0 < n by omega) hk
    rcases cmpI_cases (n * (a * (z - a1) - b * (y - a0))) 0 with ⟨h, _⟩ | ⟨h, _⟩ | ⟨_, h⟩
    · omega
    · omega
    · exact h
  have hp : parted_0 a0 a1 a2 a3 p0 p1 p2 p3 = false := by
    unfold parted_0 parted_s0
    rw [m2, m3]
    rw [one q0 q1 k0, one q2 q3 k1]
    decide
  unfold ccross_0
  rw [hp, Bool.and_false]
end Go.Proofs.YthgiaoidekdpfaaGreat
