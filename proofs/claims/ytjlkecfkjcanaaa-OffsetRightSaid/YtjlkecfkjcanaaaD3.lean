/-
  NORMALS, plain law: distance, side, angle. Conditions: bounds.
-/
import Derived.Test.YtjlkecfkjcanaaaD2
set_option linter.all false
namespace Go.Proofs.Ytjlkecfkjcanaaa
open Go.SX Go.RowKit
theorem sgA {x r v V : Int} (hr : 0 < r) (h1 : 0 ≤ x * r → v = V) (h2 : x * r < 0 → v = -V) : (0 ≤ x ∧ v = V) ∨ (x < 0 ∧ v = -V) := by
  rcases Int.lt_or_le x 0 with h | h
  · exact .inr ⟨h, h2 (Int.mul_neg_of_neg_of_pos h hr)⟩
  · exact .inl ⟨h, h1 (Int.mul_nonneg h (Int.le_of_lt hr))⟩
theorem sgB {x r v V : Int} (hr : r < 0) (h1 : 0 ≤ x * r → v = V) (h2 : x * r < 0 → v = -V) : (x ≤ 0 ∧ v = V) ∨ (0 < x ∧ v = -V) := by
  rcases Int.lt_or_le 0 x with h | h
  · exact .inr ⟨h, h2 (Int.mul_neg_of_pos_of_neg h hr)⟩
  · refine .inl ⟨h, h1 ?_⟩
    have := Int.mul_nonneg (show 0 ≤ -x by omega) (show 0 ≤ -r by omega)
    rw [Int.neg_mul_neg] at this; exact this
theorem sg_fin1 {p q U W t0 t1 u w : Int} (A : (t1 = -p ∧ u = U) ∨ (t1 = p ∧ u = -U)) (B : (t0 = q ∧ w = W) ∨ (t0 = -q ∧ w = -W)) : t0 * w - t1 * u = q * W + p * U ∧ (t0 * u + t1 * w = q * U - p * W ∨ t0 * u + t1 * w = -(q * U - p * W)) := by
  rcases A with ⟨rfl, rfl⟩ | ⟨rfl, rfl⟩ <;> rcases B with ⟨rfl, rfl⟩ | ⟨rfl, rfl⟩ <;> simp only [Int.neg_mul, Int.mul_neg, Int.neg_neg] <;> omega
/-- Signs of the parts. -/
theorem bs_sign {t0 t1 r u w p q U W : Int} (hp : 0 ≤ p) (hq : 0 ≤ q) (p1 : t1 = p ∨ t1 = -p) (q1 : t0 = q ∨ t0 = -q) (hr : r ≠ 0)
    (u1 : 0 ≤ -t1 * r → u = U) (u2 : -t1 * r < 0 → u = -U) (w1 : 0 ≤ t0 * r → w = W) (w2 : t0 * r < 0 → w = -W) :
    ((0 < r → t0 * w - t1 * u = q * W + p * U) ∧ (r < 0 → t0 * w - t1 * u = -(q * W + p * U))) ∧ (t0 * u + t1 * w = q * U - p * W ∨ t0 * u + t1 * w = -(q * U - p * W)) := by
  rcases Int.lt_or_le 0 r with hr1 | hr1
  · have a := sgA hr1 u1 u2
    have b := sgA hr1 w1 w2
    clear u1 u2 w1 w2
    have A : (t1 = -p ∧ u = U) ∨ (t1 = p ∧ u = -U) := by
      rcases a with ⟨h, e⟩ | ⟨h, e⟩
      · exact .inl ⟨by omega, e⟩
      · exact .inr ⟨by omega, e⟩
    have B : (t0 = q ∧ w = W) ∨ (t0 = -q ∧ w = -W) := by
      rcases b with ⟨h, e⟩ | ⟨h, e⟩
      · exact .inl ⟨by omega, e⟩
      · exact .inr ⟨by omega, e⟩
    obtain ⟨x, y⟩ := sg_fin1 A B
    exact ⟨⟨fun _ => x, fun h => absurd h (by omega)⟩, y⟩
  · have hr2 : r < 0 := by omega
    have a := sgB hr2 u1 u2
    have b := sgB hr2 w1 w2
    clear u1 u2 w1 w2
    have A : (t1 = -p ∧ -u = U) ∨ (t1 = p ∧ -u = -U) := by
      rcases a with ⟨h, e⟩ | ⟨h, e⟩
      · exact .inr ⟨by omega, by omega⟩
      · exact .inl ⟨by omega, by omega⟩
    have B : (t0 = q ∧ -w = W) ∨ (t0 = -q ∧ -w = -W) := by
      rcases b with ⟨h, e⟩ | ⟨h, e⟩
      · exact .inr ⟨by omega, by omega⟩
      · exact .inl ⟨by omega, by omega⟩
    obtain ⟨x, y⟩ := sg_fin1 A B
    simp only [Int.mul_neg] at x y
    exact ⟨⟨fun h => absurd h (by omega), fun _ => by omega⟩, by omega⟩
theorem bs_pos {p q k n U W : Int} (hp : 0 ≤ p) (hq : 0 ≤ q) (hU : 0 ≤ U) (hW : 0 ≤ W) (hk : 1 ≤ k) (hn : 1 ≤ n) (en : p * p + q * q = n) (U2 : 4 * ((p * k) * (p * k)) ≤ (2 * U + 1) * (2 * U + 1) * n) (W2 : 4 * ((q * k) * (q * k)) ≤ (2 * W + 1) * (2 * W + 1) * n) : 0 < q * W + p * U := by
  have h1 := Int.mul_nonneg hq hW
  have h2 := Int.mul_nonneg hp hU
  rcases Int.lt_or_le 0 (q * W + p * U) with h | h
  · exact h
  · exfalso
    have hk2 := Int.mul_le_mul hk hk (by omega) (by omega)
    have ep : (p * k) * (p * k) = p * p * (k * k) := by grind
    have eq : (q * k) * (q * k) = q * q * (k * k) := by grind
    have kp := Int.mul_le_mul_of_nonneg_left hk2 (sq_nn1 p)
    have kq := Int.mul_le_mul_of_nonneg_left hk2 (sq_nn1 q)
    rw [ep] at U2
    rw [eq] at W2
    have A : p = 0 ∨ U = 0 := by
      rcases Int.mul_eq_zero.1 (show p * U = 0 by omega) with h | h
      · exact .inl h
      · exact .inr h
    have B : q = 0 ∨ W = 0 := by
      rcases Int.mul_eq_zero.1 (show q * W = 0 by omega) with h | h
      · exact .inl h
      · exact .inr h
    rcases A with rfl | rfl <;> rcases B with rfl | rfl <;> omega
/-- THE PLAIN LAW of a normal. -/
theorem beside_law {t0 t1 r n u w k : Int} (hb0 : bd 4194304 t0) (hb1 : bd 4194304 t1) (hr : bd 32768 r) (en : t0 * t0 + t1 * t1 = n) (hn : 1 ≤ n ∧ n ≤ 4611686018427387904) (eu : wOver_0 (-t1) r n 2 = u) (ew : wOver_0 t0 r n 2 = w) (ek : (if -r > r then -r else r) = k) :
    u * u + w * w ≤ (k + 1) * (k + 1) ∧ (1 ≤ k → (k - 1) * (k - 1) ≤ u * u + w * w) ∧ (1 ≤ r → 0 < t0 * w - t1 * u) ∧ (r ≤ -1 → t0 * w - t1 * u < 0) ∧ (t0 * u + t1 * w) * (t0 * u + t1 * w) ≤ n ∧ 2 * ((t0 * u + t1 * w) * (t0 * u + t1 * w)) ≤ n := by
  obtain ⟨U, U0, u1, u2, U1, U2⟩ := over_abs (a := -t1) (g := r) (N := n) (by omega) (by omega) hn
  obtain ⟨W, W0, w1, w2, W1, W2⟩ := over_abs (a := t0) (g := r) (N := n) (by omega) (by omega) hn
  rw [eu] at u1 u2
  rw [ew] at w1 w2
  obtain ⟨p, hp, hp', pa, pp⟩ := abs_ex t1
  obtain ⟨q, hq, hq', qa, qq⟩ := abs_ex t0
  have hk : 0 ≤ k ∧ (r = k ∨ r = -k) ∧ k * k = r * r := by
    rw [← ek]; split
    · exact ⟨by omega, by omega, Int.neg_mul_neg _ _⟩
    · exact ⟨by omega, by omega, rfl⟩
  obtain ⟨k0, k1, kk⟩ := hk
  have e1 : (-t1 * r) * (-t1 * r) = (p * k) * (p * k) := by
    have a : (-t1 * r) * (-t1 * r) = t1 * t1 * (r * r) := by grind
    have b : (p * k) * (p * k) = p * p * (k * k) := by grind
    rw [a, b, pp, kk]
  have e2 : (t0 * r) * (t0 * r) = (q * k) * (q * k) := by
    have a : (t0 * r) * (t0 * r) = t0 * t0 * (r * r) := by grind
    have b : (q * k) * (q * k) = q * q * (k * k) := by grind
    rw [a, b, qq, kk]
  rw [e1] at U1 U2
  rw [e2] at W1 W2
  have en' : p * p + q * q = n := by rw [pp, qq]; omega
  have uu : u * u = U * U := by
    rcases Int.lt_or_le (-t1 * r) 0 with h | h
    · rw [u2 h, Int.neg_mul_neg]
    · rw [u1 h]
  have ww : w * w = W * W := by
    rcases Int.lt_or_le (t0 * r) 0 with h | h
    · rw [w2 h, Int.neg_mul_neg]
    · rw [w1 h]
  rw [uu, ww]
  have h1 := beside_le k0 hn.1 en' U0 W0 U1 W1
  refine ⟨h1, fun hk1 => (beside_ge hk1 hn.1 en' U0 W0 U2 W2).1, ?_⟩
  have hN : 0 < n := by omega
  have i1 := over_ineq hp hq U0 W0 hN U1 W2
  have i2 := over_ineq hq hp W0 U0 hN W1 U2
  have f1 : q * (2 * U - 1) = 2 * (q * U) - q := by grind
  have f2 : p * (2 * W + 1) = 2 * (p * W) + p := by grind
  have f3 : p * (2 * W - 1) = 2 * (p * W) - p := by grind
  have f4 : q * (2 * U + 1) = 2 * (q * U) + q := by grind
  rw [f1, f2] at i1
  rw [f3, f4] at i2
  have ht : (q + p) * (q + p) ≤ 2 * n := by
    have := sq_nn1 (q - p)
    have e : (q - p) * (q - p) + (q + p) * (q + p) = 2 * n := by rw [← en']; grind
    omega
  have hpos : 1 ≤ k → 0 < q * W + p * U := fun h => bs_pos hp hq U0 W0 h hn.1 en' U2 W2
  by_cases hr0 : r = 0
  · subst hr0
    have hk0 : k = 0 := by omega
    have zero : ∀ {x V : Int}, 0 ≤ V → (1 ≤ V → (2 * V - 1) * (2 * V - 1) * n ≤ 4 * ((x * k) * (x * k))) → V = 0 := fun {x V} h0 h => by
      by_cases hV : 1 ≤ V
      · have := h hV
        rw [hk0, Int.mul_zero] at this
        have := Int.mul_pos (Int.mul_pos (show 0 < 2 * V - 1 by omega) (show 0 < 2 * V - 1 by omega)) hN
        omega
      · omega
    have z1 := zero U0 U1
    have z2 := zero W0 W1
    rw [z1] at uu
    rw [z2] at ww
    have z3 : u = 0 := by rcases Int.mul_eq_zero.1 (show u * u = 0 by omega) with h | h <;> exact h
    have z4 : w = 0 := by rcases Int.mul_eq_zero.1 (show w * w = 0 by omega) with h | h <;> exact h
    rw [z3, z4]
    simp only [Int.mul_zero, Int.add_zero, Int.sub_self]
    exact ⟨by omega, by omega, by omega, by omega⟩
  · have zz : ∀ {x V : Int}, 0 ≤ V → (1 ≤ V → (2 * V - 1) * (2 * V - 1) * n ≤ 4 * ((x * k) * (x * k))) → x = 0 → V = 0 := fun {x V} h0 h hx => by
      by_cases hV : 1 ≤ V
      · have := h hV
        rw [hx, Int.zero_mul] at this
        have := Int.mul_pos (Int.mul_pos (show 0 < 2 * V - 1 by omega) (show 0 < 2 * V - 1 by omega)) hN
        omega
      · omega
    obtain ⟨⟨c1, c2⟩, c3⟩ := bs_sign hp hq hp' hq' hr0 u1 u2 w1 w2
    have hi : (t0 * u + t1 * w) * (t0 * u + t1 * w) = (q * U - p * W) * (q * U - p * W) := by
      rcases c3 with h | h <;> rw [h]
      rw [Int.neg_mul_neg]
    have hii : 4 * ((q * U - p * W) * (q * U - p * W)) ≤ (q + p) * (q + p) := by
      have := mul_bd (m := q + p) (n := q + p) (x := 2 * (q * U - p * W)) (y := 2 * (q * U - p * W)) (by constructor <;> omega) (by constructor <;> omega) (by omega) (by omega)
      have e : 2 * (q * U - p * W) * (2 * (q * U - p * W)) = 4 * ((q * U - p * W) * (q * U - p * W)) := by grind
      omega
    have hsq := sq_nn1 (q * U - p * W)
    rw [hi]
    refine ⟨fun h => ?_, fun h => ?_, by omega, by omega⟩
    · rw [c1 (by omega)]; exact hpos (by omega)
    · rw [c2 (by omega)]
      have := hpos (by omega)
      omega
end Go.Proofs.Ytjlkecfkjcanaaa
