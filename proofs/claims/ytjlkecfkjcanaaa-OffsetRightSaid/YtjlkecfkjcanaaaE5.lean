/-
  TRIM, plain laws: the program's and the reference's are the same. Conditions: bounds.
-/
import Derived.Test.YtjlkecfkjcanaaaE3
import Derived.Test.YtjlkecfkjcanaaaD3
set_option linter.all false
namespace Go.Proofs.Ytjlkecfkjcanaaa
open Go.SX Go.RowKit
/-- root x + c ≤ root y -/
def Rr (x c y : Int) : Prop := 0 ≤ y - x - c * c ∧ 4 * (c * c * x) ≤ (y - x - c * c) * (y - x - c * c)
/-- root y ≤ root x + c -/
def Lr (x c y : Int) : Prop := y - x - c * c ≤ 0 ∨ (y - x - c * c) * (y - x - c * c) ≤ 4 * (c * c * x)
theorem le_of_sq {a b : Int} (hb : 0 ≤ b) (h : a * a ≤ b * b) : a ≤ b := by
  rcases Int.lt_or_le b a with g | g
  · have := Int.mul_self_lt_mul_self hb g; omega
  · exact g
theorem sq_le {a b : Int} (ha : 0 ≤ a) (h : a ≤ b) : a * a ≤ b * b := Int.mul_le_mul h h ha (by omega)
theorem cx_nn {c x : Int} (hx : 0 ≤ x) : 0 ≤ c * c * x := Int.mul_nonneg (sq_nn1 c) hx
theorem cx_le {c d x : Int} (hc : 0 ≤ c) (h : c ≤ d) (hx : 0 ≤ x) : c * c * x ≤ d * d * x := Int.mul_le_mul_of_nonneg_right (sq_le hc h) hx
/-- Two parts of a sum: w below the root of a, p at least the sum's; then the rest. -/
theorem rest_ge {p w c d x : Int} (hc : 0 ≤ c) (hd : 0 ≤ d) (hx : 0 ≤ x) (hp : 0 ≤ p) (hpp : 4 * ((c + d) * (c + d) * x) ≤ p * p) (hw : w ≤ 0 ∨ w * w ≤ 4 * (c * c * x)) : 0 ≤ p - w ∧ 4 * (d * d * x) ≤ (p - w) * (p - w) := by
  have e1 : (c + d) * (c + d) * x = c * c * x + 2 * (c * d * x) + d * d * x := by grind
  have n1 := cx_nn (c := c) hx
  have n2 := cx_nn (c := d) hx
  have n3 : 0 ≤ c * d * x := Int.mul_nonneg (Int.mul_nonneg hc hd) hx
  by_cases h0 : w ≤ 0
  · have := sq_le hp (show p ≤ p - w by omega)
    exact ⟨by omega, by omega⟩
  · have hw2 : w * w ≤ 4 * (c * c * x) := by rcases hw with h | h; exact absurd h h0; exact h
    have hg : 0 ≤ p - w := by
      have := le_of_sq (a := w) (b := p) hp (by omega)
      omega
    refine ⟨hg, ?_⟩
    rcases Int.lt_or_le ((p - w) * (p - w)) (4 * (d * d * x)) with h | h
    · exfalso
      have e2 : p * p = w * w + 2 * (w * (p - w)) + (p - w) * (p - w) := by grind
      have k1 : w * (p - w) ≤ 4 * (c * d * x) := by
        refine le_of_sq (by omega) ?_
        have a1 : w * (p - w) * (w * (p - w)) = w * w * ((p - w) * (p - w)) := by grind
        have a2 : 4 * (c * d * x) * (4 * (c * d * x)) = 4 * (c * c * x) * (4 * (d * d * x)) := by grind
        rw [a1, a2]
        exact Int.mul_le_mul hw2 (by omega) (sq_nn1 _) (by omega)
      omega
    · exact h
/-- root x + (c + d) ≤ root y ≤ root z + d -/
theorem Rr_sub_y {x y z c d : Int} (hc : 0 ≤ c) (hd : 0 ≤ d) (hx : 0 ≤ x) (hz : 0 ≤ z) (h : Rr x (c + d) y) (hl : Lr z d y) : Rr x c z := by
  obtain ⟨p0, pp⟩ := h
  unfold Lr at hl
  unfold Rr
  have ecd : (c + d) * (c + d) = c * c + 2 * (c * d) + d * d := by grind
  have hcd := Int.mul_nonneg hc hd
  have ew : z - x - c * c = (y - x - (c + d) * (c + d)) - (y - z - d * d) + 2 * (c * d) := by rw [ecd]; omega
  have ez : z = (z - x - c * c) + x + c * c := by omega
  generalize hp : y - x - (c + d) * (c + d) = p at *
  generalize hu : y - z - d * d = u at *
  generalize hw : z - x - c * c = w at *
  have n1 := cx_nn (c := c) hx
  have n2 := cx_nn (c := d) hx
  have n3 : 0 ≤ c * d * x := Int.mul_nonneg hcd hx
  have e1 : (c + d) * (c + d) * x = c * c * x + 2 * (c * d * x) + d * d * x := by grind
  by_cases hu0 : u ≤ 0
  · have := sq_le p0 (show p ≤ w by omega)
    exact ⟨by omega, by omega⟩
  · have hu2 : u * u ≤ 4 * (d * d * z) := by rcases hl with h | h; exact absurd h hu0; exact h
    by_cases hgood : 0 ≤ w ∧ 4 * (c * c * x) ≤ w * w
    · exact hgood
    · exfalso
      obtain ⟨g0, g1⟩ := rest_ge (w := w) hc hd hx p0 pp (by
        by_cases h : w ≤ 0
        · exact .inl h
        · right
          rcases Int.lt_or_le (w * w) (4 * (c * c * x)) with k | k
          · omega
          · exact absurd ⟨by omega, k⟩ hgood)
      have eu : u = (p - w) + 2 * (c * d) := by omega
      generalize p - w = g at *
      have e2 : u * u = g * g + 4 * (c * d * g) + 4 * (c * d * (c * d)) := by rw [eu]; grind
      have e3 : d * d * z = d * d * w + d * d * x + d * d * (c * c) := by rw [ez]; grind
      have e4 : c * d * (c * d) = d * d * (c * c) := by grind
      have k1 : c * d * g ≤ d * d * w := by omega
      have hd0 : 0 < d := by
        rcases Int.lt_or_le 0 d with h | h
        · exact h
        · exfalso
          have : d = 0 := by omega
          subst this
          have z1 : (0 : Int) * 0 * z = 0 := by rw [Int.zero_mul, Int.zero_mul]
          rw [z1] at hu2
          have := Int.mul_pos (show 0 < u by omega) (show 0 < u by omega)
          omega
      have k2 : c * g ≤ d * w := by
        have a1 : c * d * g = d * (c * g) := by grind
        have a2 : d * d * w = d * (d * w) := by grind
        rw [a1, a2] at k1
        exact Int.le_of_mul_le_mul_left k1 hd0
      have hcg := Int.mul_nonneg hc g0
      have hw0 : 0 ≤ w := by
        rcases Int.lt_or_le w 0 with h | h
        · have := Int.mul_neg_of_pos_of_neg hd0 h; omega
        · exact h
      have hw2 : w * w < 4 * (c * c * x) := by
        rcases Int.lt_or_le (w * w) (4 * (c * c * x)) with k | k
        · exact k
        · exact absurd ⟨hw0, k⟩ hgood
      have k3 := sq_le hcg k2
      have b1 : c * g * (c * g) = c * c * (g * g) := by grind
      have b2 : d * w * (d * w) = d * d * (w * w) := by grind
      have b3 := Int.mul_le_mul_of_nonneg_left g1 (sq_nn1 c)
      have b4 := Int.mul_lt_mul_of_pos_left hw2 (Int.mul_pos hd0 hd0)
      have b5 : c * c * (4 * (d * d * x)) = d * d * (4 * (c * c * x)) := by grind
      omega
/-- root z ≤ root x + d, root x + (c + d) ≤ root y -/
theorem Rr_sub_x {x y z c d : Int} (hc : 0 ≤ c) (hd : 0 ≤ d) (hx : 0 ≤ x) (h : Rr x (c + d) y) (hl : Lr x d z) : Rr z c y := by
  obtain ⟨p0, pp⟩ := h
  unfold Lr at hl
  unfold Rr
  have ecd : (c + d) * (c + d) = c * c + 2 * (c * d) + d * d := by grind
  have hcd := Int.mul_nonneg hc hd
  have ew : y - z - c * c = (y - x - (c + d) * (c + d)) - (z - x - d * d) + 2 * (c * d) := by rw [ecd]; omega
  have ez : z = (z - x - d * d) + x + d * d := by omega
  generalize hp : y - x - (c + d) * (c + d) = p at *
  generalize hu : z - x - d * d = u at *
  generalize hw : y - z - c * c = w at *
  have n1 := cx_nn (c := c) hx
  have n2 := cx_nn (c := d) hx
  have n3 : 0 ≤ c * d * x := Int.mul_nonneg hcd hx
  have e1 : (c + d) * (c + d) * x = c * c * x + 2 * (c * d * x) + d * d * x := by grind
  have e1' : (d + c) * (d + c) * x = (c + d) * (c + d) * x := by rw [Int.add_comm]
  obtain ⟨g0, g1⟩ := rest_ge (w := u) hd hc hx p0 (by rw [e1']; exact pp) hl
  have ewg : w = (p - u) + 2 * (c * d) := by omega
  have e2 : w * w = (p - u) * (p - u) + 4 * (c * d * (p - u)) + 4 * (c * d * (c * d)) := by rw [ewg]; grind
  have e3 : c * c * z = c * c * u + c * c * x + c * c * (d * d) := by rw [ez]; grind
  have e4 : c * d * (c * d) = c * c * (d * d) := by grind
  have hcdg : 0 ≤ c * d * (p - u) := Int.mul_nonneg hcd g0
  refine ⟨by omega, ?_⟩
  have k : c * c * u ≤ c * d * (p - u) := by
    by_cases hu0 : u ≤ 0
    · have : c * c * u ≤ 0 := by
        have := Int.mul_nonneg (sq_nn1 c) (show 0 ≤ -u by omega)
        rw [Int.mul_neg] at this; omega
      omega
    · have hu2 : u * u ≤ 4 * (d * d * x) := by rcases hl with h | h; exact absurd h hu0; exact h
      have a0 : c * u ≤ d * (p - u) := by
        refine le_of_sq (Int.mul_nonneg hd g0) ?_
        have a1 : c * u * (c * u) = c * c * (u * u) := by grind
        have a2 : d * (p - u) * (d * (p - u)) = d * d * ((p - u) * (p - u)) := by grind
        rw [a1, a2]
        have a3 := Int.mul_le_mul_of_nonneg_left hu2 (sq_nn1 c)
        have a4 := Int.mul_le_mul_of_nonneg_left g1 (sq_nn1 d)
        have a5 : c * c * (4 * (d * d * x)) = d * d * (4 * (c * c * x)) := by grind
        omega
      have a6 := Int.mul_le_mul_of_nonneg_left a0 hc
      have a7 : c * (c * u) = c * c * u := by grind
      have a8 : c * (d * (p - u)) = c * d * (p - u) := by grind
      omega
  omega
theorem Rr_mono {x y c c' : Int} (hc : 0 ≤ c') (h1 : c' ≤ c) (hx : 0 ≤ x) (h : Rr x c y) : Rr x c' y := by
  obtain ⟨a, b⟩ := h
  have k1 := sq_le hc h1
  have k2 := cx_le hc h1 hx
  have k3 := sq_le a (show y - x - c * c ≤ y - x - c' * c' by omega)
  exact ⟨by omega, by omega⟩
theorem Rr_Lr {x y c c' : Int} (hc : 0 ≤ c) (h1 : c < c') (hx : 0 ≤ x) (h : Rr x c' y) (hl : Lr x c y) : False := by
  obtain ⟨a, b⟩ := Rr_mono (c' := c + 1) (by omega) (by omega) hx h
  have e : (c + 1) * (c + 1) = c * c + 2 * c + 1 := by grind
  have k2 := cx_le hc (show c ≤ c + 1 by omega) hx
  have k3 := Int.mul_self_lt_mul_self a (show y - x - (c + 1) * (c + 1) < y - x - c * c by omega)
  rcases hl with h | h <;> omega
/-- The triangle's inequality. -/
theorem tri_L {s0 s1 d0 d1 c x y : Int} (hd : d0 * d0 + d1 * d1 ≤ c * c) (hx : s0 * s0 + s1 * s1 = x) (hy : (s0 + d0) * (s0 + d0) + (s1 + d1) * (s1 + d1) = y) : Lr x c y := by
  have e1 : y = x + 2 * (s0 * d0 + s1 * d1) + (d0 * d0 + d1 * d1) := by rw [← hx, ← hy]; grind
  have e2 : (s0 * d0 + s1 * d1) * (s0 * d0 + s1 * d1) + (s0 * d1 - s1 * d0) * (s0 * d1 - s1 * d0) = x * (d0 * d0 + d1 * d1) := by rw [← hx]; grind
  have hx0 : 0 ≤ x := by rw [← hx]; exact sq_nn _ _
  have k1 := Int.mul_le_mul_of_nonneg_left hd hx0
  have k2 := sq_nn1 (s0 * d1 - s1 * d0)
  unfold Lr
  by_cases h : y - x - c * c ≤ 0
  · exact .inl h
  · right
    have k3 := sq_le (show 0 ≤ y - x - c * c by omega) (show y - x - c * c ≤ 2 * (s0 * d0 + s1 * d1) by omega)
    have e3 : 2 * (s0 * d0 + s1 * d1) * (2 * (s0 * d0 + s1 * d1)) = 4 * ((s0 * d0 + s1 * d1) * (s0 * d0 + s1 * d1)) := by grind
    have e4 : x * (c * c) = c * c * x := Int.mul_comm _ _
    omega
/-- Outward. -/
theorem out_R {A Y i D c V : Int} (hc : 0 ≤ c) (hA : 0 ≤ A) (hV : V = A + 2 * Y + D) (hY : Y * Y + i * i = A * D) (hi : 2 * (i * i) ≤ A) (hD : (c + 1) * (c + 1) ≤ D) (hY0 : 0 ≤ Y) : Rr A c V := by
  have e1 : (c + 1) * (c + 1) = c * c + 2 * c + 1 := by grind
  have k1 := Int.mul_le_mul_of_nonneg_left hD hA
  have e2 : A * ((c + 1) * (c + 1)) = c * c * A + 2 * (c * A) + A := by grind
  have n1 := Int.mul_nonneg hc hA
  have k2 := sq_le (show 0 ≤ 2 * Y by omega) (show 2 * Y ≤ V - A - c * c by omega)
  have e3 : 2 * Y * (2 * Y) = 4 * (Y * Y) := by grind
  exact ⟨by omega, by omega⟩
/-- Inward. -/
theorem in_R {A X i D c V : Int} (hc : 0 ≤ c) (hA : (c + 10) * (c + 10) ≤ A) (hV : V = A - 2 * X + D) (hX : X * X + i * i = A * D) (hi : 2 * (i * i) ≤ A) (hD : (c + 1) * (c + 1) ≤ D) (hD2 : D ≤ (c + 3) * (c + 3)) (hX0 : 0 ≤ X) : Rr V c A := by
  have hc10 := sq_le (show (0 : Int) ≤ 10 by omega) (show 10 ≤ c + 10 by omega)
  have hA0 : 0 < A := by omega
  have e1 : (c + 1) * (c + 1) = c * c + 2 * c + 1 := by grind
  have k1 := Int.mul_le_mul_of_nonneg_left hD (show 0 ≤ A by omega)
  have k2 := Int.mul_le_mul_of_nonneg_left hD2 (show 0 ≤ A by omega)
  have e2 : A * ((c + 1) * (c + 1)) = c * c * A + 2 * (c * A) + A := by grind
  have n1 := Int.mul_nonneg hc (show 0 ≤ A by omega)
  have ni := sq_nn1 i
  -- X is at most A, and far from it
  have hz : 0 ≤ A - X := by
    have k3 := Int.mul_le_mul_of_nonneg_left (sq_le (show 0 ≤ c + 3 by omega) (show c + 3 ≤ c + 10 by omega)) (show 0 ≤ A by omega)
    have k4 := Int.mul_le_mul_of_nonneg_left hA (show 0 ≤ A by omega)
    have := le_of_sq (a := X) (b := A) (by omega) (by omega)
    omega
  have hz2 : 49 * A ≤ (A - X) * (A - X) := by
    rcases Int.lt_or_le ((A - X) * (A - X)) (49 * A) with h | h
    · exfalso
      -- X (c + 10) ≤ (c + 3) A
      have a1 : X * (c + 10) ≤ (c + 3) * A := by
        refine le_of_sq (Int.mul_nonneg (by omega) (by omega)) ?_
        have b1 : X * (c + 10) * (X * (c + 10)) = X * X * ((c + 10) * (c + 10)) := by grind
        have b2 : (c + 3) * A * ((c + 3) * A) = A * ((c + 3) * (c + 3)) * A := by grind
        rw [b1, b2]
        exact Int.mul_le_mul (by omega) hA (sq_nn1 _) (Int.mul_nonneg (by omega) (sq_nn1 _))
      have a2 : 7 * A ≤ (A - X) * (c + 10) := by
        have b1 : (A - X) * (c + 10) = (c + 3) * A + 7 * A - X * (c + 10) := by grind
        omega
      have a3 := sq_le (show 0 ≤ 7 * A by omega) a2
      have b3 : 7 * A * (7 * A) = 49 * A * A := by grind
      have b4 : (A - X) * (c + 10) * ((A - X) * (c + 10)) = (A - X) * (A - X) * ((c + 10) * (c + 10)) := by grind
      have a4 := Int.mul_le_mul_of_nonneg_left hA (sq_nn1 (A - X))
      have a5 := Int.mul_lt_mul_of_pos_right h hA0
      omega
    · exact h
  generalize hzz : A - X = z at *
  have eA : A = X + z := by omega
  -- multiplied by A
  have eT : A * (A - V - c * c) = X * X + 2 * (X * z) - i * i - c * c * A := by
    have b1 : A * (A - V - c * c) = 2 * (A * X) - A * D - c * c * A := by rw [hV]; grind
    have b2 : A * X = X * X + X * z := by rw [eA]; grind
    rw [b1, b2, ← hX]; omega
  have eV : A * V = z * z + i * i := by
    have b1 : A * V = A * A - 2 * (A * X) + A * D := by rw [hV]; grind
    have b2 : A * A - 2 * (A * X) + X * X = z * z := by rw [eA]; grind
    rw [b1, ← hX]; omega
  unfold Rr
  generalize hK : A - V - c * c = K at *
  have hXz := Int.mul_nonneg hX0 hz
  have G0 : 4 * (c * A) ≤ 2 * (X * X) - 2 * (c * c * A) - A := by omega
  have T0 : 0 ≤ A * K := by omega
  have K0 : 0 ≤ K := by
    rcases Int.lt_or_le K 0 with h | h
    · have := Int.mul_neg_of_pos_of_neg hA0 h; omega
    · exact h
  refine ⟨K0, ?_⟩
  have hXc : c * c * A ≤ X * X := by omega
  have hXz7 : 7 * (c * A) ≤ X * z := by
    refine le_of_sq hXz ?_
    have b1 : 7 * (c * A) * (7 * (c * A)) = c * c * A * (49 * A) := by grind
    have b2 : X * z * (X * z) = X * X * (z * z) := by grind
    rw [b1, b2]
    exact Int.mul_le_mul hXc hz2 (by omega) (sq_nn1 _)
  have hT : 4 * (X * z) + 4 * (c * A) ≤ 2 * (A * K) := by omega
  have hTT := sq_le (show 0 ≤ 4 * (X * z) + 4 * (c * A) by omega) hT
  have b3 : (4 * (X * z) + 4 * (c * A)) * (4 * (X * z) + 4 * (c * A)) = 16 * (X * X * (z * z)) + 32 * (c * A * (X * z)) + 16 * (c * A * (c * A)) := by grind
  have b4 := Int.mul_le_mul_of_nonneg_right hXc (sq_nn1 z)
  have b5 := Int.mul_le_mul_of_nonneg_left hXz7 n1
  have b6 : c * A * (7 * (c * A)) = 7 * (c * A * (c * A)) := by grind
  have b7 : c * A * (c * A) = c * c * A * A := by grind
  have b8 := Int.mul_le_mul_of_nonneg_left hi (cx_nn (c := c) (show 0 ≤ A by omega))
  have b9' : c * c * A * (2 * (i * i)) = 2 * (c * c * A * (i * i)) := by grind
  have b10 : 2 * (A * K) * (2 * (A * K)) = 4 * (A * A * (K * K)) := by grind
  have b11 : c * c * A * (z * z + i * i) = c * c * A * (z * z) + c * c * A * (i * i) := Int.mul_add _ _ _
  have n5 := cx_nn (c := c) (show 0 ≤ A by omega)
  have n6 := Int.mul_nonneg n5 (show 0 ≤ A by omega)
  have b12 : c * c * A * (A * V) = A * A * (c * c * V) := by grind
  rw [← eV] at b11
  have fin : A * A * (4 * (c * c * V)) ≤ A * A * (K * K) := by
    have : A * A * (4 * (c * c * V)) = 4 * (A * A * (c * c * V)) := by grind
    omega
  exact Int.le_of_mul_le_mul_left fin (Int.mul_pos hA0 hA0)
theorem chalf_or (a b c d : Int) : ((0 < vcross_0 a b c d ∨ vcross_0 a b c d = 0 ∧ 0 < vinner_0 a b c d) ∧ chalf_0 a b c d = 0) ∨ (¬ (0 < vcross_0 a b c d ∨ vcross_0 a b c d = 0 ∧ 0 < vinner_0 a b c d) ∧ chalf_0 a b c d = 1) := by
  unfold chalf_0
  by_cases h1 : 0 < vcross_0 a b c d
  · left; exact ⟨.inl h1, by simp [h1]⟩
  · by_cases h2 : vcross_0 a b c d = 0
    · by_cases h3 : 0 < vinner_0 a b c d
      · left; exact ⟨.inr ⟨h2, h3⟩, by simp [h2, h3]⟩
      · right; exact ⟨by omega, by simp [h2, h3]⟩
    · right; exact ⟨by omega, by rw [show decide (vcross_0 a b c d > 0) = false from decide_eq_false h1, show (vcross_0 a b c d == 0) = false by simpa using h2]; rfl⟩
theorem rhalf_or (a b c d e : Int) : ((0 < IntKind.i64.wrap (vcross_0 a b c d * e) ∨ IntKind.i64.wrap (vcross_0 a b c d * e) = 0 ∧ 0 < vinner_0 a b c d) ∧ rhalf_0 a b c d e = 0) ∨ (¬ (0 < IntKind.i64.wrap (vcross_0 a b c d * e) ∨ IntKind.i64.wrap (vcross_0 a b c d * e) = 0 ∧ 0 < vinner_0 a b c d) ∧ rhalf_0 a b c d e = 1) := by
  unfold rhalf_0
  generalize IntKind.i64.wrap (vcross_0 a b c d * e) = w
  by_cases h1 : 0 < w
  · left; exact ⟨.inl h1, by simp [h1]⟩
  · by_cases h2 : w = 0
    · by_cases h3 : 0 < vinner_0 a b c d
      · left; exact ⟨.inr ⟨h2, h3⟩, by simp [h2, h3]⟩
      · right; exact ⟨by omega, by simp [h2, h3]⟩
    · right; exact ⟨by omega, by rw [show decide (w > 0) = false from decide_eq_false h1, show (w == 0) = false by simpa using h2]; rfl⟩
/-- Counterclockwise. -/
theorem sweep_ccw (a0 a1 b0 b1 p0 p1 : Int) : contains_0 a0 a1 b0 b1 p0 p1 = insweep_0 a0 a1 b0 b1 p0 p1 1 false := by
  have e : ∀ x, isI x → IntKind.i64.wrap (x * 1) = x := fun x h => by rw [Int.mul_one]; exact wrI h.1 h.2
  have r : ∀ a b c d, rhalf_0 a b c d 1 = chalf_0 a b c d := fun a b c d => by
    unfold rhalf_0 chalf_0
    rw [e (vcross_0 a b c d) (wrap_isI _)]
  unfold contains_0 insweep_0
  rw [r, r, e (vcross_0 p0 p1 b0 b1) (wrap_isI _)]
  generalize chalf_0 a0 a1 p0 p1 = h
  generalize chalf_0 a0 a1 b0 b1 = k
  generalize vcross_0 p0 p1 b0 b1 = x
  by_cases h1 : h = k
  · subst h1; simp
  · by_cases h2 : h < k
    · rw [decide_eq_true h2, show (h != k) = true by simpa using h1]; rfl
    · rw [decide_eq_false h2, show (h != k) = true by simpa using h1, show (h == k) = false by simpa using h1]; rfl
/-- Clockwise. -/
theorem sweep_cw {a0 a1 b0 b1 p0 p1 : Int} (ha0 : b9 a0) (ha1 : b9 a1) (hb0 : b9 b0) (hb1 : b9 b1) (hp0 : b9 p0) (hp1 : b9 p1) (ha : a0 ≠ 0 ∨ a1 ≠ 0) (hb : b0 ≠ 0 ∨ b1 ≠ 0) (hp : p0 ≠ 0 ∨ p1 ≠ 0) :
    contains_0 b0 b1 a0 a1 p0 p1 = insweep_0 a0 a1 b0 b1 p0 p1 (-1) false := by
  have hN := sq_pos ha
  have bnd : ∀ {a b c d : Int}, b9 a → b9 b → b9 c → b9 d → bd 2000000000000000000 (vcross_0 a b c d) := fun {a b c d} h1 h2 h3 h4 => by
    have q1 := mul_bd h1 h4 (by omega) (by omega)
    have q2 := mul_bd h2 h3 (by omega) (by omega)
    rw [vcross_eq h1 h2 h3 h4]
    generalize a * d = s at *
    generalize b * c = t at *
    omega
  have neg : ∀ x, bd 2000000000000000000 x → IntKind.i64.wrap (x * -1) = -x := fun x h => by rw [show x * -1 = -x by omega]; exact wrI (by omega) (by omega)
  -- seen from A
  have eC : vcross_0 p0 p1 b0 b1 * (a0 * a0 + a1 * a1) = vinner_0 a0 a1 p0 p1 * vcross_0 a0 a1 b0 b1 - vcross_0 a0 a1 p0 p1 * vinner_0 a0 a1 b0 b1 := by
    rw [vcross_eq hp0 hp1 hb0 hb1, vinner_eq ha0 ha1 hp0 hp1, vcross_eq ha0 ha1 hb0 hb1, vcross_eq ha0 ha1 hp0 hp1, vinner_eq ha0 ha1 hb0 hb1]
    grind
  have eD : vinner_0 b0 b1 p0 p1 * (a0 * a0 + a1 * a1) = vinner_0 a0 a1 p0 p1 * vinner_0 a0 a1 b0 b1 + vcross_0 a0 a1 p0 p1 * vcross_0 a0 a1 b0 b1 := by
    rw [vinner_eq hb0 hb1 hp0 hp1, vinner_eq ha0 ha1 hp0 hp1, vcross_eq ha0 ha1 hb0 hb1, vcross_eq ha0 ha1 hp0 hp1, vinner_eq ha0 ha1 hb0 hb1]
    grind
  have e1 : vcross_0 b0 b1 p0 p1 = -vcross_0 p0 p1 b0 b1 := by rw [vcross_eq hb0 hb1 hp0 hp1, vcross_eq hp0 hp1 hb0 hb1]; grind
  have e2 : vcross_0 b0 b1 a0 a1 = -vcross_0 a0 a1 b0 b1 := by rw [vcross_eq hb0 hb1 ha0 ha1, vcross_eq ha0 ha1 hb0 hb1]; grind
  have e3 : vinner_0 b0 b1 a0 a1 = vinner_0 a0 a1 b0 b1 := by rw [vinner_eq hb0 hb1 ha0 ha1, vinner_eq ha0 ha1 hb0 hb1]; grind
  have e4 : vcross_0 p0 p1 a0 a1 = -vcross_0 a0 a1 p0 p1 := by rw [vcross_eq hp0 hp1 ha0 ha1, vcross_eq ha0 ha1 hp0 hp1]; grind
  have nz : ∀ {q0 q1 : Int}, b9 q0 → b9 q1 → (q0 ≠ 0 ∨ q1 ≠ 0) → vinner_0 a0 a1 q0 q1 ≠ 0 ∨ vcross_0 a0 a1 q0 q1 ≠ 0 := fun {q0 q1} h0 h1 hq => by
    have hM := sq_pos hq
    have e : vinner_0 a0 a1 q0 q1 * vinner_0 a0 a1 q0 q1 + vcross_0 a0 a1 q0 q1 * vcross_0 a0 a1 q0 q1 = (a0 * a0 + a1 * a1) * (q0 * q0 + q1 * q1) := by
      rw [vinner_eq ha0 ha1 h0 h1, vcross_eq ha0 ha1 h0 h1]
      grind
    have hpos := Int.mul_pos hN hM
    rw [← e] at hpos
    by_cases q1 : vinner_0 a0 a1 q0 q1 = 0
    · right
      intro q2
      rw [q1, q2] at hpos
      simp at hpos
    · exact .inl q1
  have core := sweep_core (x := vinner_0 a0 a1 p0 p1) (y := vcross_0 a0 a1 p0 p1) (u := vinner_0 a0 a1 b0 b1) (v := vcross_0 a0 a1 b0 b1) (c := vcross_0 p0 p1 b0 b1) (d := vinner_0 b0 b1 p0 p1) (nz hp0 hp1 hp) (nz hb0 hb1 hb)
    ⟨fun h => by rw [← eC]; exact scaled_pos hN h, fun h => by rw [← eC] at h; exact pos_of_scaled hN h⟩ ⟨fun h => by rw [← eC]; exact scaled_neg hN h, fun h => by rw [← eC] at h; exact neg_of_scaled hN h⟩ ⟨fun h => by rw [← eD]; exact scaled_pos hN h, fun h => by rw [← eD] at h; exact pos_of_scaled hN h⟩
  have o1 := chalf_or b0 b1 p0 p1
  have o2 := chalf_or b0 b1 a0 a1
  have o3 := rhalf_or a0 a1 p0 p1 (-1)
  have o4 := rhalf_or a0 a1 b0 b1 (-1)
  rw [neg _ (bnd ha0 ha1 hp0 hp1)] at o3
  rw [neg _ (bnd ha0 ha1 hb0 hb1)] at o4
  rw [e1] at o1
  rw [e2, e3] at o2
  unfold contains_0 insweep_0
  rw [neg _ (bnd hp0 hp1 hb0 hb1), e4]
  clear eC eD e1 e2 e3 e4
  generalize chalf_0 b0 b1 p0 p1 = q at *
  generalize chalf_0 b0 b1 a0 a1 = k at *
  generalize rhalf_0 a0 a1 p0 p1 (-1) = h at *
  generalize rhalf_0 a0 a1 b0 b1 (-1) = k' at *
  generalize vcross_0 p0 p1 b0 b1 = c at *
  generalize vinner_0 b0 b1 p0 p1 = d at *
  generalize vcross_0 a0 a1 p0 p1 = y at *
  generalize vinner_0 a0 a1 p0 p1 = x at *
  generalize vcross_0 a0 a1 b0 b1 = v at *
  generalize vinner_0 a0 a1 b0 b1 = u at *
  clear nz neg bnd ha hb hp hN ha0 ha1 hb0 hb1 hp0 hp1
  have Q1 : ((c < 0 ∨ c = 0 ∧ 0 < d) ∧ q = 0) ∨ (¬ (c < 0 ∨ c = 0 ∧ 0 < d) ∧ q = 1) := by
    rcases o1 with ⟨g1, g2⟩ | ⟨g1, g2⟩
    · exact .inl ⟨by omega, g2⟩
    · exact .inr ⟨by omega, g2⟩
  have Q2 : ((v < 0 ∨ v = 0 ∧ 0 < u) ∧ k = 0 ∧ k' = 0) ∨ (¬ (v < 0 ∨ v = 0 ∧ 0 < u) ∧ k = 1 ∧ k' = 1) := by
    rcases o2 with ⟨g1, g2⟩ | ⟨g1, g2⟩ <;> rcases o4 with ⟨g3, g4⟩ | ⟨g3, g4⟩
    · exact .inl ⟨by omega, g2, g4⟩
    · exfalso; omega
    · exfalso; omega
    · exact .inr ⟨by omega, g2, g4⟩
  have Q3 : ((y < 0 ∨ y = 0 ∧ 0 < x) ∧ h = 0) ∨ (¬ (y < 0 ∨ y = 0 ∧ 0 < x) ∧ h = 1) := by
    rcases o3 with ⟨g1, g2⟩ | ⟨g1, g2⟩
    · exact .inl ⟨by omega, g2⟩
    · exact .inr ⟨by omega, g2⟩
  clear o1 o2 o3 o4
  generalize (c < 0 ∨ c = 0 ∧ 0 < d) = Q at *
  generalize (v < 0 ∨ v = 0 ∧ 0 < u) = K at *
  generalize (y < 0 ∨ y = 0 ∧ 0 < x) = H at *
  rcases Q1 with ⟨A, rfl⟩ | ⟨A, rfl⟩ <;> rcases Q2 with ⟨B, rfl, rfl⟩ | ⟨B, rfl, rfl⟩ <;> rcases Q3 with ⟨D, rfl⟩ | ⟨D, rfl⟩ <;>
    simp only [A, B, D, true_and, false_and, not_true_eq_false, not_false_eq_true, false_or, or_false, true_or, or_true, and_true, iff_true, true_iff, iff_false, false_iff] at core <;>
    rw [Bool.eq_iff_iff] <;> simp <;> omega

theorem vc0 (a b : Int) : vcross_0 a b 0 0 = 0 := by unfold vcross_0; rw [Int.mul_zero, Int.mul_zero]; rfl
theorem vc0' (a b : Int) : vcross_0 0 0 a b = 0 := by unfold vcross_0; rw [Int.zero_mul, Int.zero_mul]; rfl
theorem vi0 (a b : Int) : vinner_0 a b 0 0 = 0 := by unfold vinner_0; rw [Int.mul_zero, Int.mul_zero]; rfl
theorem sweep_cw0 {a0 a1 b0 b1 : Int} (ha0 : b9 a0) (ha1 : b9 a1) (hb0 : b9 b0) (hb1 : b9 b1) : contains_0 b0 b1 a0 a1 0 0 = insweep_0 a0 a1 b0 b1 0 0 (-1) false := by
  have q1 := mul_bd ha0 hb1 (by omega) (by omega)
  have q2 := mul_bd ha1 hb0 (by omega) (by omega)
  have o2 := chalf_or b0 b1 a0 a1
  have o4 := rhalf_or a0 a1 b0 b1 (-1)
  have e2 : vcross_0 b0 b1 a0 a1 = -vcross_0 a0 a1 b0 b1 := by rw [vcross_eq hb0 hb1 ha0 ha1, vcross_eq ha0 ha1 hb0 hb1]; grind
  have e3 : vinner_0 b0 b1 a0 a1 = vinner_0 a0 a1 b0 b1 := by rw [vinner_eq hb0 hb1 ha0 ha1, vinner_eq ha0 ha1 hb0 hb1]; grind
  have e4 : IntKind.i64.wrap (vcross_0 a0 a1 b0 b1 * -1) = -vcross_0 a0 a1 b0 b1 := by
    rw [vcross_eq ha0 ha1 hb0 hb1, show (a0 * b1 - a1 * b0) * -1 = -(a0 * b1 - a1 * b0) by omega]
    generalize a0 * b1 = x at *
    generalize a1 * b0 = y at *
    exact wrI (by omega) (by omega)
  rw [e2, e3] at o2
  rw [e4] at o4
  have c1 : chalf_0 b0 b1 0 0 = 1 := by unfold chalf_0; rw [vc0, vi0]; rfl
  have c2 : rhalf_0 a0 a1 0 0 (-1) = 1 := by unfold rhalf_0; rw [vc0, vi0]; rfl
  unfold contains_0 insweep_0
  rw [c1, c2, vc0', vc0']
  have w : IntKind.i64.wrap (0 * -1) = 0 := rfl
  rw [w]
  generalize chalf_0 b0 b1 a0 a1 = h at *
  generalize rhalf_0 a0 a1 b0 b1 (-1) = k at *
  rcases o2 with ⟨g1, rfl⟩ | ⟨g1, rfl⟩ <;> rcases o4 with ⟨g3, rfl⟩ | ⟨g3, rfl⟩
  · rfl
  · exact absurd g1 g3
  · exact absurd g3 g1
  · rfl
theorem ins_full (a0 a1 b0 b1 u w d : Int) (e7 : Bool) : insweep_0 a0 a1 b0 b1 u w d e7 = (e7 || insweep_0 a0 a1 b0 b1 u w d false) := by cases e7 <;> rfl
theorem ahead_same {e0 e1 e2 e3 e4 e5 e6 : Int} (e7 : Bool) {u w : Int} (y z : Int) (E : EP e0 e1 e2 e3 e4 e5 e6) (hu : bd 1048576 u) (hw : bd 1048576 w) :
    ahead_0 e0 e1 e2 e3 e4 e5 e6 e7 u w y z = bif e6 == 0 then decide (vinner_0 (minus_0 u y) (minus_0 w z) (minus_0 e2 e0) (minus_0 e3 e1) > 0) else
      (insweep_0 (minus_0 e0 e4) (minus_0 e1 e5) (minus_0 e2 e4) (minus_0 e3 e5) (minus_0 u e4) (minus_0 w e5) e6 e7 && !sameway_0 (minus_0 e0 e4) (minus_0 e1 e5) (minus_0 u e4) (minus_0 w e5)) := by
  unfold ahead_0
  cases h6 : e6 == 0
  · rw [cond_false, cond_false]
    have hne : e6 ≠ 0 := by simpa using h6
    have c0 := E.c0
    have c1 := E.c1
    have c2 := E.c2
    have c3 := E.c3
    have c4 := E.c4
    have c5 := E.c5
    have hs : (vcross_0 (minus_0 e0 e4) (minus_0 e1 e5) (minus_0 u e4) (minus_0 w e5) != 0 || decide (vinner_0 (minus_0 e0 e4) (minus_0 e1 e5) (minus_0 u e4) (minus_0 w e5) ≤ 0)) = !sameway_0 (minus_0 e0 e4) (minus_0 e1 e5) (minus_0 u e4) (minus_0 w e5) := by
      unfold sameway_0
      generalize vcross_0 (minus_0 e0 e4) (minus_0 e1 e5) (minus_0 u e4) (minus_0 w e5) = x
      generalize vinner_0 (minus_0 e0 e4) (minus_0 e1 e5) (minus_0 u e4) (minus_0 w e5) = i
      rw [Bool.eq_iff_iff]
      simp only [Bool.or_eq_true, Bool.not_eq_true', Bool.and_eq_false_iff, bne_iff_ne, decide_eq_true_eq, beq_eq_false_iff_ne, decide_eq_false_iff_not]
      omega
    rw [hs, ins_full]
    have m : ∀ {a b : Int}, bd 1048576 a → bd 1000000 b → minus_0 a b = a - b := fun {a b} h1 h2 => minus_eq (by omega) (by omega)
    have z1 := E.s1 hne
    have z2 := E.s2 hne
    rcases E.dir with h | rfl | rfl
    · exact absurd h hne
    · have ei : ainside_0 e0 e1 0 e2 e3 0 17 (oitem_1 e4 1) (oitem_1 e5 1) 0 (oitem_3 1) (oitem_4 1 e7) (minus_0 u e4) (minus_0 w e5) = (e7 || contains_0 (minus_0 e0 e4) (minus_0 e1 e5) (minus_0 e2 e4) (minus_0 e3 e5) (minus_0 u e4) (minus_0 w e5)) := rfl
      rw [ei, sweep_ccw]
    · have ei : ainside_0 e0 e1 0 e2 e3 0 17 (oitem_1 e4 (-1)) (oitem_1 e5 (-1)) 0 (oitem_3 (-1)) (oitem_4 (-1) e7) (minus_0 u e4) (minus_0 w e5) = (e7 || contains_0 (minus_0 e2 e4) (minus_0 e3 e5) (minus_0 e0 e4) (minus_0 e1 e5) (minus_0 u e4) (minus_0 w e5)) := rfl
      rw [ei, m (a := e0) (by omega) c4, m (a := e1) (by omega) c5, m (a := e2) (by omega) c4, m (a := e3) (by omega) c5, m hu c4, m hw c5]
      by_cases hz : u - e4 = 0 ∧ w - e5 = 0
      · rw [hz.1, hz.2, sweep_cw0 (by omega) (by omega) (by omega) (by omega)]
      · rw [sweep_cw (by omega) (by omega) (by omega) (by omega) (by omega) (by omega) z1 z2 (by omega)]
  · rw [cond_true, cond_true]
theorem md_zero (d k : Int) : muldiv_0 d k 0 2 = 0 := by
  unfold muldiv_0
  have : ((0 : Int) == 0 || !((2 : Int) == 0 || (2 : Int) == 1 || (2 : Int) == 2)) = true := rfl
  rw [this, cond_true]
theorem found_same {e0 e1 e2 e3 e4 e5 e6 f0 f1 f2 f3 f4 f5 f6 l0 l1 h0 h1 r : Int} (e7 f7 : Bool) (hd : dir1 e6) (F : EP f0 f1 f2 f3 f4 f5 f6) (hr : bd 1000000000 r) (b0 : bd 1048576 l0) (b1 : bd 1048576 l1) (b2 : bd 1048576 h0) (b3 : bd 1048576 h1) :
    (bif f6 == 0 then straight_0 l0 l1 h0 h1 e0 e1 e2 e3 e4 e5 e6 e7 r else curved_0 f0 f1 f2 f3 f4 f5 f6 f7 l0 l1 h0 h1 r e0 e1 e2 e3 e4 e5 e6 e7 r) = found_0 e0 e1 e2 e3 e4 e5 e6 e7 f0 f1 f2 f3 f4 f5 f6 f7 l0 l1 h0 h1 r ∧
    (bif f6 == 0 then straight_1 l0 l1 h0 h1 e0 e1 e2 e3 e4 e5 e6 e7 r else curved_1 f0 f1 f2 f3 f4 f5 f6 f7 l0 l1 h0 h1 r e0 e1 e2 e3 e4 e5 e6 e7 r) = found_1 e0 e1 e2 e3 e4 e5 e6 e7 f0 f1 f2 f3 f4 f5 f6 f7 l0 l1 h0 h1 r := by
  unfold found_0 found_1
  cases h6 : f6 == 0
  · simp only [cond_false]
    have sp' : ∀ a b c : Int, rspoke_0 a b c false = minus_0 a c := fun _ _ _ => rfl
    have c0 := F.c0
    have c1 := F.c1
    have c4 := F.c4
    have c5 := F.c5
    have m0 : minus_0 f0 f4 = f0 - f4 := minus_eq (by omega) (by omega)
    have m1 : minus_0 f1 f5 = f1 - f5 := minus_eq (by omega) (by omega)
    have hv : vinner_0 (minus_0 f0 f4) (minus_0 f1 f5) (minus_0 f0 f4) (minus_0 f1 f5) = (f0 - f4) * (f0 - f4) + (f1 - f5) * (f1 - f5) := by rw [m0, m1, vinner_eq (by omega) (by omega) (by omega) (by omega)]
    have hz := (sqrt_same (n := vinner_0 (minus_0 f0 f4) (minus_0 f1 f5) (minus_0 f0 f4) (minus_0 f1 f5)) (m := 2) (by rw [hv]; exact sq_nn _ _) (v_isI _ _ _ _) (.inr (.inr rfl))).1
    simp only [sp']
    rw [← hz]
    unfold curved_0 curved_1
    have key : ∀ {Z : Int}, isI Z → (crF Z f0 f1 f2 f3 f4 f5 f6 f7 e0 e1 e2 e3 e4 e5 e6 e7 r).fin (cv0 (minus_0 l0 f4) (minus_0 l1 f5) (minus_0 h0 f4) (minus_0 h1 f5)) = (faF Z f0 f1 f2 f3 f4 f5 f6 f7 e0 e1 e2 e3 e4 e5 e6 e7 r).fin (cv0 (minus_0 l0 f4) (minus_0 l1 f5) (minus_0 h0 f4) (minus_0 h1 f5)) := fun {Z} hZ =>
      cv_same hZ (fun u w => clear_same _ _ hd hr) _ _
    rw [key (wrap_isI _)]
    exact ⟨rfl, rfl⟩
  · simp only [cond_true]
    obtain ⟨en, n0, n1, n2, n3⟩ := found_n b0 b1 b2 b3
    have en' : found_s2 l0 l1 h0 h1 = found_n_ l0 l1 h0 h1 := by
      unfold found_s2 found_s1 found_s0 found_n_
      rw [wrI (x := l0 - h0) (by omega) (by omega), wrI (x := h0 - l0) (by omega) (by omega), wrI (x := h1 - l1) (by omega) (by omega), wrI (x := l1 - h1) (by omega) (by omega), show l0 - h0 = 0 - (h0 - l0) by omega, show l1 - h1 = 0 - (h1 - l1) by omega]
    have d0 : minus_0 h0 l0 = h0 - l0 := minus_eq (by omega) (by omega)
    have d1 : minus_0 h1 l1 = h1 - l1 := minus_eq (by omega) (by omega)
    unfold straight_0 straight_1
    rw [en, en', d0, d1]
    generalize found_n_ l0 l1 h0 h1 = n at *
    by_cases hn : n = 0
    · have e1 : l0 = h0 := by omega
      have e2 : l1 = h1 := by omega
      rw [hn, md_zero, md_zero, addpt_eq (by omega) (by omega), addpt_eq (by omega) (by omega)]
      exact ⟨show l0 + 0 = h0 by omega, show l1 + 0 = h1 by omega⟩
    · have hn' : (n == 0) = false := by simpa using hn
      have hn1 : 1 ≤ n ∧ n ≤ 4194304 := by omega
      have hB : (stF l0 l1 (h0 - l0) (h1 - l1) n e0 e1 e2 e3 e4 e5 e6 e7 r).fin (bs0 n) = (fdF l0 l1 h0 h1 n e0 e1 e2 e3 e4 e5 e6 e7 r).fin (bs0 n) := by
        refine bsF_congr fun k k0 k1 => ?_
        show oclear_0 e0 e1 e2 e3 e4 e5 e6 (addpt_0 l0 (muldiv_0 (h0 - l0) k n 2)) (addpt_0 l1 (muldiv_0 (h1 - l1) k n 2)) r = rclear_0 e0 e1 e2 e3 e4 e5 e6 (rbetween_0 l0 h0 k n) (rbetween_0 l1 h1 k n) r
        rw [(pt_same b0 n2 ⟨k0, k1⟩ hn1).1, (pt_same b1 n3 ⟨k0, k1⟩ hn1).1, clear_same _ _ hd hr]
      have hR : 0 ≤ (fdF l0 l1 h0 h1 n e0 e1 e2 e3 e4 e5 e6 e7 r).fin (bs0 n) ∧ (fdF l0 l1 h0 h1 n e0 e1 e2 e3 e4 e5 e6 e7 r).fin (bs0 n) ≤ n := bsF_rng _ n0
      rw [hB, hn', cond_false, cond_false]
      exact ⟨(pt_same b0 n2 hR hn1).1, (pt_same b1 n3 hR hn1).1⟩
theorem trim_same {e0 e1 e2 e3 e4 e5 e6 f0 f1 f2 f3 f4 f5 f6 r : Int} (e7 f7 : Bool) (E : EP e0 e1 e2 e3 e4 e5 e6) (F : EP f0 f1 f2 f3 f4 f5 f6) (hr : bd 1000000000 r) :
    trim_0 e0 e1 e2 e3 e4 e5 e6 e7 f0 f1 f2 f3 f4 f5 f6 f7 r = rtrim_0 e0 e1 e2 e3 e4 e5 e6 e7 f0 f1 f2 f3 f4 f5 f6 f7 r ∧ trim_1 e0 e1 e2 e3 e4 e5 e6 e7 f0 f1 f2 f3 f4 f5 f6 f7 r = rtrim_1 e0 e1 e2 e3 e4 e5 e6 e7 f0 f1 f2 f3 f4 f5 f6 f7 r ∧ trim_2 e0 e1 e2 e3 e4 e5 e6 e7 f0 f1 f2 f3 f4 f5 f6 f7 r = rtrim_2 e0 e1 e2 e3 e4 e5 e6 e7 f0 f1 f2 f3 f4 f5 f6 f7 r := by
  obtain ⟨x0, x1, x2, x3, x4⟩ := ends_same r E
  obtain ⟨y0, y1, y2, y3, y4⟩ := ends_same r F
  obtain ⟨b0, b1, b2, b3⟩ := oends_bd f0 f1 f2 f3 f4 f5 f6 r
  have fs := found_same (e0 := e0) (e1 := e1) (e2 := e2) (e3 := e3) (e4 := e4) (e5 := e5) e7 f7 E.dir F hr b0 b1 b2 b3
  have s0 : trim_s0 e0 e1 e2 e3 e4 e5 e6 e7 f0 f1 f2 f3 f4 f5 f6 f7 r = rtrim_s0 e0 e1 e2 e3 e4 e5 e6 e7 f0 f1 f2 f3 f4 f5 f6 f7 r := by
    unfold trim_s0 rtrim_s0
    rw [fs.1, y0, y1, y2, y3]
  have s1 : trim_s1 e0 e1 e2 e3 e4 e5 e6 e7 f0 f1 f2 f3 f4 f5 f6 f7 r = rtrim_s1 e0 e1 e2 e3 e4 e5 e6 e7 f0 f1 f2 f3 f4 f5 f6 f7 r := by
    unfold trim_s1 rtrim_s1
    rw [fs.2, y0, y1, y2, y3]
  have hw : ∀ a b, rwithin_0 a b = (oin_0 a 1048576 && oin_0 b 1048576) := fun _ _ => rfl
  have sp : ∀ a b c : Int, rspoke_0 a b c true = minus_0 b c := fun _ _ _ => rfl
  have sp' : ∀ a b c : Int, rspoke_0 a b c false = minus_0 a c := fun _ _ _ => rfl
  unfold trim_0 trim_1 trim_2 rtrim_0 rtrim_1 rtrim_2 rtrim_s2
  rw [s0, s1, x0, x1, x4, y2, y3, y4, clear_same _ _ E.dir hr]
  simp only [hw, sp, sp']
  generalize rtrim_s0 e0 e1 e2 e3 e4 e5 e6 e7 f0 f1 f2 f3 f4 f5 f6 f7 r = u at *
  generalize rtrim_s1 e0 e1 e2 e3 e4 e5 e6 e7 f0 f1 f2 f3 f4 f5 f6 f7 r = w at *
  cases (rends_4 e0 e1 e2 e3 e4 e5 e6 r != 0)
  · cases (rends_4 f0 f1 f2 f3 f4 f5 f6 r != 0)
    · cases (!rclear_0 e0 e1 e2 e3 e4 e5 e6 (rends_2 f0 f1 f2 f3 f4 f5 f6 r) (rends_3 f0 f1 f2 f3 f4 f5 f6 r) r)
      · simp only [cond_false]
        cases hu : oin_0 u 1048576
        · exact ⟨rfl, rfl, rfl⟩
        · cases hv : oin_0 w 1048576
          · exact ⟨rfl, rfl, rfl⟩
          · have h1 := (oin_iff (by omega) (by omega)).1 hu
            have h2 := (oin_iff (by omega) (by omega)).1 hv
            rw [ahead_same e7 _ _ E h1 h2]
            simp only [Bool.not_true, Bool.or_self, Bool.and_self, cond_false]
            cases e6 == 0
            · simp only [cond_false, Bool.not_and, Bool.not_not]
              exact ⟨trivial, trivial, trivial⟩
            · simp only [cond_true]
              have : ∀ x : Int, (!decide (x > 0)) = decide (x ≤ 0) := fun x => by
                by_cases h : x > 0
                · rw [decide_eq_true h, decide_eq_false (by omega)]; rfl
                · rw [decide_eq_false h, decide_eq_true (by omega)]; rfl
              simp only [this]
              exact ⟨trivial, trivial, trivial⟩
      · exact ⟨rfl, rfl, rfl⟩
    · exact ⟨rfl, rfl, rfl⟩
  · exact ⟨rfl, rfl, rfl⟩
end Go.Proofs.Ytjlkecfkjcanaaa
