/-
  THE ARC OF A RADIUS, plain law: its spokes fit. Conditions: bounds.
-/
import Derived.Test.YtkggdhnliiagjaaD8
set_option linter.all false
namespace Go.Proofs.Ytkggdhnliiagjaa
open Go.SX Go.RowKit
theorem sqm {x y n : Int} (h0 : 0 ≤ x) (h : x ≤ y) (hn : 0 ≤ n) : x * x * n ≤ y * y * n :=
  Int.mul_le_mul_of_nonneg_right (Int.mul_le_mul h h h0 (by omega)) hn
/-- A quotient by a root, rounded to the nearest one: its two inequalities. -/
theorem ovq_law {p n : Int} (ng : Bool) (hp : 0 ≤ p ∧ p ≤ 4611686018427387904) (hn : 1 ≤ n ∧ n ≤ 4611686018427387904) :
    0 ≤ ovq p n ng ∧ (1 ≤ ovq p n ng → (2 * ovq p n ng - 1) * (2 * ovq p n ng - 1) * n ≤ 4 * (p * p)) ∧ 4 * (p * p) ≤ (2 * ovq p n ng + 1) * (2 * ovq p n ng + 1) * n := by
  obtain ⟨t0, t1, t2, t3⟩ := tw_law hp hn
  unfold ovq
  generalize tw p n = t at *
  by_cases h1 : t % 2 = 1
  · by_cases h2 : ng = false ∨ t * t * n ≠ 4 * (p * p)
    · rw [if_pos ⟨h1, h2⟩]
      have e1 : 2 * (t / 2 + 1) - 1 = t := by omega
      have e2 : 2 * (t / 2 + 1) + 1 = t + 2 := by omega
      rw [e1, e2]
      exact ⟨by omega, fun _ => t1, by have := sqm (x := t + 1) (y := t + 2) (n := n) (by omega) (by omega) (by omega); omega⟩
    · rw [if_neg (fun h => h2 h.2)]
      have e1 : 2 * (t / 2) - 1 = t - 2 := by omega
      have e2 : 2 * (t / 2) + 1 = t := by omega
      rw [e1, e2]
      have h3 : t * t * n = 4 * (p * p) := by
        by_cases h : t * t * n = 4 * (p * p)
        · exact h
        · exact absurd (.inr h) h2
      exact ⟨by omega, fun _ => by have := sqm (x := t - 2) (y := t) (n := n) (by omega) (by omega) (by omega); omega, by omega⟩
  · rw [if_neg (fun h => h1 h.1)]
    have e1 : 2 * (t / 2) - 1 = t - 1 := by omega
    have e2 : 2 * (t / 2) + 1 = t + 1 := by omega
    rw [e1, e2]
    exact ⟨by omega, fun _ => by have := sqm (x := t - 1) (y := t) (n := n) (by omega) (by omega) (by omega); omega, by omega⟩
theorem over_abs {a g N : Int} (ha : bd 3000000 a) (hg : 0 ≤ g ∧ g ≤ 3000000) (hN : 1 ≤ N ∧ N ≤ 4611686018427387904) :
    ∃ U : Int, 0 ≤ U ∧ (0 ≤ a → wOver_0 a g N 2 = U) ∧ (a < 0 → wOver_0 a g N 2 = -U) ∧ (1 ≤ U → (2 * U - 1) * (2 * U - 1) * N ≤ 4 * ((a * g) * (a * g))) ∧ 4 * ((a * g) * (a * g)) ≤ (2 * U + 1) * (2 * U + 1) * N := by
  have hl := (wOver_law (a := a) (b := g) (n := N) ⟨by omega, by omega⟩ ⟨by omega, by omega⟩ (wsize_le ha) (wsize_le (by omega)) hN).1
  rw [wsize_eq a ⟨by omega, by omega⟩, wsize_eq g ⟨by omega, by omega⟩, if_neg (show ¬ g < 0 by omega)] at hl
  have hP : ∃ P, P = (if a < 0 then -a else a) * g ∧ 0 ≤ P ∧ P ≤ 4611686018427387904 ∧ P * P = (a * g) * (a * g) := by
    refine ⟨_, rfl, ?_⟩
    by_cases h : a < 0
    · rw [if_pos h]
      obtain ⟨p1, p2⟩ := prod_lt 3000000 3000000 (x := -a) (y := g) ⟨by omega, by omega⟩ hg (by omega)
      exact ⟨p1, by omega, by grind⟩
    · rw [if_neg h]
      obtain ⟨p1, p2⟩ := prod_lt 3000000 3000000 (x := a) (y := g) ⟨by omega, by omega⟩ hg (by omega)
      exact ⟨p1, by omega, rfl⟩
  obtain ⟨P, e, p0, p1, pp⟩ := hP
  rw [← e] at hl
  rw [← pp]
  by_cases hs : wsign_0 a g < 0
  · rw [if_pos hs] at hl
    obtain ⟨o1, o2, o3⟩ := ovq_law true ⟨p0, p1⟩ hN
    refine ⟨ovq P N true, o1, fun h => ?_, fun _ => hl, o2, o3⟩
    have hh := Int.mul_nonneg h hg.1
    rcases wsign_or a g with ⟨h1, h2⟩ | ⟨h1, h2, h3⟩ | ⟨h1, h2, h3⟩ <;> omega
  · rw [if_neg hs] at hl
    obtain ⟨o1, o2, o3⟩ := ovq_law false ⟨p0, p1⟩ hN
    refine ⟨ovq P N false, o1, fun _ => hl, fun h => ?_, o2, o3⟩
    have h0 : a * g = 0 := by
      by_cases hg0 : g = 0
      · rw [hg0, Int.mul_zero]
      · have := Int.mul_neg_of_neg_of_pos h (show 0 < g by omega)
        rcases wsign_or a g with ⟨h1, h2⟩ | ⟨h1, h2, h3⟩ | ⟨h1, h2, h3⟩ <;> omega
    rw [hl]
    rw [pp, h0] at o2
    have : ¬ 1 ≤ ovq P N false := fun h => by
      have h5 := o2 h
      have h6 := Int.mul_pos (Int.mul_pos (show 0 < 2 * ovq P N false - 1 by omega) (show 0 < 2 * ovq P N false - 1 by omega)) (show 0 < N by omega)
      omega
    omega
/-- Two quotients by one root: their cross ratio. -/
theorem over_ineq {p q U W g N : Int} (hp : 0 ≤ p) (hq : 0 ≤ q) (hU : 0 ≤ U) (hW : 0 ≤ W) (hN : 0 < N) (h1 : 1 ≤ U → (2 * U - 1) * (2 * U - 1) * N ≤ 4 * ((p * g) * (p * g))) (h2 : 4 * ((q * g) * (q * g)) ≤ (2 * W + 1) * (2 * W + 1) * N) :
    q * (2 * U - 1) ≤ p * (2 * W + 1) := by
  have hY : 0 ≤ p * (2 * W + 1) := Int.mul_nonneg hp (by omega)
  by_cases hU0 : U = 0
  · subst hU0
    have : q * (2 * 0 - 1) = -q := by omega
    omega
  · rcases Int.lt_or_le (p * (2 * W + 1)) (q * (2 * U - 1)) with h | h
    · exfalso
      have s1 := Int.mul_self_lt_mul_self hY h
      have s2 := Int.mul_lt_mul_of_pos_right s1 hN
      have e1 : q * (2 * U - 1) * (q * (2 * U - 1)) * N = q * q * ((2 * U - 1) * (2 * U - 1) * N) := by grind
      have e2 : p * (2 * W + 1) * (p * (2 * W + 1)) * N = p * p * ((2 * W + 1) * (2 * W + 1) * N) := by grind
      have q0 : 0 ≤ q * q := Int.mul_nonneg hq hq
      have p0 : 0 ≤ p * p := Int.mul_nonneg hp hp
      have m1 := Int.mul_le_mul_of_nonneg_left (h1 (by omega)) q0
      have m2 := Int.mul_le_mul_of_nonneg_left h2 p0
      have e3 : q * q * (4 * ((p * g) * (p * g))) = p * p * (4 * ((q * g) * (q * g))) := by grind
      omega
    · exact h
theorem abs_ex (x : Int) : ∃ p : Int, 0 ≤ p ∧ (x = p ∨ x = -p) ∧ (0 ≤ x → p = x) ∧ p * p = x * x := by
  by_cases h : x < 0
  · exact ⟨-x, by omega, by omega, by omega, Int.neg_mul_neg _ _⟩
  · exact ⟨x, by omega, by omega, by omega, rfl⟩
theorem fits_K {dU dW u w U W p q : Int} (p0 : 0 ≤ p) (q0 : 0 ≤ q) (hp : dW = p ∨ dW = -p) (pa : 0 ≤ dW → p = dW) (hq : dU = q ∨ dU = -q) (qa : 0 ≤ dU → q = dU) (u1 : 0 ≤ dW → u = U) (u2 : dW < 0 → u = -U) (w1 : 0 ≤ dU → w = W) (w2 : dU < 0 → w = -W) :
    (dU * u - dW * w = q * U - p * W) ∨ (dU * u - dW * w = -(q * U - p * W)) := by
  by_cases h1 : 0 ≤ dW <;> by_cases h2 : 0 ≤ dU
  · rw [u1 h1, w1 h2, ← pa h1, ← qa h2]; exact .inl rfl
  · have := w2 (by omega)
    have hq2 : dU = -q := by omega
    rw [u1 h1, this, ← pa h1, hq2, Int.neg_mul, Int.mul_neg]; right; omega
  · have := u2 (by omega)
    have hp2 : dW = -p := by omega
    rw [w1 h2, this, ← qa h2, hp2, Int.neg_mul, Int.mul_neg]; right; omega
  · have t1 := u2 (by omega)
    have t2 := w2 (by omega)
    have hp2 : dW = -p := by omega
    have hq2 : dU = -q := by omega
    rw [t1, t2, hp2, hq2, Int.neg_mul_neg, Int.neg_mul_neg]; left; rfl
theorem fits_E {dU dW u w M0 M1 s p q K : Int} (hs : s = 1 ∨ s = -1) (m0 : 0 ≤ M0 ∧ M0 ≤ 1) (m1 : 0 ≤ M1 ∧ M1 ≤ 1) (hp0 : 0 ≤ p) (hq0 : 0 ≤ q) (hp : dW = p ∨ dW = -p) (hq : dU = q ∨ dU = -q) (hK : dU * u - dW * w = K) (k1 : 2 * K ≤ q + p) (k2 : -(q + p) ≤ 2 * K) :
    -(2 * (q + p)) ≤ dU * (M0 + 2 * (s * u)) + dW * (M1 - 2 * (s * w)) ∧ dU * (M0 + 2 * (s * u)) + dW * (M1 - 2 * (s * w)) ≤ 2 * (q + p) := by
  have e5 : dU * (M0 + 2 * (s * u)) + dW * (M1 - 2 * (s * w)) = (dU * M0 + dW * M1) + 2 * (s * (dU * u - dW * w)) := by grind
  rw [e5, hK]
  have b0 : -q ≤ dU * M0 ∧ dU * M0 ≤ q := by
    have : M0 = 0 ∨ M0 = 1 := by omega
    rcases this with h | h <;> rw [h] <;> omega
  have b1 : -p ≤ dW * M1 ∧ dW * M1 ≤ p := by
    have : M1 = 0 ∨ M1 = 1 := by omega
    rcases this with h | h <;> rw [h] <;> omega
  generalize dU * M0 = x at *
  generalize dW * M1 = y at *
  rcases hs with rfl | rfl <;> omega
theorem big_sq (S : Int) (h : 13 ≤ S ∨ S ≤ -13) : 169 ≤ S * S := by
  rcases h with h | h
  · exact Int.mul_le_mul h h (by omega) (by omega)
  · have := Int.mul_le_mul (show 13 ≤ -S by omega) (show 13 ≤ -S by omega) (by omega) (by omega)
    rw [Int.neg_mul_neg] at this; exact this
theorem sq_nn1 (x : Int) : 0 ≤ x * x := by
  have := sq_nn x 0
  rw [Int.mul_zero, Int.add_zero] at this
  exact this
theorem fits_S {u w U W p q g n M0 M1 s S0 S1 : Int} (hn : 256 ≤ n) (hg : 19 ≤ g) (hs : s = 1 ∨ s = -1) (m0 : 0 ≤ M0 ∧ M0 ≤ 1) (m1 : 0 ≤ M1 ∧ M1 ≤ 1) (hU : 0 ≤ U) (hW : 0 ≤ W) (hu : u = U ∨ u = -U) (hw : w = W ∨ w = -W) (en : q * q + p * p = n)
    (U2 : 4 * ((p * g) * (p * g)) ≤ (2 * U + 1) * (2 * U + 1) * (4 * n)) (W2 : 4 * ((q * g) * (q * g)) ≤ (2 * W + 1) * (2 * W + 1) * (4 * n)) (ea : S0 = M0 + 2 * (s * u)) (ec : S1 = M1 - 2 * (s * w)) : 128 ≤ S0 * S0 + S1 * S1 := by
  have n1 := sq_nn1 S0
  have n2 := sq_nn1 S1
  by_cases hU7 : 7 ≤ U
  · have : 13 ≤ S0 ∨ S0 ≤ -13 := by
      rw [ea]
      rcases hs with rfl | rfl <;> rcases hu with rfl | rfl <;> omega
    have := big_sq _ this
    omega
  · by_cases hW7 : 7 ≤ W
    · have : 13 ≤ S1 ∨ S1 ≤ -13 := by
        rw [ec]
        rcases hs with rfl | rfl <;> rcases hw with rfl | rfl <;> omega
      have := big_sq _ this
      omega
    · exfalso
      have k1 := sqm (x := 2 * U + 1) (y := 13) (n := 4 * n) (by omega) (by omega) (by omega)
      have k2 := sqm (x := 2 * W + 1) (y := 13) (n := 4 * n) (by omega) (by omega) (by omega)
      have k3 : (p * g) * (p * g) + (q * g) * (q * g) = n * (g * g) := by rw [← en]; grind
      have k4 := Int.mul_le_mul hg hg (by omega) (by omega)
      have k5 := Int.mul_le_mul_of_nonneg_left k4 (show 0 ≤ n by omega)
      omega
theorem fits_t {p q n F : Int} (hn : 256 ≤ n) (hp : 0 ≤ p) (hq : 0 ≤ q) (en : q * q + p * p = n) (hE : -(2 * (q + p)) ≤ F ∧ F ≤ 2 * (q + p)) : 8 * (q + p) ≤ n ∧ F * F ≤ 8 * n := by
  have ht : (q + p) * (q + p) ≤ 2 * n := by
    have := sq_nn1 (q - p)
    have e : (q - p) * (q - p) + (q + p) * (q + p) = 2 * n := by rw [← en]; grind
    omega
  constructor
  · rcases Int.lt_or_le n (8 * (q + p)) with h | h
    · have k1 := Int.mul_self_lt_mul_self (show 0 ≤ n by omega) h
      have k2 : 8 * (q + p) * (8 * (q + p)) = 64 * ((q + p) * (q + p)) := by grind
      have k3 := Int.mul_le_mul_of_nonneg_right hn (show 0 ≤ n by omega)
      omega
    · exact h
  · have := mul_bd hE hE (by omega) (by omega)
    have e : 2 * (q + p) * (2 * (q + p)) = 4 * ((q + p) * (q + p)) := by grind
    omega
theorem fits_alg {dU dW a0 a1 b0 b1 : Int} (eb : b0 - a0 = dU) (ed : b1 - a1 = dW) :
    (a0 * a0 + a1 * a1) - (b0 * b0 + b1 * b1) = -(dU * (a0 + b0) + dW * (a1 + b1)) ∧ 2 * ((a0 * a0 + a1 * a1) + (b0 * b0 + b1 * b1)) = ((a0 + b0) * (a0 + b0) + (a1 + b1) * (a1 + b1)) + (dU * dU + dW * dW) ∧
    (dU * (a0 + b0) + dW * (a1 + b1)) * (dU * (a0 + b0) + dW * (a1 + b1)) + 4 * ((a0 * b1 - a1 * b0) * (a0 * b1 - a1 * b0)) = (dU * dU + dW * dW) * ((a0 + b0) * (a0 + b0) + (a1 + b1) * (a1 + b1)) := by
  subst eb; subst ed
  refine ⟨by grind, by grind, by grind⟩
theorem sq_mul {p x g : Int} (h : p * p = x * x) : (p * g) * (p * g) = (x * g) * (x * g) := by
  have e1 : (p * g) * (p * g) = p * p * (g * g) := by grind
  have e2 : (x * g) * (x * g) = x * x * (g * g) := by grind
  rw [e1, e2, h]
theorem fits_K2 {dU dW g u w U W n : Int} (hn : 256 ≤ n) (hN : dU * dU + dW * dW = n)
    (hU : 0 ≤ U) (hW : 0 ≤ W) (u1 : 0 ≤ dW → u = U) (u2 : dW < 0 → u = -U) (w1 : 0 ≤ dU → w = W) (w2 : dU < 0 → w = -W)
    (U1 : 1 ≤ U → (2 * U - 1) * (2 * U - 1) * (4 * n) ≤ 4 * ((dW * g) * (dW * g))) (U2 : 4 * ((dW * g) * (dW * g)) ≤ (2 * U + 1) * (2 * U + 1) * (4 * n))
    (W1 : 1 ≤ W → (2 * W - 1) * (2 * W - 1) * (4 * n) ≤ 4 * ((dU * g) * (dU * g))) (W2 : 4 * ((dU * g) * (dU * g)) ≤ (2 * W + 1) * (2 * W + 1) * (4 * n)) :
    ∃ p q : Int, 0 ≤ p ∧ 0 ≤ q ∧ (dW = p ∨ dW = -p) ∧ (dU = q ∨ dU = -q) ∧ q * q + p * p = n ∧ 4 * ((p * g) * (p * g)) ≤ (2 * U + 1) * (2 * U + 1) * (4 * n) ∧ 4 * ((q * g) * (q * g)) ≤ (2 * W + 1) * (2 * W + 1) * (4 * n) ∧ 2 * (dU * u - dW * w) ≤ q + p ∧ -(q + p) ≤ 2 * (dU * u - dW * w) := by
  obtain ⟨p, hp, hp', pa, pp⟩ := abs_ex dW
  obtain ⟨q, hq, hq', qa, qq⟩ := abs_ex dU
  rw [← sq_mul (g := g) pp] at U1 U2
  rw [← sq_mul (g := g) qq] at W1 W2
  have hN4 : 0 < 4 * n := by omega
  have i1 := over_ineq hp hq hU hW hN4 U1 W2
  have i2 := over_ineq hq hp hW hU hN4 W1 U2
  have e1 : q * (2 * U - 1) = 2 * (q * U) - q := by grind
  have e2 : p * (2 * W + 1) = 2 * (p * W) + p := by grind
  have e3 : p * (2 * W - 1) = 2 * (p * W) - p := by grind
  have e4 : q * (2 * U + 1) = 2 * (q * U) + q := by grind
  rw [e1, e2] at i1
  rw [e3, e4] at i2
  have hK := fits_K hp hq hp' pa hq' qa u1 u2 w1 w2
  refine ⟨p, q, hp, hq, hp', hq', by rw [pp, qq]; exact hN, U2, W2, ?_, ?_⟩
  · rcases hK with hK | hK <;> rw [hK] <;> omega
  · rcases hK with hK | hK <;> rw [hK] <;> omega
theorem fits_end {n F S D X Y : Int} (hn : 256 ≤ n) (hD : X - Y = -F) (hS : 2 * (X + Y) = S + n) (hS2 : 128 ≤ S) {t : Int} (ht : 8 * t ≤ n) (hF : -(2 * t) ≤ F ∧ F ≤ 2 * t) (hFF : F * F ≤ 8 * n) (hC : F * F + 4 * (D * D) = n * S) :
    ∃ E : Int, 0 ≤ E ∧ (X - Y = E ∨ X - Y = -E) ∧ E * E + 256 ≤ 32 * (X + Y) ∧ 128 + E ≤ X + Y ∧ D ≠ 0 := by
  have hX : D ≠ 0 := by
    intro h0
    rw [h0] at hC
    have k2 := Int.mul_le_mul_of_nonneg_left hS2 (show 0 ≤ n by omega)
    omega
  by_cases hF0 : 0 ≤ F
  · exact ⟨F, hF0, .inr hD, by omega, by omega, hX⟩
  · exact ⟨-F, by omega, .inl hD, by rw [Int.neg_mul_neg]; omega, by omega, hX⟩
/-- The spokes: their squares differ little. -/
theorem fits_core {dU dW g u w M0 M1 s a0 a1 b0 b1 U W n : Int} (hn : 256 ≤ n) (hN : dU * dU + dW * dW = n)
    (hU : 0 ≤ U) (hW : 0 ≤ W) (u1 : 0 ≤ dW → u = U) (u2 : dW < 0 → u = -U) (w1 : 0 ≤ dU → w = W) (w2 : dU < 0 → w = -W)
    (U1 : 1 ≤ U → (2 * U - 1) * (2 * U - 1) * (4 * n) ≤ 4 * ((dW * g) * (dW * g))) (U2 : 4 * ((dW * g) * (dW * g)) ≤ (2 * U + 1) * (2 * U + 1) * (4 * n))
    (W1 : 1 ≤ W → (2 * W - 1) * (2 * W - 1) * (4 * n) ≤ 4 * ((dU * g) * (dU * g))) (W2 : 4 * ((dU * g) * (dU * g)) ≤ (2 * W + 1) * (2 * W + 1) * (4 * n))
    (hg : 19 ≤ g) (hs : s = 1 ∨ s = -1) (m0 : 0 ≤ M0 ∧ M0 ≤ 1) (m1 : 0 ≤ M1 ∧ M1 ≤ 1) (ea : a0 + b0 = M0 + 2 * (s * u)) (eb : b0 - a0 = dU) (ec : a1 + b1 = M1 - 2 * (s * w)) (ed : b1 - a1 = dW) :
    ∃ E : Int, 0 ≤ E ∧ ((a0 * a0 + a1 * a1) - (b0 * b0 + b1 * b1) = E ∨ (a0 * a0 + a1 * a1) - (b0 * b0 + b1 * b1) = -E) ∧ E * E + 256 ≤ 32 * ((a0 * a0 + a1 * a1) + (b0 * b0 + b1 * b1)) ∧ 128 + E ≤ (a0 * a0 + a1 * a1) + (b0 * b0 + b1 * b1) ∧ a0 * b1 - a1 * b0 ≠ 0 := by
  obtain ⟨p, q, hp, hq, hp', hq', en, U2', W2', k1, k2⟩ := fits_K2 hn hN hU hW u1 u2 w1 w2 U1 U2 W1 W2
  obtain ⟨hD, hS, hC⟩ := fits_alg eb ed
  rw [hN] at hS hC
  have hE := fits_E (u := u) (w := w) (M0 := M0) (M1 := M1) hs m0 m1 hp hq hp' hq' rfl k1 k2
  rw [← ea, ← ec] at hE
  have hu : u = U ∨ u = -U := by
    by_cases h : 0 ≤ dW
    · exact .inl (u1 h)
    · exact .inr (u2 (by omega))
  have hw : w = W ∨ w = -W := by
    by_cases h : 0 ≤ dU
    · exact .inl (w1 h)
    · exact .inr (w2 (by omega))
  have hS2 := fits_S hn hg hs m0 m1 hU hW hu hw en U2' W2' ea ec
  obtain ⟨ht8, hEE⟩ := fits_t hn hp hq en hE
  exact fits_end hn hD hS hS2 ht8 hE hEE hC
theorem fits_fit {a0 a1 b0 b1 E : Int} (h0 : bd 120000 a0) (h1 : bd 120000 a1) (h2 : bd 120000 b0) (h3 : bd 120000 b1) (hE : 0 ≤ E) (hd : (a0 * a0 + a1 * a1) - (b0 * b0 + b1 * b1) = E ∨ (a0 * a0 + a1 * a1) - (b0 * b0 + b1 * b1) = -E)
    (g1 : E * E + 256 ≤ 32 * ((a0 * a0 + a1 * a1) + (b0 * b0 + b1 * b1))) (g2 : 128 + E ≤ (a0 * a0 + a1 * a1) + (b0 * b0 + b1 * b1)) (g3 : a0 * b1 - a1 * b0 ≠ 0) : fit_0 a0 a1 b0 b1 false = true := by
  have q0 := mul_bd h0 h0 (by omega) (by omega)
  have q1 := mul_bd h1 h1 (by omega) (by omega)
  have q2 := mul_bd h2 h2 (by omega) (by omega)
  have q3 := mul_bd h3 h3 (by omega) (by omega)
  have hf := fit_same a0 a1 b0 b1 false
  have ex : vinner_0 a0 a1 a0 a1 = a0 * a0 + a1 * a1 := vinner_eq (by omega) (by omega) (by omega) (by omega)
  have ey : vinner_0 b0 b1 b0 b1 = b0 * b0 + b1 * b1 := vinner_eq (by omega) (by omega) (by omega) (by omega)
  have ec : vcross_0 a0 a1 b0 b1 = a0 * b1 - a1 * b0 := vcross_eq (by omega) (by omega) (by omega) (by omega)
  have ea : aligned_0 a0 a1 b0 b1 = false := by
    unfold aligned_0
    rw [ec, show (a0 * b1 - a1 * b0 == 0) = false by simpa using g3]; rfl
  rw [ex, ey, ea] at hf
  have bx : 0 ≤ a0 * a0 + a1 * a1 ∧ a0 * a0 + a1 * a1 ≤ 28800000000 := by have := sq_nn a0 a1; omega
  have by_ : 0 ≤ b0 * b0 + b1 * b1 ∧ b0 * b0 + b1 * b1 ≤ 28800000000 := by have := sq_nn b0 b1; omega
  clear q0 q1 q2 q3 ex ey ec
  generalize a0 * a0 + a1 * a1 = x at *
  generalize b0 * b0 + b1 * b1 = y at *
  have hsm : similar_0 x y = true := by
    have e0 : similar_s0 x y = E - 16 := by
      unfold similar_s0
      by_cases g : y > x
      · rw [if_pos g, if_neg (show ¬ y < x by omega), wrI (x := y - x) (by omega) (by omega), wrI (by omega) (by omega)]; omega
      · rw [if_neg g]
        by_cases g' : y < x
        · rw [if_pos g', wrI (x := x - y) (by omega) (by omega), wrI (by omega) (by omega)]; omega
        · rw [if_neg g', wrI (x := x - x) (by omega) (by omega), wrI (by omega) (by omega)]; omega
    unfold similar_0 similar_s1
    rw [e0]
    by_cases hs : E - 16 ≤ 0
    · rw [decide_eq_true hs]; rfl
    · rw [wcmp_eq _ _ _ _ ⟨by omega, by omega⟩ ⟨by omega, by omega⟩ (by decide) (by constructor <;> split <;> omega)]
      have : cmpI ((E - 16) * (E - 16)) (64 * (if y < x then y else x)) ≤ 0 := by
        have hle : (E - 16) * (E - 16) ≤ 64 * (if y < x then y else x) := by
          have e : (E - 16) * (E - 16) = E * E - 32 * E + 256 := by grind
          split <;> omega
        rcases cmpI_cases ((E - 16) * (E - 16)) (64 * (if y < x then y else x)) with ⟨h1, h2⟩ | ⟨h1, h2⟩ | ⟨h1, h2⟩ <;> omega
      rw [decide_eq_true this, Bool.or_true]
  rw [hsm, decide_eq_false (show ¬ x < 64 by omega), decide_eq_false (show ¬ y < 64 by omega)] at hf
  simpa using hf.symm
end Go.Proofs.Ytkggdhnliiagjaa
