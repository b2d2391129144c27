/-
  NORMALS AND CORNERS, plain laws without the reference. Conditions: bounds.
-/
import Derived.Test.YtjlkecfkjcanaaaD1
set_option linter.all false
namespace Go.Proofs.Ytjlkecfkjcanaaa
open Go.SX Go.RowKit
theorem over_bd {a g N m : Int} (hm : 0 ≤ m) (hm2 : m ≤ 4194304) (ha : bd 4194304 a) (hg : bd m g) (hN : 1 ≤ N ∧ N ≤ 4611686018427387904) (haN : a * a ≤ N) : bd m (wOver_0 a g N 2) := by
  obtain ⟨U, U0, u1, u2, U1, U2⟩ := over_abs ha (show bd 4194304 g by omega) hN
  have hU : U ≤ m := by
    rcases Int.lt_or_le m U with h | h
    · exfalso
      have h1 := U1 (by omega)
      have k1 := sqm (x := 2 * m + 1) (y := 2 * U - 1) (n := N) (by omega) (by omega) (by omega)
      have k2 : (a * g) * (a * g) = a * a * (g * g) := by grind
      have k3 := mul_bd hg hg hm hm
      have k4 := Int.mul_le_mul_of_nonneg_right haN (sq_nn1 g)
      have k5 := Int.mul_le_mul_of_nonneg_left k3.2 (show 0 ≤ N by omega)
      have k6 : (2 * m + 1) * (2 * m + 1) * N = 4 * (N * (m * m)) + 4 * (m * N) + N := by grind
      have k7 := Int.mul_nonneg hm (show 0 ≤ N by omega)
      omega
    · exact h
  by_cases h : 0 ≤ a * g
  · rw [u1 h]; omega
  · rw [u2 (by omega)]; omega
theorem nrm_ok {p0 p1 t0 t1 r : Int} (h0 : t0 ≠ 0 ∨ t1 ≠ 0) (h1 : bd 4194304 t0) (h2 : bd 4194304 t1) (h3 : bd 1048576 p0) (h4 : bd 1048576 p1) (h5 : bd 32768 r) : (t0 == 0 && t1 == 0 || !oin_0 t0 4194304 || !oin_0 t1 4194304 || !oin_0 p0 1048576 || !oin_0 p1 1048576 || !oin_0 r 32768) = false := by
  rw [(oin_iff (by omega) (by omega)).2 h1, (oin_iff (by omega) (by omega)).2 h2, (oin_iff (by omega) (by omega)).2 h3, (oin_iff (by omega) (by omega)).2 h4, (oin_iff (by omega) (by omega)).2 h5]
  have : (t0 == 0 && t1 == 0) = false := by
    rw [Bool.and_eq_false_iff, beq_eq_false_iff_ne, beq_eq_false_iff_ne]; exact h0
  rw [this]; rfl
/-- A normal's point. -/
theorem normal_val {p0 p1 t0 t1 r : Int} (h0 : t0 ≠ 0 ∨ t1 ≠ 0) (h1 : bd 4194304 t0) (h2 : bd 4194304 t1) (h3 : bd 1048576 p0) (h4 : bd 1048576 p1) (h5 : bd 32768 r) :
    onormal_0 p0 p1 t0 t1 r = p0 + wOver_0 (-t1) r (t0 * t0 + t1 * t1) 2 ∧ onormal_1 p0 p1 t0 t1 r = p1 + wOver_0 t0 r (t0 * t0 + t1 * t1) 2 ∧ onormal_2 p0 p1 t0 t1 r = true ∧ bd 32768 (wOver_0 (-t1) r (t0 * t0 + t1 * t1) 2) ∧ bd 32768 (wOver_0 t0 r (t0 * t0 + t1 * t1) 2) ∧ 1 ≤ t0 * t0 + t1 * t1 ∧ t0 * t0 + t1 * t1 ≤ 35184372088832 := by
  have hn := sq_pos h0
  have m1 := mul_bd h1 h1 (by omega) (by omega)
  have m2 := mul_bd h2 h2 (by omega) (by omega)
  have n1 := sq_nn1 t0
  have n2 := sq_nn1 t1
  have b1 : bd 32768 (wOver_0 (-t1) r (t0 * t0 + t1 * t1) 2) := over_bd (by omega) (by omega) (by omega) h5 (by omega) (by rw [Int.neg_mul_neg]; omega)
  have b2 : bd 32768 (wOver_0 t0 r (t0 * t0 + t1 * t1) 2) := over_bd (by omega) (by omega) (by omega) h5 (by omega) (by omega)
  have ev : vinner_0 t0 t1 t0 t1 = t0 * t0 + t1 * t1 := vinner_eq (by omega) (by omega) (by omega) (by omega)
  have ew : IntKind.i64.wrap (0 - t1) = -t1 := by rw [wrI (by omega) (by omega)]; omega
  unfold onormal_0 onormal_1 onormal_2
  rw [nrm_ok h0 h1 h2 h3 h4 h5, ev, ew, cond_false, cond_false, addpt_eq (by omega) (by omega), addpt_eq (by omega) (by omega)]
  exact ⟨rfl, rfl, rfl, b1, b2, by omega, by omega⟩
theorem mirrors_law {p0 p1 t0 t1 r : Int} (h0 : t0 ≠ 0 ∨ t1 ≠ 0) (h1 : bd 90000 t0) (h2 : bd 90000 t1) (h3 : bd 500000 p0) (h4 : bd 500000 p1) (h5 : bd 32768 r) :
    (onormal_2 p0 p1 t0 t1 r = true ∧ onormal_2 p0 p1 t0 t1 (IntKind.i64.wrap (0 - r)) = true) ∧
    (0 ≤ minus_0 (addpt_0 (onormal_0 p0 p1 t0 t1 r) (onormal_0 p0 p1 t0 t1 (IntKind.i64.wrap (0 - r)))) (addpt_0 p0 p0) ∧ minus_0 (addpt_0 (onormal_0 p0 p1 t0 t1 r) (onormal_0 p0 p1 t0 t1 (IntKind.i64.wrap (0 - r)))) (addpt_0 p0 p0) ≤ 1) ∧
    (0 ≤ minus_0 (addpt_0 (onormal_1 p0 p1 t0 t1 r) (onormal_1 p0 p1 t0 t1 (IntKind.i64.wrap (0 - r)))) (addpt_0 p1 p1) ∧ minus_0 (addpt_0 (onormal_1 p0 p1 t0 t1 r) (onormal_1 p0 p1 t0 t1 (IntKind.i64.wrap (0 - r)))) (addpt_0 p1 p1) ≤ 1) := by
  have er : IntKind.i64.wrap (0 - r) = -r := by rw [wrI (by omega) (by omega)]; omega
  rw [er]
  obtain ⟨a1, a2, a3, a4, a5, a6, a7⟩ := normal_val (p0 := p0) (p1 := p1) (r := r) h0 (by omega) (by omega) (by omega) (by omega) h5
  obtain ⟨b1, b2, b3, b4, b5, _, _⟩ := normal_val (p0 := p0) (p1 := p1) (r := -r) h0 (by omega) (by omega) (by omega) (by omega) (by omega)
  have o1 := over_opp (a := -t1) (g := r) (N := t0 * t0 + t1 * t1) (by omega) (by omega) (by omega)
  have o2 := over_opp (a := t0) (g := r) (N := t0 * t0 + t1 * t1) (by omega) (by omega) (by omega)
  rw [a1, a2, a3, b1, b2, b3]
  generalize wOver_0 (-t1) r (t0 * t0 + t1 * t1) 2 = u at *
  generalize wOver_0 (-t1) (-r) (t0 * t0 + t1 * t1) 2 = u' at *
  generalize wOver_0 t0 r (t0 * t0 + t1 * t1) 2 = w at *
  generalize wOver_0 t0 (-r) (t0 * t0 + t1 * t1) 2 = w' at *
  rw [addpt_eq (a := p0 + u) (by omega) (by omega), addpt_eq (a := p0) (by omega) (by omega), addpt_eq (a := p1 + w) (by omega) (by omega), addpt_eq (a := p1) (by omega) (by omega), minus_eq (by omega) (by omega), minus_eq (by omega) (by omega)]
  exact ⟨⟨rfl, rfl⟩, ⟨by omega, by omega⟩, ⟨by omega, by omega⟩⟩
theorem corner_back {a b c d s : Int} (ha : bd 90000 a) (hb : bd 90000 b) (hc : bd 90000 c) (hd : bd 90000 d) (hs : bd 1 s) :
    ocorner_0 a b c d s = ocorner_0 (IntKind.i64.wrap (0 - c)) (IntKind.i64.wrap (0 - d)) (IntKind.i64.wrap (0 - a)) (IntKind.i64.wrap (0 - b)) (IntKind.i64.wrap (0 - s)) := by
  rw [wrI (x := 0 - c) (by omega) (by omega), wrI (x := 0 - d) (by omega) (by omega), wrI (x := 0 - a) (by omega) (by omega), wrI (x := 0 - b) (by omega) (by omega), wrI (x := 0 - s) (by omega) (by omega)]
  unfold ocorner_0
  have e1 : vcross_0 (0 - c) (0 - d) (0 - a) (0 - b) = -vcross_0 a b c d := by
    rw [vcross_eq (by omega) (by omega) (by omega) (by omega), vcross_eq (by omega) (by omega) (by omega) (by omega)]; grind
  have e2 : vinner_0 (0 - c) (0 - d) (0 - a) (0 - b) = vinner_0 a b c d := by
    rw [vinner_eq (by omega) (by omega) (by omega) (by omega), vinner_eq (by omega) (by omega) (by omega) (by omega)]; grind
  rw [e1, e2]
  generalize vcross_0 a b c d = x
  generalize vinner_0 a b c d = i
  have f1 : (-x == 0) = (x == 0) := by rw [Bool.eq_iff_iff]; simp
  have f2 : (decide (-x > 0) && decide (0 - s > 0) || decide (-x < 0) && decide (0 - s < 0)) = (decide (x > 0) && decide (s > 0) || decide (x < 0) && decide (s < 0)) := by
    rw [Bool.eq_iff_iff]
    simp only [Bool.or_eq_true, Bool.and_eq_true, decide_eq_true_eq]
    omega
  rw [f1, f2]
theorem sides_law (a b c d : Int) : (bif vcross_0 a b c d == 0 then true && ocorner_0 a b c d 1 == ocorner_0 a b c d (-1) && ocorner_0 a b c d 1 != 2 && (ocorner_0 a b c d 1 == 0) == decide (vinner_0 a b c d > 0)
    else true && (ocorner_0 a b c d 1 == 2 && ocorner_0 a b c d (-1) == 1 || ocorner_0 a b c d 1 == 1 && ocorner_0 a b c d (-1) == 2)) = true := by
  unfold ocorner_0
  generalize vcross_0 a b c d = x
  generalize vinner_0 a b c d = i
  have d1 : decide ((1 : Int) > 0) = true := rfl
  have d2 : decide ((1 : Int) < 0) = false := rfl
  have d3 : decide ((-1 : Int) > 0) = false := rfl
  have d4 : decide ((-1 : Int) < 0) = true := rfl
  rw [d1, d2, d3, d4]
  by_cases h : x = 0
  · subst h
    by_cases h2 : i > 0
    · rw [decide_eq_true h2]; rfl
    · rw [decide_eq_false h2]; rfl
  · have e : (x == 0) = false := by simpa using h
    rw [e]
    by_cases h2 : x > 0
    · rw [decide_eq_true h2, decide_eq_false (show ¬ x < 0 by omega)]; rfl
    · rw [decide_eq_false h2, decide_eq_true (show x < 0 by omega)]; rfl
/-! ### Beside -/
/-- Both are rounded: the square of the distance. (p, q: the components of the direction; k: the radius.) -/
theorem beside_le {p q k n U W : Int} (hk : 0 ≤ k) (hn : 1 ≤ n) (en : p * p + q * q = n) (hU : 0 ≤ U) (hW : 0 ≤ W) (U1 : 1 ≤ U → (2 * U - 1) * (2 * U - 1) * n ≤ 4 * ((p * k) * (p * k))) (W1 : 1 ≤ W → (2 * W - 1) * (2 * W - 1) * n ≤ 4 * ((q * k) * (q * k))) :
    U * U + W * W ≤ (k + 1) * (k + 1) := by
  have ep : (p * k) * (p * k) = p * p * (k * k) := by grind
  have eq : (q * k) * (q * k) = q * q * (k * k) := by grind
  have n1 := sq_nn1 p
  have n2 := sq_nn1 q
  have n3 := sq_nn1 k
  have el : (k + 1) * (k + 1) = k * k + 2 * k + 1 := by grind
  -- divided by n
  have dv : ∀ {x y : Int}, x * n ≤ y * n → x ≤ y := fun {x y} h => by
    rcases Int.lt_or_le y x with g | g
    · have := Int.mul_lt_mul_of_pos_right g (show 0 < n by omega); omega
    · exact g
  have one : ∀ {V s : Int}, 1 ≤ V → 0 ≤ s → s ≤ n → (2 * V - 1) * (2 * V - 1) * n ≤ 4 * (s * (k * k)) → V ≤ k := fun {V s} h1 h2 h3 h4 => by
    have a1 := Int.mul_le_mul_of_nonneg_right h3 n3
    have a2 : 4 * (n * (k * k)) = 4 * (k * k) * n := by grind
    have a3 := dv (x := (2 * V - 1) * (2 * V - 1)) (y := 4 * (k * k)) (by omega)
    rcases Int.lt_or_le k V with g | g
    · have := Int.mul_le_mul (show 2 * k + 1 ≤ 2 * V - 1 by omega) (show 2 * k + 1 ≤ 2 * V - 1 by omega) (by omega) (by omega)
      have e : (2 * k + 1) * (2 * k + 1) = 4 * (k * k) + 4 * k + 1 := by grind
      omega
    · exact g
  by_cases u0 : U = 0
  · subst u0
    by_cases w0 : W = 0
    · subst w0; omega
    · have h1 := W1 (by omega)
      rw [eq] at h1
      have h2 := one (by omega) n2 (by omega) h1
      have := Int.mul_le_mul h2 h2 hW hk
      omega
  · by_cases w0 : W = 0
    · subst w0
      have h1 := U1 (by omega)
      rw [ep] at h1
      have h2 := one (by omega) n1 (by omega) h1
      have := Int.mul_le_mul h2 h2 hU hk
      omega
    · have h1 := U1 (by omega)
      have h2 := W1 (by omega)
      rw [ep] at h1
      rw [eq] at h2
      have a1 : ((2 * U - 1) * (2 * U - 1) + (2 * W - 1) * (2 * W - 1)) * n ≤ 4 * (k * k) * n := by
        have e1 : ((2 * U - 1) * (2 * U - 1) + (2 * W - 1) * (2 * W - 1)) * n = (2 * U - 1) * (2 * U - 1) * n + (2 * W - 1) * (2 * W - 1) * n := Int.add_mul _ _ _
        have e2 : 4 * (k * k) * n = 4 * (p * p * (k * k)) + 4 * (q * q * (k * k)) := by rw [← en]; grind
        omega
      have a2 := dv a1
      generalize hX : 2 * U - 1 = X at *
      generalize hY : 2 * W - 1 = Y at *
      have a3 : X + Y ≤ 3 * k := by
        rcases Int.lt_or_le (3 * k) (X + Y) with g | g
        · have b1 := Int.mul_self_lt_mul_self (show 0 ≤ 3 * k by omega) g
          have b2 := sq_nn1 (X - Y)
          have b3 : (X + Y) * (X + Y) + (X - Y) * (X - Y) = 2 * (X * X + Y * Y) := by grind
          have b4 : 3 * k * (3 * k) = 9 * (k * k) := by grind
          omega
        · exact g
      have a4 : 4 * (U * U + W * W) = (X * X + Y * Y) + 2 * (X + Y) + 2 := by rw [← hX, ← hY]; grind
      omega
theorem beside_ge {p q k n U W : Int} (hk : 1 ≤ k) (hn : 1 ≤ n) (en : p * p + q * q = n) (hU : 0 ≤ U) (hW : 0 ≤ W) (U2 : 4 * ((p * k) * (p * k)) ≤ (2 * U + 1) * (2 * U + 1) * n) (W2 : 4 * ((q * k) * (q * k)) ≤ (2 * W + 1) * (2 * W + 1) * n) :
    (k - 1) * (k - 1) ≤ U * U + W * W ∧ 4 * (k * k) ≤ (2 * U + 1) * (2 * U + 1) + (2 * W + 1) * (2 * W + 1) := by
  have ep : (p * k) * (p * k) = p * p * (k * k) := by grind
  have eq : (q * k) * (q * k) = q * q * (k * k) := by grind
  have dv : ∀ {x y : Int}, x * n ≤ y * n → x ≤ y := fun {x y} h => by
    rcases Int.lt_or_le y x with g | g
    · have := Int.mul_lt_mul_of_pos_right g (show 0 < n by omega); omega
    · exact g
  have a1 : 4 * (k * k) * n ≤ ((2 * U + 1) * (2 * U + 1) + (2 * W + 1) * (2 * W + 1)) * n := by
    have e1 : ((2 * U + 1) * (2 * U + 1) + (2 * W + 1) * (2 * W + 1)) * n = (2 * U + 1) * (2 * U + 1) * n + (2 * W + 1) * (2 * W + 1) * n := Int.add_mul _ _ _
    have e2 : 4 * (k * k) * n = 4 * (p * p * (k * k)) + 4 * (q * q * (k * k)) := by rw [← en]; grind
    rw [ep] at U2
    rw [eq] at W2
    omega
  have a2 := dv a1
  refine ⟨?_, a2⟩
  rcases Int.lt_or_le (U * U + W * W) ((k - 1) * (k - 1)) with g | g
  · exfalso
    have e1 : (2 * U + 1) * (2 * U + 1) + (2 * W + 1) * (2 * W + 1) = 4 * (U * U + W * W) + 4 * (U + W) + 2 := by grind
    have e2 : (k - 1) * (k - 1) = k * k - 2 * k + 1 := by grind
    have a3 : 2 * (U + W) ≤ 3 * (k - 1) := by
      rcases Int.lt_or_le (3 * (k - 1)) (2 * (U + W)) with g2 | g2
      · have b1 := Int.mul_self_lt_mul_self (show 0 ≤ 3 * (k - 1) by omega) g2
        have b2 := sq_nn1 (U - W)
        have b3 : (2 * (U + W)) * (2 * (U + W)) + 4 * ((U - W) * (U - W)) = 8 * (U * U + W * W) := by grind
        have b4 : 3 * (k - 1) * (3 * (k - 1)) = 9 * ((k - 1) * (k - 1)) := by grind
        have b5 := sq_nn1 (k - 1)
        omega
      · exact g2
    omega
  · exact g
end Go.Proofs.Ytjlkecfkjcanaaa
