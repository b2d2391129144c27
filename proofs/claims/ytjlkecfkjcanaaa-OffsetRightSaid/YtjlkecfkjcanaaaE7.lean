/-
  TRIM, plain laws without the reference: what it returns is clear; how far it is from the second piece. Conditions: bounds.
-/
import Derived.Test.YtjlkecfkjcanaaaE5
set_option linter.all false
namespace Go.Proofs.Ytjlkecfkjcanaaa
open Go.SX Go.RowKit
theorem nest_z {a b c d : Bool} {x : Int} (h : (bif !a then (3 : Int) else bif !b then 3 else bif !c then 3 else bif !d then 3 else 0) = 0) : a = true ∧ b = true ∧ c = true ∧ d = true := by
  revert h; cases a <;> cases b <;> cases c <;> cases d <;> decide
theorem nest_or (a b c d : Bool) : (bif !a then (3 : Int) else bif !b then 3 else bif !c then 3 else bif !d then 3 else 0) = 0 ∨ (bif !a then (3 : Int) else bif !b then 3 else bif !c then 3 else bif !d then 3 else 0) = 3 := by
  cases a <;> cases b <;> cases c <;> cases d <;> decide
theorem ends_err (e0 e1 e2 e3 e4 e5 e6 r : Int) : oends_4 e0 e1 e2 e3 e4 e5 e6 r = 0 ∨ oends_4 e0 e1 e2 e3 e4 e5 e6 r = 3 ∨ oends_4 e0 e1 e2 e3 e4 e5 e6 r = 16 := by
  have key : ∀ (p q s : Bool) (x : Int), (x = 0 ∨ x = 3) → (bif p then bif q then 16 else bif s then 16 else x else x) = 0 ∨ (bif p then bif q then 16 else bif s then 16 else x else x) = 3 ∨ (bif p then bif q then 16 else bif s then 16 else x else x) = 16 := fun p q s x h => by
    cases p <;> cases q <;> cases s <;> rcases h with rfl | rfl <;> decide
  exact key _ _ _ _ (nest_or _ _ _ _)
/-- The ends, where there is no error. -/
theorem ends_ok {e0 e1 e2 e3 e4 e5 e6 r : Int} (E : EP e0 e1 e2 e3 e4 e5 e6) (h : oends_4 e0 e1 e2 e3 e4 e5 e6 r = 0) :
    oends_0 e0 e1 e2 e3 e4 e5 e6 r = onormal_0 e0 e1 (rtang_0 e0 e1 e2 e3 e5 e6 false) (rtang_1 e0 e1 e2 e3 e4 e6 false) r ∧ oends_1 e0 e1 e2 e3 e4 e5 e6 r = onormal_1 e0 e1 (rtang_0 e0 e1 e2 e3 e5 e6 false) (rtang_1 e0 e1 e2 e3 e4 e6 false) r ∧
    oends_2 e0 e1 e2 e3 e4 e5 e6 r = onormal_0 e2 e3 (rtang_0 e0 e1 e2 e3 e5 e6 true) (rtang_1 e0 e1 e2 e3 e4 e6 true) r ∧ oends_3 e0 e1 e2 e3 e4 e5 e6 r = onormal_1 e2 e3 (rtang_0 e0 e1 e2 e3 e5 e6 true) (rtang_1 e0 e1 e2 e3 e4 e6 true) r ∧
    ((e6 != 0 && oinward_0 e6 r) = true → IntKind.i64.wrap (oends_s0 r * oends_s0 r) ≤ vinner_0 (minus_0 e0 e4) (minus_0 e1 e5) (minus_0 e0 e4) (minus_0 e1 e5) ∧ IntKind.i64.wrap (oends_s0 r * oends_s0 r) ≤ vinner_0 (minus_0 e2 e4) (minus_0 e3 e5) (minus_0 e2 e4) (minus_0 e3 e5)) := by
  obtain ⟨t0, t1⟩ := tang_same false E.dir E.c0 E.c1 E.c2 E.c3 E.c4 E.c5
  obtain ⟨t2, t3⟩ := tang_same true E.dir E.c0 E.c1 E.c2 E.c3 E.c4 E.c5
  have key : ∀ (p : Bool) (x y z : Int) (s : Int), (bif p then bif decide (x < z) then 16 else bif decide (y < z) then 16 else s else s) = 0 → (s = 0 ∧ (p = true → z ≤ x ∧ z ≤ y)) := fun p x y z s h => by
    cases p
    · exact ⟨h, fun h => by cases h⟩
    · rw [cond_true] at h
      by_cases h1 : x < z
      · rw [decide_eq_true h1] at h; cases h
      · by_cases h2 : y < z
        · rw [decide_eq_false h1, decide_eq_true h2] at h; cases h
        · rw [decide_eq_false h1, decide_eq_false h2] at h
          exact ⟨h, fun _ => ⟨by omega, by omega⟩⟩
  obtain ⟨hs, hg⟩ := key _ _ _ _ _ h
  obtain ⟨a, b, c, d⟩ := nest_z (x := 0) hs
  have same : ∀ (p q s : Bool) (x : Int), (p = true → q = false ∧ s = false) → (bif p then bif q then 0 else bif s then 0 else x else x) = x := fun p q s x hh => by
    cases p
    · rfl
    · obtain ⟨rfl, rfl⟩ := hh rfl; rfl
  have cond : (e6 != 0 && oinward_0 e6 r) = true → decide (vinner_0 (minus_0 e0 e4) (minus_0 e1 e5) (minus_0 e0 e4) (minus_0 e1 e5) < IntKind.i64.wrap (oends_s0 r * oends_s0 r)) = false ∧ decide (vinner_0 (minus_0 e2 e4) (minus_0 e3 e5) (minus_0 e2 e4) (minus_0 e3 e5) < IntKind.i64.wrap (oends_s0 r * oends_s0 r)) = false := fun hp => by
    obtain ⟨g1, g2⟩ := hg hp
    exact ⟨decide_eq_false (by omega), decide_eq_false (by omega)⟩
  refine ⟨?_, ?_, ?_, ?_, hg⟩
  · unfold oends_0
    rw [same _ _ _ _ cond]
    unfold oends_s2 oends_s1
    rw [t0, t1] at a b ⊢
    rw [t2, t3] at c d ⊢
    rw [a, b, c, d]; rfl
  · unfold oends_1
    rw [same _ _ _ _ cond]
    unfold oends_s4 oends_s3
    rw [t0, t1] at a b ⊢
    rw [t2, t3] at c d ⊢
    rw [a, b, c, d]; rfl
  · unfold oends_2
    rw [same _ _ _ _ cond]
    unfold oends_s6 oends_s5
    rw [t0, t1] at a b ⊢
    rw [t2, t3] at c d ⊢
    rw [a, b, c, d]; rfl
  · unfold oends_3
    rw [same _ _ _ _ cond]
    unfold oends_s8 oends_s7
    rw [t0, t1] at a b ⊢
    rw [t2, t3] at c d ⊢
    rw [a, b, c, d]; rfl
/-- Clear of a straight piece. -/
theorem clear_line {f0 f1 f2 f3 y0 y1 r : Int} (f4 f5 : Int) (h0 : bd 1000000 f0) (h1 : bd 1000000 f1) (h2 : bd 1000000 f2) (h3 : bd 1000000 f3) (g0 : bd 1100000 y0) (g1 : bd 1100000 y1) (hr : bd 40000 r) :
    oclear_0 f0 f1 f2 f3 f4 f5 0 y0 y1 r = decide ((0 ≤ r ∧ 0 ≤ (f2 - f0) * (y1 - f1) - (f3 - f1) * (y0 - f0) ∨ r < 0 ∧ (f2 - f0) * (y1 - f1) - (f3 - f1) * (y0 - f0) ≤ 0) ∧ r * r * ((f2 - f0) * (f2 - f0) + (f3 - f1) * (f3 - f1)) ≤ ((f2 - f0) * (y1 - f1) - (f3 - f1) * (y0 - f0)) * ((f2 - f0) * (y1 - f1) - (f3 - f1) * (y0 - f0))) := by
  have d0 : minus_0 f2 f0 = f2 - f0 := minus_eq (by omega) (by omega)
  have d1 : minus_0 f3 f1 = f3 - f1 := minus_eq (by omega) (by omega)
  have d2 : minus_0 y0 f0 = y0 - f0 := minus_eq (by omega) (by omega)
  have d3 : minus_0 y1 f1 = y1 - f1 := minus_eq (by omega) (by omega)
  have hx : vcross_0 (f2 - f0) (f3 - f1) (y0 - f0) (y1 - f1) = (f2 - f0) * (y1 - f1) - (f3 - f1) * (y0 - f0) := vcross_eq (by omega) (by omega) (by omega) (by omega)
  have hv : vinner_0 (f2 - f0) (f3 - f1) (f2 - f0) (f3 - f1) = (f2 - f0) * (f2 - f0) + (f3 - f1) * (f3 - f1) := vinner_eq (by omega) (by omega) (by omega) (by omega)
  have hrr : IntKind.i64.wrap (r * r) = r * r := by
    have := mul_bd hr hr (by omega) (by omega)
    exact wrI (by omega) (by omega)
  have hxI : isI (vcross_0 (f2 - f0) (f3 - f1) (y0 - f0) (y1 - f1)) := wrap_isI _
  have z : ((0 : Int) == 0) = true := rfl
  unfold oclear_0 oclear_s0
  rw [z, cond_true, d0, d1, d2, d3, wcmp_eq _ _ _ _ hxI hxI (wrap_isI _) (v_isI _ _ _ _), hrr, hv, hx]
  rw [show decide (cmpI (((f2 - f0) * (y1 - f1) - (f3 - f1) * (y0 - f0)) * ((f2 - f0) * (y1 - f1) - (f3 - f1) * (y0 - f0))) (r * r * ((f2 - f0) * (f2 - f0) + (f3 - f1) * (f3 - f1))) ≥ 0) = decide (r * r * ((f2 - f0) * (f2 - f0) + (f3 - f1) * (f3 - f1)) ≤ ((f2 - f0) * (y1 - f1) - (f3 - f1) * (y0 - f0)) * ((f2 - f0) * (y1 - f1) - (f3 - f1) * (y0 - f0))) from cmpI_ge _ _]
  rw [Bool.eq_iff_iff]
  simp only [Bool.and_eq_true, Bool.or_eq_true, decide_eq_true_eq, ge_iff_le]
/-- A normal and a little: the least and the greatest distance. -/
theorem near_line {N X Z i D k : Int} (hN : 1 ≤ N) (hk : 4 ≤ k) (hX : X * X + i * i = N * D) (hi : 2 * (i * i) ≤ N) (hD1 : (k - 1) * (k - 1) ≤ D) (hD2 : D ≤ (k + 1) * (k + 1)) (hX0 : 0 < X) (hZ : Z * Z ≤ N) :
    0 ≤ X + Z ∧ (k - 3) * (k - 3) * N ≤ (X + Z) * (X + Z) ∧ (X + Z) * (X + Z) < (k + 3) * (k + 3) * N := by
  have k1 := Int.mul_le_mul_of_nonneg_left hD1 (show 0 ≤ N by omega)
  have k2 := Int.mul_le_mul_of_nonneg_left hD2 (show 0 ≤ N by omega)
  have ni := sq_nn1 i
  have e1 : N * ((k - 1) * (k - 1)) = (k - 2) * (k - 2) * N + 2 * ((k - 2) * N) + N := by grind
  have e2 : N * ((k + 1) * (k + 1)) = (k + 1) * (k + 1) * N := Int.mul_comm _ _
  have n1 := Int.mul_nonneg (show 0 ≤ k - 2 by omega) (show 0 ≤ N by omega)
  obtain ⟨g0, g1⟩ := rest_ge (p := 2 * X) (w := -(2 * Z)) (c := 1) (d := k - 3) (x := N) (by omega) (by omega) (by omega) (by omega) (by
    have a1 : (1 + (k - 3)) * (1 + (k - 3)) * N = (k - 2) * (k - 2) * N := by rw [show 1 + (k - 3) = k - 2 by omega]
    have a2 : 2 * X * (2 * X) = 4 * (X * X) := by grind
    rw [a1, a2]; omega) (.inr (by
    have a1 : -(2 * Z) * -(2 * Z) = 4 * (Z * Z) := by grind
    rw [a1]; omega))
  have a3 : (2 * X - -(2 * Z)) * (2 * X - -(2 * Z)) = 4 * ((X + Z) * (X + Z)) := by grind
  refine ⟨by omega, by omega, ?_⟩
  have hXZ : X * Z ≤ (k + 1) * N := by
    refine le_of_sq (Int.mul_nonneg (by omega) (by omega)) ?_
    have b1 : X * Z * (X * Z) = X * X * (Z * Z) := by grind
    have b2 : (k + 1) * N * ((k + 1) * N) = (k + 1) * (k + 1) * N * N := by grind
    rw [b1, b2]
    exact Int.mul_le_mul (by omega) hZ (sq_nn1 _) (Int.mul_nonneg (sq_nn1 _) (by omega))
  have b3 : (X + Z) * (X + Z) = X * X + 2 * (X * Z) + Z * Z := by grind
  have b4 : (k + 3) * (k + 3) * N = (k + 1) * (k + 1) * N + 4 * ((k + 1) * N) + 4 * N := by grind
  have b5 := Int.mul_nonneg (show 0 ≤ k + 1 by omega) (show 0 ≤ N by omega)
  have b6 := Int.mul_le_mul_of_nonneg_right (show 4 ≤ k + 1 by omega) (show 0 ≤ N by omega)
  omega
/-- A rounded point between two: how far it is from the straight line. -/
theorem round_off {t0 t1 B n x0 x1 : Int} (hn : 1 ≤ n) (h0 : x0 = (2 * t0 * B + n) / (2 * n)) (h1 : x1 = (2 * t1 * B + n) / (2 * n)) : (t0 * x1 - t1 * x0) * (t0 * x1 - t1 * x0) ≤ t0 * t0 + t1 * t1 := by
  have hm : 0 < 2 * n := by omega
  have e : ∀ {t x : Int}, x = (2 * t * B + n) / (2 * n) → -n ≤ 2 * (n * x - t * B) ∧ 2 * (n * x - t * B) ≤ n := fun {t x} h => by
    have dm := Int.mul_ediv_add_emod (2 * t * B + n) (2 * n)
    have m0 := Int.emod_nonneg (2 * t * B + n) (show 2 * n ≠ 0 by omega)
    have m1 := Int.emod_lt_of_pos (2 * t * B + n) hm
    rw [← h] at dm
    have a1 : 2 * n * x = 2 * (n * x) := Int.mul_assoc _ _ _
    have a2 : 2 * t * B = 2 * (t * B) := Int.mul_assoc _ _ _
    omega
  obtain ⟨a0, a1⟩ := e h0
  obtain ⟨b0, b1⟩ := e h1
  obtain ⟨p, p0, p1, _, pp⟩ := abs_ex t0
  obtain ⟨q, q0, q1, _, qq⟩ := abs_ex t1
  have c1 := mul_bd (m := p) (n := n) (x := t0) (y := 2 * (n * x1 - t1 * B)) (by constructor <;> omega) ⟨by omega, by omega⟩ p0 (by omega)
  have c2 := mul_bd (m := q) (n := n) (x := t1) (y := 2 * (n * x0 - t0 * B)) (by constructor <;> omega) ⟨by omega, by omega⟩ q0 (by omega)
  have e1 : 2 * (n * (t0 * x1 - t1 * x0)) = t0 * (2 * (n * x1 - t1 * B)) - t1 * (2 * (n * x0 - t0 * B)) := by grind
  have e2 : (p + q) * n = p * n + q * n := Int.add_mul _ _ _
  have d1 : -(p + q) ≤ 2 * (t0 * x1 - t1 * x0) ∧ 2 * (t0 * x1 - t1 * x0) ≤ p + q := by
    have e3 : n * (2 * (t0 * x1 - t1 * x0)) = 2 * (n * (t0 * x1 - t1 * x0)) := by grind
    constructor
    · refine Int.le_of_mul_le_mul_left (a := n) ?_ (by omega)
      rw [e3, e1, Int.mul_neg, Int.mul_comm n (p + q)]; omega
    · refine Int.le_of_mul_le_mul_left (a := n) ?_ (by omega)
      rw [e3, e1, Int.mul_comm n (p + q)]; omega
  have d2 := mul_bd d1 d1 (by omega) (by omega)
  have e4 : 2 * (t0 * x1 - t1 * x0) * (2 * (t0 * x1 - t1 * x0)) = 4 * ((t0 * x1 - t1 * x0) * (t0 * x1 - t1 * x0)) := by grind
  have e5 : (p + q) * (p + q) + (p - q) * (p - q) = 2 * (p * p) + 2 * (q * q) := by grind
  have := sq_nn1 (p - q)
  have := sq_nn1 (t0 * x1 - t1 * x0)
  omega
theorem bsF_hit {P : Int → Bool} {n : Int} (h : P n = true) : P (bsF P (bs0 n)) = true := bs_hit _ 0 n h
theorem cv_hit {P : Int → Int → Bool} {d z : Int} {full : Bool} : ∀ (f : Nat) (s : CvS), P s.b0 s.b1 = true → P (cv P d z full f s).1 (cv P d z full f s).2 = true
  | 0, s, h => h
  | f + 1, s, h => by
    unfold cv
    cases ((!full || decide (Int.ofNat s.i > 0)) && cvNear s)
    · rw [cond_false]
      refine cv_hit f _ ?_
      unfold cvN
      cases hp : P (cvM0 d z full s) (cvM1 d z full s)
      · exact h
      · exact hp
    · exact h
/-- An element that is straight has a direction. -/
theorem element_nz {u v a : Int} (L : List (List Int)) (hu : bd 900000 u) (hv : bd 900000 v) (h6 : element_6 a L = 0) : element_2 u a L - element_0 u a L ≠ 0 ∨ element_3 v a L - element_0 v a L ≠ 0 := by
  obtain ⟨h0, h1, h2, h3⟩ := spokes_bd (next_1 a L) L
  have q1 := ptm_bd' ((next_0 3 (spokes_6 (next_1 a L) L) L).toNat.beq 0) ((next_0 3 (spokes_6 (next_1 a L) L) L).toNat.beq 1) (next_1 (spokes_6 (next_1 a L) L) L) L
  have q2 := ptm_bd' ((next_0 3 (next_1 a L) L).toNat.beq 0) ((next_0 3 (next_1 a L) L).toNat.beq 1) (next_1 (next_1 a L) L) L
  have ad : ∀ {x y : Int}, bd 900000 x → bd 20002 y → addpt_0 x y - x = y := fun {x y} h1 h2 => by rw [addpt_eq (by omega) (by omega)]; omega
  have key : ∀ {x y : Int}, bd 20000 x → bd 20000 y → addpt_0 u (bif x == 0 && y == 0 then 100 else x) - u ≠ 0 ∨ addpt_0 v y - v ≠ 0 := fun {x y} h1 h2 => by
    by_cases h : x = 0 ∧ y = 0
    · left
      rw [show (x == 0 && y == 0) = true by simp [h.1, h.2], cond_true, ad hu (by omega)]; omega
    · have e : (x == 0 && y == 0) = false := by rw [Bool.and_eq_false_iff, beq_eq_false_iff_ne, beq_eq_false_iff_ne]; omega
      rw [e, cond_false, ad hu (by omega), ad hv (by omega)]; omega
  unfold element_6 at h6
  unfold element_0 element_2 element_3
  cases hn : next_0 3 a L == 0
  · simp only [cond_false]
    exact key q2.1 q2.2
  · rw [hn] at h6
    simp only [cond_true] at h6 ⊢
    cases hf : fit_0 (spokes_0 (next_1 a L) L) (spokes_1 (next_1 a L) L) (spokes_2 (next_1 a L) L) (spokes_3 (next_1 a L) L) (spokes_4 (next_1 a L) L)
    · simp only [cond_false]
      exact key q1.1 q1.2
    · rw [hf] at h6
      exfalso
      have r := next_0_range 2 (spokes_6 (next_1 a L) L) L (by omega) (by omega)
      generalize next_0 2 (spokes_6 (next_1 a L) L) L = t at *
      simp only [cond_true] at h6
      rw [wrI (x := 2 * t) (by omega) (by omega), wrI (by omega) (by omega)] at h6
      omega
theorem pair_nz (L : List (List Int)) : (qa6 L = 0 → qa2 L - qa0 L ≠ 0 ∨ qa3 L - qa1 L ≠ 0) ∧ (qb6 L = 0 → qb2 L - qb0 L ≠ 0 ∨ qb3 L - qb1 L ≠ 0) := by
  have hu := range_rng (-900) 900 (pair_s0 L) L (by omega) (by omega) (by omega)
  have hv := range_rng (-900) 900 (pair_s1 L) L (by omega) (by omega) (by omega)
  obtain ⟨m1, m2⟩ := element_mv (m := 900) (a := next_1 (next_1 (pair_s0 L) L) L) (u := range_0 (-900) 900 (pair_s0 L) L) (v := range_0 (-900) 900 (pair_s1 L) L) L (by omega) (by omega) (by omega) (by omega)
  exact ⟨fun h => element_nz (u := range_0 (-900) 900 (pair_s0 L) L) (v := range_0 (-900) 900 (pair_s1 L) L) (a := next_1 (next_1 (pair_s0 L) L) L) L (by omega) (by omega) h,
    fun h => element_nz (u := element_2 (range_0 (-900) 900 (pair_s0 L) L) (next_1 (next_1 (pair_s0 L) L) L) L) (v := element_3 (range_0 (-900) 900 (pair_s1 L) L) (next_1 (next_1 (pair_s0 L) L) L) L) (a := element_8 (next_1 (next_1 (pair_s0 L) L) L) L) L (by omega) (by omega) h⟩
theorem trim_err {e0 e1 e2 e3 e4 e5 e6 f0 f1 f2 f3 f4 f5 f6 r : Int} {e7 f7 : Bool} (h : trim_2 e0 e1 e2 e3 e4 e5 e6 e7 f0 f1 f2 f3 f4 f5 f6 f7 r ≠ 0) : trim_0 e0 e1 e2 e3 e4 e5 e6 e7 f0 f1 f2 f3 f4 f5 f6 f7 r = 0 ∧ trim_1 e0 e1 e2 e3 e4 e5 e6 e7 f0 f1 f2 f3 f4 f5 f6 f7 r = 0 ∧ (trim_2 e0 e1 e2 e3 e4 e5 e6 e7 f0 f1 f2 f3 f4 f5 f6 f7 r = 16 ∨ trim_2 e0 e1 e2 e3 e4 e5 e6 e7 f0 f1 f2 f3 f4 f5 f6 f7 r = 3) := by
  have x := ends_err e0 e1 e2 e3 e4 e5 e6 r
  have y := ends_err f0 f1 f2 f3 f4 f5 f6 r
  unfold trim_2 at h ⊢
  unfold trim_0 trim_1
  by_cases h1 : oends_4 e0 e1 e2 e3 e4 e5 e6 r = 0
  · have Q1 : (oends_4 e0 e1 e2 e3 e4 e5 e6 r != 0) = false := by simpa using h1
    rw [Q1] at h ⊢
    simp only [cond_false] at h ⊢
    by_cases h2 : oends_4 f0 f1 f2 f3 f4 f5 f6 r = 0
    · have Q2 : (oends_4 f0 f1 f2 f3 f4 f5 f6 r != 0) = false := by simpa using h2
      rw [Q2] at h ⊢
      simp only [cond_false] at h ⊢
      revert h
      cases (!oclear_0 e0 e1 e2 e3 e4 e5 e6 (oends_2 f0 f1 f2 f3 f4 f5 f6 r) (oends_3 f0 f1 f2 f3 f4 f5 f6 r) r) <;> cases (!oin_0 (trim_s0 e0 e1 e2 e3 e4 e5 e6 e7 f0 f1 f2 f3 f4 f5 f6 f7 r) 1048576 || !oin_0 (trim_s1 e0 e1 e2 e3 e4 e5 e6 e7 f0 f1 f2 f3 f4 f5 f6 f7 r) 1048576) <;> cases (!ahead_0 e0 e1 e2 e3 e4 e5 e6 e7 (trim_s0 e0 e1 e2 e3 e4 e5 e6 e7 f0 f1 f2 f3 f4 f5 f6 f7 r) (trim_s1 e0 e1 e2 e3 e4 e5 e6 e7 f0 f1 f2 f3 f4 f5 f6 f7 r) (oends_0 e0 e1 e2 e3 e4 e5 e6 r) (oends_1 e0 e1 e2 e3 e4 e5 e6 r)) <;> simp
    · have Q2 : (oends_4 f0 f1 f2 f3 f4 f5 f6 r != 0) = true := by simpa using h2
      rw [Q2]
      simp only [cond_true]
      exact ⟨trivial, trivial, by omega⟩
  · have Q1 : (oends_4 e0 e1 e2 e3 e4 e5 e6 r != 0) = true := by simpa using h1
    rw [Q1]
    simp only [cond_true]
    exact ⟨trivial, trivial, by omega⟩
theorem trim_right {e0 e1 e2 e3 e4 e5 e6 f0 f1 f2 f3 f4 f5 f6 r : Int} {e7 f7 : Bool} (h : trim_2 e0 e1 e2 e3 e4 e5 e6 e7 f0 f1 f2 f3 f4 f5 f6 f7 r = 0) : oends_4 e0 e1 e2 e3 e4 e5 e6 r = 0 ∧ oends_4 f0 f1 f2 f3 f4 f5 f6 r = 0 ∧ oclear_0 e0 e1 e2 e3 e4 e5 e6 (oends_2 f0 f1 f2 f3 f4 f5 f6 r) (oends_3 f0 f1 f2 f3 f4 f5 f6 r) r = true ∧ bd 1048576 (trim_s0 e0 e1 e2 e3 e4 e5 e6 e7 f0 f1 f2 f3 f4 f5 f6 f7 r) ∧ bd 1048576 (trim_s1 e0 e1 e2 e3 e4 e5 e6 e7 f0 f1 f2 f3 f4 f5 f6 f7 r) ∧ trim_0 e0 e1 e2 e3 e4 e5 e6 e7 f0 f1 f2 f3 f4 f5 f6 f7 r = trim_s0 e0 e1 e2 e3 e4 e5 e6 e7 f0 f1 f2 f3 f4 f5 f6 f7 r ∧ trim_1 e0 e1 e2 e3 e4 e5 e6 e7 f0 f1 f2 f3 f4 f5 f6 f7 r = trim_s1 e0 e1 e2 e3 e4 e5 e6 e7 f0 f1 f2 f3 f4 f5 f6 f7 r := by
  unfold trim_2 at h
  unfold trim_0 trim_1
  have h1 : oends_4 e0 e1 e2 e3 e4 e5 e6 r = 0 := by
    by_cases g : oends_4 e0 e1 e2 e3 e4 e5 e6 r = 0
    · exact g
    · have Q1 : (oends_4 e0 e1 e2 e3 e4 e5 e6 r != 0) = true := by simpa using g
      rw [Q1] at h; exact h
  have Q1 : (oends_4 e0 e1 e2 e3 e4 e5 e6 r != 0) = false := by simpa using h1
  rw [Q1] at h ⊢
  simp only [cond_false] at h ⊢
  have h2 : oends_4 f0 f1 f2 f3 f4 f5 f6 r = 0 := by
    by_cases g : oends_4 f0 f1 f2 f3 f4 f5 f6 r = 0
    · exact g
    · have Q2 : (oends_4 f0 f1 f2 f3 f4 f5 f6 r != 0) = true := by simpa using g
      rw [Q2] at h; exact h
  have Q2 : (oends_4 f0 f1 f2 f3 f4 f5 f6 r != 0) = false := by simpa using h2
  rw [Q2] at h ⊢
  simp only [cond_false] at h ⊢
  cases hc : oclear_0 e0 e1 e2 e3 e4 e5 e6 (oends_2 f0 f1 f2 f3 f4 f5 f6 r) (oends_3 f0 f1 f2 f3 f4 f5 f6 r) r
  · rw [hc] at h; cases h
  rw [hc] at h
  simp only [Bool.not_true, cond_false] at h ⊢
  cases hu : oin_0 (trim_s0 e0 e1 e2 e3 e4 e5 e6 e7 f0 f1 f2 f3 f4 f5 f6 f7 r) 1048576
  · rw [hu] at h; cases h
  cases hv : oin_0 (trim_s1 e0 e1 e2 e3 e4 e5 e6 e7 f0 f1 f2 f3 f4 f5 f6 f7 r) 1048576
  · rw [hu, hv] at h; cases h
  rw [hu, hv] at h
  simp only [Bool.not_true, Bool.or_self, cond_false] at h ⊢
  cases ha : ahead_0 e0 e1 e2 e3 e4 e5 e6 e7 (trim_s0 e0 e1 e2 e3 e4 e5 e6 e7 f0 f1 f2 f3 f4 f5 f6 f7 r) (trim_s1 e0 e1 e2 e3 e4 e5 e6 e7 f0 f1 f2 f3 f4 f5 f6 f7 r) (oends_0 e0 e1 e2 e3 e4 e5 e6 r) (oends_1 e0 e1 e2 e3 e4 e5 e6 r)
  · rw [ha] at h; cases h
  have q : ∀ {x}, oin_0 x 1048576 = true → bd 1048576 x := fun h => (oin_iff (by omega) (by omega)).1 h
  exact ⟨h1, h2, trivial, q hu, q hv, rfl, rfl⟩
/-- A point of a straight piece that a search found: its index. -/
theorem straight_val {e0 e1 e2 e3 e4 e5 e6 l0 l1 h0 h1 r : Int} (e7 : Bool) (b0 : bd 1048576 l0) (b1 : bd 1048576 l1) (b2 : bd 1048576 h0) (b3 : bd 1048576 h1) (hc : oclear_0 e0 e1 e2 e3 e4 e5 e6 h0 h1 r = true) :
    oclear_0 e0 e1 e2 e3 e4 e5 e6 (straight_0 l0 l1 h0 h1 e0 e1 e2 e3 e4 e5 e6 e7 r) (straight_1 l0 l1 h0 h1 e0 e1 e2 e3 e4 e5 e6 e7 r) r = true ∧ ((l0 = h0 ∧ l1 = h1 ∧ straight_0 l0 l1 h0 h1 e0 e1 e2 e3 e4 e5 e6 e7 r = l0 ∧ straight_1 l0 l1 h0 h1 e0 e1 e2 e3 e4 e5 e6 e7 r = l1) ∨
      ∃ n B, 1 ≤ n ∧ straight_0 l0 l1 h0 h1 e0 e1 e2 e3 e4 e5 e6 e7 r = l0 + (2 * (h0 - l0) * B + n) / (2 * n) ∧ straight_1 l0 l1 h0 h1 e0 e1 e2 e3 e4 e5 e6 e7 r = l1 + (2 * (h1 - l1) * B + n) / (2 * n)) := by
  obtain ⟨en, n0, n1, n2, n3⟩ := found_n b0 b1 b2 b3
  have d0 : minus_0 h0 l0 = h0 - l0 := minus_eq (by omega) (by omega)
  have d1 : minus_0 h1 l1 = h1 - l1 := minus_eq (by omega) (by omega)
  unfold straight_0 straight_1
  rw [en, d0, d1]
  generalize found_n_ l0 l1 h0 h1 = n at *
  by_cases hn : n = 0
  · have Q1 : l0 = h0 := by omega
    have Q2 : l1 = h1 := by omega
    rw [hn, md_zero, md_zero, addpt_eq (by omega) (by omega), addpt_eq (by omega) (by omega), Int.add_zero, Int.add_zero]
    exact ⟨by rw [Q1, Q2]; exact hc, .inl ⟨Q1, Q2, rfl, rfl⟩⟩
  · have hn1 : 1 ≤ n ∧ n ≤ 4194304 := by omega
    have hR : 0 ≤ (stF l0 l1 (h0 - l0) (h1 - l1) n e0 e1 e2 e3 e4 e5 e6 e7 r).fin (bs0 n) ∧ (stF l0 l1 (h0 - l0) (h1 - l1) n e0 e1 e2 e3 e4 e5 e6 e7 r).fin (bs0 n) ≤ n := bsF_rng _ n0
    have hP : stP l0 l1 (h0 - l0) (h1 - l1) n e0 e1 e2 e3 e4 e5 e6 r n = true := by
      unfold stP
      rw [(pt_same b0 n2 ⟨n0, Int.le_refl n⟩ hn1).2, (pt_same b1 n3 ⟨n0, Int.le_refl n⟩ hn1).2]
      have ev : ∀ d : Int, (2 * d * n + n) / (2 * n) = d := fun d => ediv_of (r := n) (by omega) (by omega) (by omega) (by grind)
      rw [ev, ev, show l0 + (h0 - l0) = h0 by omega, show l1 + (h1 - l1) = h1 by omega]
      exact hc
    have hh := bsF_hit hP
    refine ⟨hh, .inr ⟨n, _, hn1.1, (pt_same b0 n2 hR hn1).2, (pt_same b1 n3 hR hn1).2⟩⟩
theorem curved_val {e0 e1 e2 e3 e4 e5 e6 f0 f1 f2 f3 f4 f5 f6 l0 l1 h0 h1 r q : Int} (e7 f7 : Bool) (b2 : bd 1048576 h0) (b3 : bd 1048576 h1) (c4 : bd 1000000 f4) (c5 : bd 1000000 f5) (hc : oclear_0 e0 e1 e2 e3 e4 e5 e6 h0 h1 r = true) :
    oclear_0 e0 e1 e2 e3 e4 e5 e6 (curved_0 f0 f1 f2 f3 f4 f5 f6 f7 l0 l1 h0 h1 q e0 e1 e2 e3 e4 e5 e6 e7 r) (curved_1 f0 f1 f2 f3 f4 f5 f6 f7 l0 l1 h0 h1 q e0 e1 e2 e3 e4 e5 e6 e7 r) r = true := by
  unfold curved_0 curved_1
  refine cv_hit (P := crP f4 f5 e0 e1 e2 e3 e4 e5 e6 r) _ (cv0 (minus_0 l0 f4) (minus_0 l1 f5) (minus_0 h0 f4) (minus_0 h1 f5)) ?_
  show oclear_0 e0 e1 e2 e3 e4 e5 e6 (addpt_0 f4 (minus_0 h0 f4)) (addpt_0 f5 (minus_0 h1 f5)) r = true
  rw [minus_eq (a := h0) (by omega) (by omega), minus_eq (a := h1) (by omega) (by omega), addpt_eq (by omega) (by omega), addpt_eq (by omega) (by omega), show f4 + (h0 - f4) = h0 by omega, show f5 + (h1 - f5) = h1 by omega]
  exact hc
theorem trim_clear {e0 e1 e2 e3 e4 e5 e6 f0 f1 f2 f3 f4 f5 f6 r : Int} {e7 f7 : Bool} (F : EP f0 f1 f2 f3 f4 f5 f6) (h : trim_2 e0 e1 e2 e3 e4 e5 e6 e7 f0 f1 f2 f3 f4 f5 f6 f7 r = 0) : oclear_0 e0 e1 e2 e3 e4 e5 e6 (trim_0 e0 e1 e2 e3 e4 e5 e6 e7 f0 f1 f2 f3 f4 f5 f6 f7 r) (trim_1 e0 e1 e2 e3 e4 e5 e6 e7 f0 f1 f2 f3 f4 f5 f6 f7 r) r = true := by
  obtain ⟨_, _, h3, _, _, h6, h7⟩ := trim_right h
  obtain ⟨b0, b1, b2, b3⟩ := oends_bd f0 f1 f2 f3 f4 f5 f6 r
  rw [h6, h7]
  unfold trim_s0 trim_s1
  cases f6 == 0
  · exact curved_val e7 f7 b2 b3 F.c4 F.c5 h3
  · exact (straight_val e7 b0 b1 b2 b3 h3).1
/-- How far the point is from a straight second piece. -/
theorem trim_near {e0 e1 e2 e3 e4 e5 e6 f0 f1 f2 f3 f4 f5 r : Int} {e7 f7 : Bool} (F : EP f0 f1 f2 f3 f4 f5 0) (hz : f2 - f0 ≠ 0 ∨ f3 - f1 ≠ 0) (hr : bd 5000 r) (h4 : 4 ≤ r ∨ r ≤ -4) (h : trim_2 e0 e1 e2 e3 e4 e5 e6 e7 f0 f1 f2 f3 f4 f5 0 f7 r = 0) {less more : Int} (hl : less = if r < 0 then r + 3 else r - 3) (hm : more = if r < 0 then r - 3 else r + 3) :
    oclear_0 f0 f1 f2 f3 f4 f5 0 (trim_0 e0 e1 e2 e3 e4 e5 e6 e7 f0 f1 f2 f3 f4 f5 0 f7 r) (trim_1 e0 e1 e2 e3 e4 e5 e6 e7 f0 f1 f2 f3 f4 f5 0 f7 r) less = true ∧ oclear_0 f0 f1 f2 f3 f4 f5 0 (trim_0 e0 e1 e2 e3 e4 e5 e6 e7 f0 f1 f2 f3 f4 f5 0 f7 r) (trim_1 e0 e1 e2 e3 e4 e5 e6 e7 f0 f1 f2 f3 f4 f5 0 f7 r) more = false := by
  obtain ⟨_, g2, g3, g4, g5, g6, g7⟩ := trim_right h
  obtain ⟨b0, b1, b2, b3⟩ := oends_bd f0 f1 f2 f3 f4 f5 0 r
  obtain ⟨n0, n1, n2, n3, _⟩ := ends_ok F g2
  have c0 := F.c0
  have c1 := F.c1
  have c2 := F.c2
  have c3 := F.c3
  have m0 : minus_0 f2 f0 = f2 - f0 := minus_eq (by omega) (by omega)
  have m1 : minus_0 f3 f1 = f3 - f1 := minus_eq (by omega) (by omega)
  have t0 : ∀ w, rtang_0 f0 f1 f2 f3 f5 0 w = f2 - f0 := fun w => by show minus_0 f2 f0 = _; exact m0
  have t1 : ∀ w, rtang_1 f0 f1 f2 f3 f4 0 w = f3 - f1 := fun w => by show minus_0 f3 f1 = _; exact m1
  rw [t0, t1] at n0 n1 n2 n3
  obtain ⟨v1, v2, _, v4, v5, v6, v7⟩ := normal_val (p0 := f0) (p1 := f1) (r := r) hz (by omega) (by omega) (by omega) (by omega) (by omega)
  obtain ⟨w1, w2, _, _, _, _, _⟩ := normal_val (p0 := f2) (p1 := f3) (r := r) hz (by omega) (by omega) (by omega) (by omega) (by omega)
  rw [v1] at n0
  rw [v2] at n1
  rw [w1] at n2
  rw [w2] at n3
  obtain ⟨k1, k2, k3, k4, _, k6⟩ := beside_law (t0 := f2 - f0) (t1 := f3 - f1) (r := r) (by omega) (by omega) (by omega) rfl (by omega) rfl rfl rfl
  generalize wOver_0 (-(f3 - f1)) r ((f2 - f0) * (f2 - f0) + (f3 - f1) * (f3 - f1)) 2 = u at *
  generalize wOver_0 (f2 - f0) r ((f2 - f0) * (f2 - f0) + (f3 - f1) * (f3 - f1)) 2 = w at *
  -- the point
  have hp : ∃ x0 x1 : Int, trim_s0 e0 e1 e2 e3 e4 e5 e6 e7 f0 f1 f2 f3 f4 f5 0 f7 r = f0 + u + x0 ∧ trim_s1 e0 e1 e2 e3 e4 e5 e6 e7 f0 f1 f2 f3 f4 f5 0 f7 r = f1 + w + x1 ∧ ((f2 - f0) * x1 - (f3 - f1) * x0) * ((f2 - f0) * x1 - (f3 - f1) * x0) ≤ (f2 - f0) * (f2 - f0) + (f3 - f1) * (f3 - f1) := by
    have z : ((0 : Int) == 0) = true := rfl
    unfold trim_s0 trim_s1
    rw [z, cond_true, cond_true]
    rcases (straight_val e7 b0 b1 b2 b3 g3).2 with ⟨_, _, Q3, Q4⟩ | ⟨n, B, hn, Q3, Q4⟩
    · exact ⟨0, 0, by rw [Q3, n0]; omega, by rw [Q4, n1]; omega, by rw [Int.mul_zero, Int.mul_zero]; have := sq_nn (f2 - f0) (f3 - f1); omega⟩
    · refine ⟨_, _, by rw [Q3, n0], by rw [Q4, n1], ?_⟩
      refine round_off (B := B) hn ?_ ?_
      · rw [n2, show f2 + u - (f0 + u) = f2 - f0 by omega]
      · rw [n3, show f3 + w - (f1 + w) = f3 - f1 by omega]
  obtain ⟨x0, x1, p0, p1, hZ⟩ := hp
  rw [g6, g7, clear_line _ _ c0 c1 c2 c3 (by omega) (by omega) (by rw [hl]; split <;> omega), clear_line _ _ c0 c1 c2 c3 (by omega) (by omega) (by rw [hm]; split <;> omega)]
  have eX : (f2 - f0) * (trim_s1 e0 e1 e2 e3 e4 e5 e6 e7 f0 f1 f2 f3 f4 f5 0 f7 r - f1) - (f3 - f1) * (trim_s0 e0 e1 e2 e3 e4 e5 e6 e7 f0 f1 f2 f3 f4 f5 0 f7 r - f0) = ((f2 - f0) * w - (f3 - f1) * u) + ((f2 - f0) * x1 - (f3 - f1) * x0) := by rw [p0, p1]; grind
  rw [eX]
  have eN : ((f2 - f0) * w - (f3 - f1) * u) * ((f2 - f0) * w - (f3 - f1) * u) + ((f2 - f0) * u + (f3 - f1) * w) * ((f2 - f0) * u + (f3 - f1) * w) = ((f2 - f0) * (f2 - f0) + (f3 - f1) * (f3 - f1)) * (u * u + w * w) := by grind
  generalize (f2 - f0) * w - (f3 - f1) * u = X at *
  generalize (f2 - f0) * u + (f3 - f1) * w = i at *
  generalize (f2 - f0) * x1 - (f3 - f1) * x0 = Z at *
  generalize (f2 - f0) * (f2 - f0) + (f3 - f1) * (f3 - f1) = N at *
  generalize u * u + w * w = D at *
  clear eX n0 n1 n2 n3 v1 v2 w1 w2 p0 p1 g2 g3 g4 g5 g6 g7 h m0 m1 t0 t1 b0 b1 b2 b3 hz
  rcases h4 with h4 | h4
  · have hk : (if -r > r then -r else r) = r := by rw [if_neg (by omega)]
    rw [hk] at k1 k2
    obtain ⟨a1, a2, a3⟩ := near_line (N := N) (X := X) (Z := Z) (i := i) (D := D) (k := r) v6 h4 eN k6 (k2 (by omega)) k1 (k3 (by omega)) hZ
    rw [if_neg (show ¬ r < 0 by omega)] at hl hm
    rw [hl, hm]
    exact ⟨decide_eq_true ⟨.inl ⟨by omega, a1⟩, a2⟩, decide_eq_false fun hh => by have := hh.2; omega⟩
  · have hk : (if -r > r then -r else r) = -r := by rw [if_pos (by omega)]
    rw [hk] at k1 k2
    have s1 := k4 (by omega)
    obtain ⟨a1, a2, a3⟩ := near_line (N := N) (X := -X) (Z := -Z) (i := i) (D := D) (k := -r) v6 (by omega) (by rw [Int.neg_mul_neg]; exact eN) k6 (k2 (by omega)) k1 (by omega) (by rw [Int.neg_mul_neg]; exact hZ)
    rw [if_pos (show r < 0 by omega)] at hl hm
    have Q1 : (-X + -Z) * (-X + -Z) = (X + Z) * (X + Z) := by grind
    have Q2 : (-r - 3) * (-r - 3) = (r + 3) * (r + 3) := by grind
    have Q3 : (-r + 3) * (-r + 3) = (r - 3) * (r - 3) := by grind
    rw [Q1, Q2] at a2
    rw [Q1, Q3] at a3
    rw [hl, hm]
    exact ⟨decide_eq_true ⟨.inr ⟨by omega, by omega⟩, a2⟩, decide_eq_false fun hh => by have := hh.2; omega⟩
end Go.Proofs.Ytjlkecfkjcanaaa
