/-
  DISTANCES, plain law: an element and its ends. Conditions: bounds.
-/
import Derived.Test.YthgiaoidekdpfaaD4
import Derived.Test.YthgiaoidekdpfaaS1
set_option linter.all false
namespace Go.Proofs.Ythgiaoidekdpfaa
open Go.SX Go.RowKit
/-- The spokes of an element that is an arc fit. -/
theorem element_fit {u v a : Int} (L : List (List Int)) (hu : bd 900000 u) (hv : bd 900000 v) (h6 : element_6 a L ≠ 0) :
    fit_0 (minus_0 (element_0 u a L) (element_4 u a L)) (minus_0 (element_0 v a L) (element_5 v a L)) (minus_0 (element_2 u a L) (element_4 u a L)) (minus_0 (element_3 v a L) (element_5 v a L)) (element_7 a L) = true := by
  obtain ⟨h0, h1, h2, h3⟩ := spokes_bd (next_1 a L) L
  have m1 : ∀ {x y : Int}, bd 900000 x → bd 20000 y → minus_0 x (minus_0 x y) = y := fun {x y} h1 h2 => by
    rw [minus_eq (a := x) (c := y) (by omega) (by omega), minus_eq (by omega) (by omega)]; omega
  have m2 : ∀ {x y z : Int}, bd 900000 x → bd 20000 y → bd 20002 z → minus_0 (addpt_0 (minus_0 x y) z) (minus_0 x y) = z := fun {x y z} h1 h2 h3 => by
    rw [minus_eq (a := x) (c := y) (by omega) (by omega), addpt_eq (by omega) (by omega), minus_eq (by omega) (by omega)]; omega
  unfold element_6 at h6
  unfold element_0 element_2 element_3 element_4 element_5 element_7
  cases hn : next_0 3 a L == 0
  · rw [hn] at h6; exact absurd rfl h6
  · rw [hn] at h6
    rw [cond_true] at h6
    cases hf : fit_0 (spokes_0 (next_1 a L) L) (spokes_1 (next_1 a L) L) (spokes_2 (next_1 a L) L) (spokes_3 (next_1 a L) L) (spokes_4 (next_1 a L) L)
    · rw [hf] at h6; exact absurd rfl h6
    · simp only [cond_true, Bool.true_and]
      rw [m1 hu h0, m1 hv h1, m2 hu h0 h2, m2 hv h1 h3]
      exact hf
theorem elem_rng (L : List (List Int)) : bd 500 (range_0 (-500) 500 0 L) ∧ bd 500 (range_0 (-500) 500 (next_1 0 L) L) := by
  have := range_rng (-500) 500 0 L (by omega) (by omega) (by omega)
  have := range_rng (-500) 500 (next_1 0 L) L (by omega) (by omega) (by omega)
  omega
theorem elem_fit (L : List (List Int)) (h6 : e6 L ≠ 0) : fit_0 (minus_0 (e0 L) (e4 L)) (minus_0 (e1 L) (e5 L)) (minus_0 (e2 L) (e4 L)) (minus_0 (e3 L) (e5 L)) (e7 L) = true := by
  obtain ⟨hu, hv⟩ := elem_rng L
  exact element_fit L (by omega) (by omega) h6
/-- It is near the origin. -/
theorem elem_tight (L : List (List Int)) : bd 50000 (e0 L) ∧ bd 50000 (e1 L) ∧ bd 50000 (e2 L) ∧ bd 50000 (e3 L) := by
  obtain ⟨hu, hv⟩ := elem_rng L
  unfold e0 e1 e2 e3
  generalize range_0 (-500) 500 0 L = u at *
  generalize range_0 (-500) 500 (next_1 0 L) L = v at *
  generalize next_1 (next_1 0 L) L = a
  obtain ⟨h0, h1, h2, h3⟩ := spokes_bd (next_1 a L) L
  have q1 := ptm_bd' ((next_0 3 (spokes_6 (next_1 a L) L) L).toNat.beq 0) ((next_0 3 (spokes_6 (next_1 a L) L) L).toNat.beq 1) (next_1 (spokes_6 (next_1 a L) L) L) L
  have q2 := ptm_bd' ((next_0 3 (next_1 a L) L).toNat.beq 0) ((next_0 3 (next_1 a L) L).toNat.beq 1) (next_1 (next_1 a L) L) L
  have key : ∀ (p : Bool) (m x y : Int), bd m x → bd m y → bd m (bif p then x else y) := fun p m x y h1 h2 => by cases p <;> assumption
  have ad : ∀ {x y : Int}, bd 500 x → bd 20002 y → bd 50000 (addpt_0 x y) := fun {x y} h1 h2 => by rw [addpt_eq (by omega) (by omega)]; omega
  have mia : ∀ {x y z : Int}, bd 500 x → bd 20000 y → bd 20002 z → bd 50000 (addpt_0 (minus_0 x y) z) := fun {x y z} h1 h2 h3 => by
    rw [minus_eq (by omega) (by omega), addpt_eq (by omega) (by omega)]; omega
  unfold element_0 element_2 element_3
  cases hn : next_0 3 a L == 0
  · simp only [cond_false]
    refine ⟨by omega, by omega, ad hu (key _ 20002 _ _ (by omega) (by have := q2.1; unfold element_s1; omega)), ad hv (by have := q2.2; omega)⟩
  · simp only [cond_true]
    cases hf : fit_0 (spokes_0 (next_1 a L) L) (spokes_1 (next_1 a L) L) (spokes_2 (next_1 a L) L) (spokes_3 (next_1 a L) L) (spokes_4 (next_1 a L) L)
    · simp only [cond_false]
      refine ⟨by omega, by omega, ad hu (key _ 20002 _ _ (by omega) (by have := q1.1; unfold element_s0; omega)), ad hv (by have := q1.2; omega)⟩
    · simp only [cond_true]
      exact ⟨by omega, by omega, mia hu h0 h2, mia hv h1 h3⟩
theorem atmost_comm (m n d : Int) : atmost_0 m n d = atmost_0 n m d := by
  have e1 : (if n > m then n else m) = if m > n then m else n := by split <;> split <;> omega
  have e2 : (if n < m then n else m) = if m < n then m else n := by split <;> split <;> omega
  unfold atmost_0 atmost_s1 atmost_s0
  rw [e1, e2]
theorem atmost_self (m d : Int) (hm : sm m) (hd : bd 1000000 d) : atmost_0 m m d = true := by
  rw [am_eq hm hm hd]
  have := sq_nn d 0
  have : kk m m d ≤ 0 := by unfold kk; (repeat' split) <;> omega
  rw [decide_eq_true this]; rfl
theorem fit_am {a b c d : Int} {e : Bool} (h : fit_0 a b c d e = true) : atmost_0 (vinner_0 a b a b) (vinner_0 c d c d) 4 = true := by
  unfold fit_0 at h
  have e0 : fit_s0 a b c d = if vinner_0 c d c d < vinner_0 a b a b then vinner_0 c d c d else vinner_0 a b a b := by
    unfold fit_s0
    by_cases g : vinner_0 a b a b > vinner_0 c d c d
    · rw [decide_eq_true g, cond_true, if_pos g]
    · rw [decide_eq_false g, cond_false, if_neg g]
  have e1 : fit_s1 a b c d = atmost_s0 (vinner_0 a b a b) (vinner_0 c d c d) 4 := by
    unfold fit_s1 atmost_s0
    rw [e0]
    have w : IntKind.i64.wrap (4 * 4) = 16 := rfl
    rw [w]
    have e2 : (bif decide (vinner_0 a b a b > vinner_0 c d c d) then vinner_0 a b a b else vinner_0 c d c d) = if vinner_0 c d c d > vinner_0 a b a b then vinner_0 c d c d else vinner_0 a b a b := by
      by_cases g : vinner_0 a b a b > vinner_0 c d c d
      · rw [decide_eq_true g, cond_true, if_neg (by omega)]
      · rw [decide_eq_false g, cond_false]; split <;> omega
    rw [e2]
  rw [e1, e0] at h
  unfold atmost_0 atmost_s1
  have w : IntKind.i64.wrap (IntKind.i64.wrap (4 * 4) * 4) = 64 := rfl
  rw [w]
  cases h1 : decide ((if vinner_0 c d c d < vinner_0 a b a b then vinner_0 c d c d else vinner_0 a b a b) < 64)
  · rw [h1, cond_false] at h
    generalize rcmp_0 (atmost_s0 (vinner_0 a b a b) (vinner_0 c d c d) 4) (atmost_s0 (vinner_0 a b a b) (vinner_0 c d c d) 4) 64 (if vinner_0 c d c d < vinner_0 a b a b then vinner_0 c d c d else vinner_0 a b a b) = r at *
    generalize atmost_s0 (vinner_0 a b a b) (vinner_0 c d c d) 4 = k at *
    by_cases h2 : k ≤ 0
    · rw [decide_eq_true h2]; rfl
    · by_cases h3 : r ≤ 0
      · rw [decide_eq_true h3, Bool.or_true]
      · rw [decide_eq_true (show k > 0 by omega), decide_eq_true (show r > 0 by omega)] at h
        cases h
  · rw [h1] at h; cases h
section
variable {a0 a1 a2 a3 a4 a5 a6 : Int} {a7 : Bool} {y z d : Int} (E : EP a0 a1 a2 a3 a4 a5 a6)
include E
theorem end_0 : rnear_s0 a0 a1 a2 a3 a0 a1 ≤ 0 ∧ rnear_s0 a0 a1 a2 a3 a2 a3 ≤ 0 := by
  have g1 := pt_sq (bd_up E.c0) (bd_up E.c1) (bd_up E.c0) (bd_up E.c1)
  have g2 := pt_sq (bd_up E.c2) (bd_up E.c3) (bd_up E.c2) (bd_up E.c3)
  have g3 := pt_sq (bd_up E.c0) (bd_up E.c1) (bd_up E.c2) (bd_up E.c3)
  have g4 := pt_sq (bd_up E.c2) (bd_up E.c3) (bd_up E.c0) (bd_up E.c1)
  unfold rnear_s0
  rw [g1.1, g2.1, g3.1, g4.1]
  have h0 : ∀ x : Int, (x - x) * (x - x) = 0 := fun x => by rw [Int.sub_self]; rfl
  rw [h0, h0, h0, h0]
  have := g3.2
  have := g4.2
  constructor <;> split <;> omega
theorem not_beside (h6 : a6 = 0) : beside_0 a0 a1 a2 a3 a4 a5 a6 a7 a0 a1 = false ∧ beside_0 a0 a1 a2 a3 a4 a5 a6 a7 a2 a3 = false := by
  have b1 := sub_b9 (bd_up E.c2) (bd_up E.c0)
  have b2 := sub_b9 (bd_up E.c3) (bd_up E.c1)
  constructor
  · rw [beside_eq E (bd_up E.c0) (bd_up E.c1), notS_B (a7 := a7) h6]
    unfold isS
    rw [minus_self, minus_self, minus_eq' (bd_up E.c2) (bd_up E.c0), minus_eq' (bd_up E.c3) (bd_up E.c1), vinner_eq (a := 0) (b := 0) (by decide) (by decide) b1 b2]
    simp
  · rw [beside_eq E (bd_up E.c2) (bd_up E.c3), notS_B (a7 := a7) h6]
    unfold isS
    simp
theorem near_ends (h6 : a6 = 0) (hd : bd 1000000 d) : rnear_0 a0 a1 a2 a3 a4 a5 a6 a7 a0 a1 d = true ∧ rnear_0 a0 a1 a2 a3 a4 a5 a6 a7 a2 a3 d = true := by
  have h := end_0 E
  have hb := not_beside (a7 := a7) E h6
  have hn := sq_nn d 0
  unfold rnear_0
  rw [hb.1, hb.2, w_dd hd]
  simp only [Bool.not_false, cond_true, decide_eq_true_eq]
  omega
theorem far_end (h6 : a6 = 0) : rfar_0 a0 a1 a2 a3 a4 a5 a6 a7 a0 a1 1 = false := by
  have h := end_0 E
  have hb := not_beside (a7 := a7) E h6
  unfold rfar_0
  rw [hb.1, w_dd (by decide)]
  simp only [Bool.not_false, cond_true, decide_eq_false_iff_not]
  have e : rfar_s0 a0 a1 a2 a3 a0 a1 = rnear_s0 a0 a1 a2 a3 a0 a1 := rfl
  rw [e]
  omega
/-- Not nearer than the ends. -/
theorem near_min (h6 : a6 = 0) (hy : bd 10000000 y) (hz : bd 10000000 z) (hd : bd 1000000 d) (h : (y - a0) * (y - a0) + (z - a1) * (z - a1) ≤ d * d ∨ (y - a2) * (y - a2) + (z - a3) * (z - a3) ≤ d * d) :
    rnear_0 a0 a1 a2 a3 a4 a5 a6 a7 y z d = true := by
  have g1 := pt_sq hy hz (bd_up E.c0) (bd_up E.c1)
  have g2 := pt_sq hy hz (bd_up E.c2) (bd_up E.c3)
  unfold rnear_0
  rw [w_dd hd, near_s1 hd, show (a6 == 0) = true by simpa using h6]
  cases !beside_0 a0 a1 a2 a3 a4 a5 a6 a7 y z
  · simp only [cond_true, cond_false, decide_eq_true_eq]
    have b1 := sub_b9 (bd_up E.c2) (bd_up E.c0)
    have b2 := sub_b9 (bd_up E.c3) (bd_up E.c1)
    have b3 := sub_b9 hy (bd_up E.c0)
    have b4 := sub_b9 hz (bd_up E.c1)
    unfold xx tt
    rw [minus_eq' (bd_up E.c2) (bd_up E.c0), minus_eq' (bd_up E.c3) (bd_up E.c1), minus_eq' hy (bd_up E.c0), minus_eq' hz (bd_up E.c1), vinner_eq b1 b2 b1 b2, vcross_eq b1 b2 b3 b4]
    have e1 : ((a2 - a0) * (z - a1) - (a3 - a1) * (y - a0)) * ((a2 - a0) * (z - a1) - (a3 - a1) * (y - a0)) = ((y - a0) * (y - a0) + (z - a1) * (z - a1)) * ((a2 - a0) * (a2 - a0) + (a3 - a1) * (a3 - a1)) - ((a2 - a0) * (y - a0) + (a3 - a1) * (z - a1)) * ((a2 - a0) * (y - a0) + (a3 - a1) * (z - a1)) := by grind
    have e2 : ((a2 - a0) * (z - a1) - (a3 - a1) * (y - a0)) * ((a2 - a0) * (z - a1) - (a3 - a1) * (y - a0)) = ((y - a2) * (y - a2) + (z - a3) * (z - a3)) * ((a2 - a0) * (a2 - a0) + (a3 - a1) * (a3 - a1)) - ((a2 - a0) * (y - a2) + (a3 - a1) * (z - a3)) * ((a2 - a0) * (y - a2) + (a3 - a1) * (z - a3)) := by grind
    have n1 := sq_nn ((a2 - a0) * (y - a0) + (a3 - a1) * (z - a1)) 0
    have n2 := sq_nn ((a2 - a0) * (y - a2) + (a3 - a1) * (z - a3)) 0
    have n3 := sq_nn (a2 - a0) (a3 - a1)
    rcases h with h | h
    · have := Int.mul_le_mul_of_nonneg_right h n3
      omega
    · have := Int.mul_le_mul_of_nonneg_right h n3
      omega
  · simp only [cond_true, decide_eq_true_eq]
    unfold rnear_s0
    rw [g1.1, g2.1]
    split <;> omega
/-- The ends of an arc. -/
theorem near_arc (h6 : a6 ≠ 0) (hf : fit_0 (minus_0 a0 a4) (minus_0 a1 a5) (minus_0 a2 a4) (minus_0 a3 a5) a7 = true) : rnear_0 a0 a1 a2 a3 a4 a5 a6 a7 a0 a1 4 = true ∧ rnear_0 a0 a1 a2 a3 a4 a5 a6 a7 a2 a3 4 = true := by
  have h := end_0 E
  have ham := fit_am hf
  obtain ⟨q1, q2, q3⟩ := qp E.c0 E.c1 E.c2 E.c3 E.c4 E.c5 (bd_up E.c0) (bd_up E.c1)
  have w : IntKind.i64.wrap (4 * 4) = 16 := rfl
  unfold rnear_0
  rw [show (a6 == 0) = false by simpa using h6, spoke_f, spoke_f, spoke_t, spoke_t, w, cond_false, cond_false, atmost_self _ _ q2 (by decide), atmost_self _ _ q3 (by decide), ham, atmost_comm, ham]
  constructor
  · cases !beside_0 a0 a1 a2 a3 a4 a5 a6 a7 a0 a1
    · rfl
    · rw [cond_true, decide_eq_true (by omega)]
  · cases !beside_0 a0 a1 a2 a3 a4 a5 a6 a7 a2 a3
    · rfl
    · rw [cond_true, decide_eq_true (by omega)]
end
/-- The root, rounded up. -/
theorem up_root {n : Int} (h0 : 0 ≤ n) (h : isI n) : n ≤ rRoot_0 n 1 1 * rRoot_0 n 1 1 ∧ 0 ≤ rRoot_0 n 1 1 ∧ rRoot_0 n 1 1 ≤ sqr n + 1 := by
  obtain ⟨a, b, c, d⟩ := sqr_law h0 h.2
  rw [(rSqrt_law h0 h (.inr (.inl rfl))).2]
  by_cases g : sqr n * sqr n = n
  · rw [if_neg (by simp [g])]; omega
  · rw [if_pos (.inl ⟨rfl, g⟩)]; omega
end Go.Proofs.Ythgiaoidekdpfaa
