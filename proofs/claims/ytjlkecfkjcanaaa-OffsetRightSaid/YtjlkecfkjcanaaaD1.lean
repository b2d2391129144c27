/-
  NORMALS, CORNERS, HALVES, plain laws: the program's and the reference's are the same; what they are. Conditions: bounds.
-/
import Derived.Test.YtjlkecfkjcanaaaV5
set_option linter.all false
namespace Go.Proofs.Ytjlkecfkjcanaaa
open Go.SX Go.RowKit
theorem small_rng (x m : Int) (h : 0 ≤ m) (h2 : m ≤ 1000000000) : bd m (small_0 x m) := by
  unfold small_0
  rw [wrI (x := 0 - m) (by omega) (by omega)]
  have := between_rng x (0 - m) m (by omega) (by omega) (by omega)
  omega
theorem wsize_le {a : Int} (h : bd 2147483648 a) : wsize_0 a ≤ 2147483648 := by
  rw [wsize_eq a ⟨by omega, by omega⟩]
  split <;> omega
/-- Over: the same for all arguments. -/
theorem over_any {a b n : Int} (ha : isI a) (hb : isI b) : wOver_0 a b n 2 = rOver_0 a b n 2 := by
  by_cases h : wsize_0 a ≤ 2147483648 ∧ wsize_0 b ≤ 2147483648 ∧ 1 ≤ n ∧ n ≤ 4611686018427387904
  · exact over_same ha hb h.1 h.2.1 h.2.2
  · have hc : (decide (wsize_0 a > 2147483648) || decide (wsize_0 b > 2147483648) || decide (n < 1) || decide (n > 4611686018427387904) || !((2 : Int) == 0 || (2 : Int) == 1 || (2 : Int) == 2)) = true := by
      by_cases h1 : wsize_0 a > 2147483648
      · rw [decide_eq_true h1]; rfl
      · by_cases h2 : wsize_0 b > 2147483648
        · rw [decide_eq_true h2, decide_eq_false h1]; rfl
        · by_cases h3 : n < 1
          · rw [decide_eq_true h3, decide_eq_false h1, decide_eq_false h2]; rfl
          · rw [decide_eq_true (show n > 4611686018427387904 by omega)]; simp
    unfold wOver_0 rOver_0
    rw [hc, cond_true, cond_true]
theorem over_bad (a b n : Int) (hn : n < 1) : wOver_0 a b n 2 = 0 := by
  have hc : (decide (wsize_0 a > 2147483648) || decide (wsize_0 b > 2147483648) || decide (n < 1) || decide (n > 4611686018427387904) || !((2 : Int) == 0 || (2 : Int) == 1 || (2 : Int) == 2)) = true := by
    rw [decide_eq_true hn]; simp
  unfold wOver_0
  rw [hc, cond_true]
theorem over_zero (a b : Int) : wOver_0 a b 0 2 = 0 := over_bad a b 0 (by omega)
theorem normal_same (p0 p1 t0 t1 r : Int) : onormal_0 p0 p1 t0 t1 r = rnormal_0 p0 p1 t0 t1 r ∧ onormal_1 p0 p1 t0 t1 r = rnormal_1 p0 p1 t0 t1 r ∧ onormal_2 p0 p1 t0 t1 r = rnormal_2 p0 p1 t0 t1 r := by
  unfold onormal_0 onormal_1 onormal_2 rnormal_0 rnormal_1 rnormal_2
  rw [nrm_cond]
  cases hc : (t0 == 0 && t1 == 0 || !oin_0 t0 4194304 || !oin_0 t1 4194304 || !oin_0 p0 1048576 || !oin_0 p1 1048576 || !oin_0 r 32768)
  · obtain ⟨h0, h1, h2, h3, h4, h5⟩ := nrm_bd hc
    have i0 : isI t0 := ⟨by omega, by omega⟩
    have ir : isI r := ⟨by omega, by omega⟩
    rw [over_any (a := IntKind.i64.wrap (0 - t1)) (wrap_isI _) ir, over_any i0 ir]
    unfold addpt_0
    simp only [cond_false, and_self, Bool.not_false]
  · simp only [cond_true, and_self]
theorem corner_same (a b c d s : Int) : ocorner_0 a b c d s = rcorner_0 a b c d s := by
  unfold ocorner_0 rcorner_0
  have e : (bif rcorner_s0 a b c d s then rcorner_s0 a b c d s else decide (vcross_0 a b c d < 0) && decide (s < 0)) = (decide (vcross_0 a b c d > 0) && decide (s > 0) || decide (vcross_0 a b c d < 0) && decide (s < 0)) := by
    show (bif (decide (vcross_0 a b c d > 0) && decide (s > 0)) then (decide (vcross_0 a b c d > 0) && decide (s > 0)) else _) = _
    cases (decide (vcross_0 a b c d > 0) && decide (s > 0)) <;> rfl
  rw [e]
theorem wr_neg (a c : Int) : IntKind.i64.wrap (IntKind.i64.wrap (0 - a) - c) = IntKind.i64.wrap (0 - IntKind.i64.wrap (a + c)) := by
  unfold IntKind.wrap
  simp only [IntKind.bits, IntKind.signed]
  simp
  omega
theorem half_vec (a b c d i : Int) : ohalf_s1 a b c d i = rHalf_s0 a b c d i ∧ ohalf_s2 a b c d i = rHalf_s1 a b c d i := by
  unfold ohalf_s1 ohalf_s2 rHalf_s0 rHalf_s1 ohalf_s0
  rw [wr_neg, wr_neg]
  by_cases h1 : vinner_0 a b c d > 0
  · rw [decide_eq_true h1]
    by_cases h2 : IntKind.i64.wrap (vcross_0 a b c d * i) > 0
    · rw [decide_eq_true h2, decide_eq_false (show ¬ IntKind.i64.wrap (vcross_0 a b c d * i) ≤ 0 by omega)]
      exact ⟨rfl, rfl⟩
    · rw [decide_eq_false h2, decide_eq_true (show IntKind.i64.wrap (vcross_0 a b c d * i) ≤ 0 by omega)]
      exact ⟨rfl, rfl⟩
  · rw [decide_eq_false h1]
    exact ⟨rfl, rfl⟩
theorem half_isI (a b c d i : Int) : isI (ohalf_s1 a b c d i) ∧ isI (ohalf_s2 a b c d i) := by
  constructor
  · unfold ohalf_s1
    cases (ohalf_s0 a b c d && decide (IntKind.i64.wrap (vcross_0 a b c d * i) > 0)) <;> cases ohalf_s0 a b c d <;> exact wrap_isI _
  · unfold ohalf_s2
    cases (ohalf_s0 a b c d && decide (IntKind.i64.wrap (vcross_0 a b c d * i) > 0)) <;> cases ohalf_s0 a b c d <;> exact wrap_isI _
theorem half_same (a b c d i : Int) {s : Int} (hs : isI s) : oH0 a b c d i s = rHalf_0 a b c d i s ∧ oH1 a b c d i s = rHalf_1 a b c d i s := by
  obtain ⟨e1, e2⟩ := half_vec a b c d i
  obtain ⟨i1, i2⟩ := half_isI a b c d i
  unfold oH0 oH1 rHalf_0 rHalf_1
  rw [← e1, ← e2]
  generalize ohalf_s1 a b c d i = u at *
  generalize ohalf_s2 a b c d i = v at *
  by_cases h : u = 0 ∧ v = 0
  · obtain ⟨rfl, rfl⟩ := h
    have e : vinner_0 0 0 0 0 = 0 := rfl
    rw [e, over_zero]
    exact ⟨rfl, rfl⟩
  · have e : (u == 0 && v == 0) = false := by
      rw [Bool.and_eq_false_iff, beq_eq_false_iff_ne, beq_eq_false_iff_ne]; omega
    rw [e, over_any i1 hs, over_any i2 hs]
    exact ⟨rfl, rfl⟩
/-! ### What a normal is -/
theorem sqm {x y n : Int} (h0 : 0 ≤ x) (h : x ≤ y) (hn : 0 ≤ n) : x * x * n ≤ y * y * n :=
  Int.mul_le_mul_of_nonneg_right (Int.mul_le_mul h h h0 (by omega)) hn
theorem ovq_law {p n : Int} (ng : Bool) (hp : 0 ≤ p ∧ p ≤ 4611686018427387904) (hn : 1 ≤ n ∧ n ≤ 4611686018427387904) :
    0 ≤ ovq p n ng ∧ (1 ≤ ovq p n ng → (2 * ovq p n ng - 1) * (2 * ovq p n ng - 1) * n ≤ 4 * (p * p)) ∧ 4 * (p * p) ≤ (2 * ovq p n ng + 1) * (2 * ovq p n ng + 1) * n := by
  obtain ⟨t0, t1, t2, t3⟩ := tw_law hp hn
  unfold ovq
  generalize tw p n = t at *
  by_cases h1 : t % 2 = 1
  · by_cases h2 : ng = false ∨ t * t * n ≠ 4 * (p * p)
    · rw [if_pos ⟨h1, h2⟩]
      have e1 : 2 * (t / 2 + 1) - 1 = t := by omega
      have e2 : 2 * (t / 2 + 1) + 1 = t + 2 := by omega
      rw [e1, e2]
      exact ⟨by omega, fun _ => t1, by have := sqm (x := t + 1) (y := t + 2) (n := n) (by omega) (by omega) (by omega); omega⟩
    · rw [if_neg (fun h => h2 h.2)]
      have e1 : 2 * (t / 2) - 1 = t - 2 := by omega
      have e2 : 2 * (t / 2) + 1 = t := by omega
      rw [e1, e2]
      have h3 : t * t * n = 4 * (p * p) := by
        by_cases h : t * t * n = 4 * (p * p)
        · exact h
        · exact absurd (.inr h) h2
      exact ⟨by omega, fun _ => by have := sqm (x := t - 2) (y := t) (n := n) (by omega) (by omega) (by omega); omega, by omega⟩
  · rw [if_neg (fun h => h1 h.1)]
    have e1 : 2 * (t / 2) - 1 = t - 1 := by omega
    have e2 : 2 * (t / 2) + 1 = t + 1 := by omega
    rw [e1, e2]
    exact ⟨by omega, fun _ => by have := sqm (x := t - 1) (y := t) (n := n) (by omega) (by omega) (by omega); omega, by omega⟩
/-- Down or up at a half: by at most one. -/
theorem ovq_diff (p n : Int) : ovq p n true ≤ ovq p n false ∧ ovq p n false ≤ ovq p n true + 1 := by
  unfold ovq
  by_cases h1 : tw p n % 2 = 1
  · rw [if_pos (c := tw p n % 2 = 1 ∧ (false = false ∨ _)) ⟨h1, .inl rfl⟩]
    split <;> omega
  · rw [if_neg (fun h => h1 h.1), if_neg (fun h => h1 h.1)]
    omega
theorem abs_ex (x : Int) : ∃ p : Int, 0 ≤ p ∧ (x = p ∨ x = -p) ∧ (0 ≤ x → p = x) ∧ p * p = x * x := by
  by_cases h : x < 0
  · exact ⟨-x, by omega, by omega, by omega, Int.neg_mul_neg _ _⟩
  · exact ⟨x, by omega, by omega, by omega, rfl⟩
/-- Over, by its absolute value. -/
theorem over_val {a g N : Int} (ha : bd 4194304 a) (hg : bd 4194304 g) (hN : 1 ≤ N ∧ N ≤ 4611686018427387904) :
    ∃ P : Int, (0 ≤ P ∧ P ≤ 17592186044416) ∧ P * P = (a * g) * (a * g) ∧ (0 ≤ a * g → wOver_0 a g N 2 = ovq P N false) ∧ (a * g < 0 → wOver_0 a g N 2 = -ovq P N true) ∧ wOver_0 a (-g) N 2 = (if a * g > 0 then -ovq P N true else ovq P N false) := by
  have hl := (wOver_law (a := a) (b := g) (n := N) ⟨by omega, by omega⟩ ⟨by omega, by omega⟩ (wsize_le (by omega)) (wsize_le (by omega)) hN).1
  have hl' := (wOver_law (a := a) (b := -g) (n := N) ⟨by omega, by omega⟩ ⟨by omega, by omega⟩ (wsize_le (by omega)) (wsize_le (by omega)) hN).1
  obtain ⟨p, p0, p1, p2, p3⟩ := abs_ex a
  obtain ⟨q, q0, q1, q2, q3⟩ := abs_ex g
  have sa : wsize_0 a = p := by
    rw [wsize_eq a ⟨by omega, by omega⟩]; split <;> omega
  have sg : wsize_0 g = q := by
    rw [wsize_eq g ⟨by omega, by omega⟩]; split <;> omega
  have sg' : wsize_0 (-g) = q := by
    rw [wsize_eq (-g) ⟨by omega, by omega⟩]; split <;> omega
  rw [sa, sg] at hl
  rw [sa, sg'] at hl'
  have hpq := prod_lt 4194304 4194304 (x := p) (y := q) ⟨p0, by omega⟩ ⟨q0, by omega⟩ (by omega)
  have hs := wsign_or a g
  have hs' := wsign_or a (-g)
  rw [Int.mul_neg] at hs'
  refine ⟨p * q, ⟨hpq.1, by omega⟩, ?_, ?_, ?_, ?_⟩
  · have e : p * q * (p * q) = p * p * (q * q) := by grind
    rw [e, p3, q3]; grind
  · intro h
    rw [hl, if_neg (by rcases hs with ⟨h1, h2⟩ | ⟨h1, h2, h3⟩ | ⟨h1, h2, h3⟩ <;> omega)]
  · intro h
    rw [hl, if_pos (by rcases hs with ⟨h1, h2⟩ | ⟨h1, h2, h3⟩ | ⟨h1, h2, h3⟩ <;> omega)]
  · rw [hl']
    by_cases h : a * g > 0
    · rw [if_pos h, if_pos (by rcases hs' with ⟨h1, h2⟩ | ⟨h1, h2, h3⟩ | ⟨h1, h2, h3⟩ <;> omega)]
    · rw [if_neg h, if_neg (by rcases hs' with ⟨h1, h2⟩ | ⟨h1, h2, h3⟩ | ⟨h1, h2, h3⟩ <;> omega)]
theorem over_abs {a g N : Int} (ha : bd 4194304 a) (hg : bd 4194304 g) (hN : 1 ≤ N ∧ N ≤ 4611686018427387904) :
    ∃ U : Int, 0 ≤ U ∧ (0 ≤ a * g → wOver_0 a g N 2 = U) ∧ (a * g < 0 → wOver_0 a g N 2 = -U) ∧ (1 ≤ U → (2 * U - 1) * (2 * U - 1) * N ≤ 4 * ((a * g) * (a * g))) ∧ 4 * ((a * g) * (a * g)) ≤ (2 * U + 1) * (2 * U + 1) * N := by
  obtain ⟨P, h0, h1, h2, h3, _⟩ := over_val ha hg hN
  rw [← h1]
  by_cases h : 0 ≤ a * g
  · obtain ⟨o1, o2, o3⟩ := ovq_law false (p := P) (n := N) ⟨h0.1, by omega⟩ hN
    exact ⟨_, o1, fun _ => h2 h, fun h' => by omega, o2, o3⟩
  · obtain ⟨o1, o2, o3⟩ := ovq_law true (p := P) (n := N) ⟨h0.1, by omega⟩ hN
    exact ⟨_, o1, fun h' => by omega, fun _ => h3 (by omega), o2, o3⟩
/-- One way and the other way: by at most one. -/
theorem over_opp {a g N : Int} (ha : bd 4194304 a) (hg : bd 4194304 g) (hN : 1 ≤ N ∧ N ≤ 4611686018427387904) : 0 ≤ wOver_0 a g N 2 + wOver_0 a (-g) N 2 ∧ wOver_0 a g N 2 + wOver_0 a (-g) N 2 ≤ 1 := by
  obtain ⟨P, h0, h1, h2, h3, h4⟩ := over_val ha hg hN
  obtain ⟨d1, d2⟩ := ovq_diff P N
  rw [h4]
  by_cases h : 0 < a * g
  · rw [h2 (by omega), if_pos h]; omega
  · rw [if_neg h]
    by_cases h' : a * g = 0
    · rw [h'] at h1
      have hP : P = 0 := by
        rcases Int.lt_or_le 0 P with g | g
        · have := Int.mul_pos g g; omega
        · omega
      have hz : tw 0 N = 0 := by
        obtain ⟨t0, t1, _, _⟩ := tw_law (p := 0) (n := N) ⟨by omega, by omega⟩ hN
        rcases Int.lt_or_le 0 (tw 0 N) with g | g
        · have := Int.mul_pos (Int.mul_pos g g) (show 0 < N by omega); omega
        · omega
      rw [h2 (by omega), hP]
      unfold ovq
      rw [hz, if_neg (fun h => by have := h.1; omega)]
      omega
    · rw [h3 (by omega)]; omega
theorem over_ineq {p q U W g N : Int} (hp : 0 ≤ p) (hq : 0 ≤ q) (hU : 0 ≤ U) (hW : 0 ≤ W) (hN : 0 < N) (h1 : 1 ≤ U → (2 * U - 1) * (2 * U - 1) * N ≤ 4 * ((p * g) * (p * g))) (h2 : 4 * ((q * g) * (q * g)) ≤ (2 * W + 1) * (2 * W + 1) * N) :
    q * (2 * U - 1) ≤ p * (2 * W + 1) := by
  have hY : 0 ≤ p * (2 * W + 1) := Int.mul_nonneg hp (by omega)
  by_cases hU0 : U = 0
  · subst hU0
    have : q * (2 * 0 - 1) = -q := by omega
    omega
  · rcases Int.lt_or_le (p * (2 * W + 1)) (q * (2 * U - 1)) with h | h
    · exfalso
      have s1 := Int.mul_self_lt_mul_self hY h
      have s2 := Int.mul_lt_mul_of_pos_right s1 hN
      have e1 : q * (2 * U - 1) * (q * (2 * U - 1)) * N = q * q * ((2 * U - 1) * (2 * U - 1) * N) := by grind
      have e2 : p * (2 * W + 1) * (p * (2 * W + 1)) * N = p * p * ((2 * W + 1) * (2 * W + 1) * N) := by grind
      have q0 : 0 ≤ q * q := Int.mul_nonneg hq hq
      have p0 : 0 ≤ p * p := Int.mul_nonneg hp hp
      have m1 := Int.mul_le_mul_of_nonneg_left (h1 (by omega)) q0
      have m2 := Int.mul_le_mul_of_nonneg_left h2 p0
      have e3 : q * q * (4 * ((p * g) * (p * g))) = p * p * (4 * ((q * g) * (q * g))) := by grind
      omega
    · exact h
theorem sq_nn1 (x : Int) : 0 ≤ x * x := by
  have := sq_nn x 0
  rw [Int.mul_zero, Int.add_zero] at this
  exact this
theorem sq_mul {p x g : Int} (h : p * p = x * x) : (p * g) * (p * g) = (x * g) * (x * g) := by
  have e1 : (p * g) * (p * g) = p * p * (g * g) := by grind
  have e2 : (x * g) * (x * g) = x * x * (g * g) := by grind
  rw [e1, e2, h]
end Go.Proofs.Ytjlkecfkjcanaaa
