/-
  SEARCHES on straight pieces, plain laws: the points between two; searches with the same answers. Conditions: bounds.
-/
import Derived.Test.YtjlkecfkjcanaaaE2
import Derived.Test.YtjlkecfkjcanaaaV6
set_option linter.all false
namespace Go.Proofs.Ytjlkecfkjcanaaa
open Go.SX Go.RowKit
theorem ediv_of {a m q r : Int} (hm : 0 < m) (h0 : 0 ≤ r) (h1 : r < m) (e : r + m * q = a) : a / m = q := ((Int.ediv_emod_unique hm).2 ⟨e, h0, h1⟩).1
theorem signed_f {x : Int} (h0 : 0 ≤ x) (h1 : x ≤ 4611686018427387904) : signed_0 x false = x := by
  unfold signed_0
  rw [decide_eq_true (show x < 9223372036854775808 by omega)]
  simp only [Bool.false_and, cond_false, Bool.not_false, Bool.and_self, cond_true]
  rw [wrI (by omega) (by omega)]
theorem signed_t {x : Int} (h0 : 0 ≤ x) (h1 : x ≤ 4611686018427387904) : signed_0 x true = -x := by
  unfold signed_0
  rw [decide_eq_true (show x ≤ 9223372036854775808 by omega)]
  simp only [Bool.and_self, cond_true]
  by_cases hz : x = 0
  · rw [hz]; rfl
  · rw [wrU_mod]
    have : (0 - x) % 18446744073709551616 = 18446744073709551616 - x := by omega
    rw [this]
    unfold IntKind.wrap
    simp only [IntKind.bits, IntKind.signed]
    simp
    omega
theorem grows_near (more : Int) (some ng : Bool) : grows_0 2 more some ng = (decide (more > 0) || more == 0 && !ng) := rfl
/-- A product by a quotient, rounded to the nearest one. -/
theorem md_law {d k n : Int} (hd : bd n d) (hk : 0 ≤ k ∧ k ≤ n) (hn : 1 ≤ n ∧ n ≤ 4194304) : muldiv_0 d k n 2 = (2 * d * k + n) / (2 * n) := by
  obtain ⟨p, p0, p1, pa, _⟩ := abs_ex d
  have sd : wsize_0 d = p := by rw [wsize_eq d ⟨by omega, by omega⟩]; split <;> omega
  have sk : wsize_0 k = k := by rw [wsize_eq k ⟨by omega, by omega⟩, if_neg (by omega)]
  have sn : wsize_0 n = n := by rw [wsize_eq n ⟨by omega, by omega⟩, if_neg (by omega)]
  have hP := prod_lt 4194304 4194304 (x := p) (y := k) ⟨p0, by omega⟩ ⟨hk.1, by omega⟩ (by omega)
  have e0 : mul64_0 p k = 0 := by rw [mul64_hi _ _ ⟨by omega, by omega⟩ ⟨by omega, by omega⟩]; omega
  have e1 : mul64_1 p k = p * k := by rw [mul64_lo]; omega
  have hs := wsign_or d k
  have hdk : d * k = p * k ∨ d * k = -(p * k) := by
    rcases p1 with rfl | rfl
    · exact .inl rfl
    · right; rw [Int.neg_mul]
  have hdk0 : 0 ≤ d → d * k = p * k := fun h => by rw [pa h]
  have e2 : 2 * d * k = 2 * (d * k) := Int.mul_assoc _ _ _
  have hneg : d < 0 → d * k = -(p * k) := fun h => by
    have : d = -p := by omega
    rw [this, Int.neg_mul]
  rw [e2]
  generalize d * k = D at *
  generalize p * k = P at *
  obtain ⟨f0, f1⟩ := div64_law (a := 0) (b := P) (c := n) (by omega) (by omega) (by omega) (by omega) (by omega)
  rw [show (0 : Int) * 18446744073709551616 + P = P by omega] at f0 f1
  have dm := Int.mul_ediv_add_emod P n
  have m0 := Int.emod_nonneg P (show n ≠ 0 by omega)
  have m1 := Int.emod_lt_of_pos P (show 0 < n by omega)
  have q0 := Int.ediv_nonneg hP.1 (show 0 ≤ n by omega)
  have q1 := Int.ediv_le_self n hP.1
  unfold muldiv_0 muldiv_s0 muldiv_s1 muldiv_s2
  rw [sd, sk, sn, e0, e1, f0, f1, grows_near]
  generalize P / n = q at *
  generalize P % n = m at *
  have g1 : (n == 0 || !((2 : Int) == 0 || (2 : Int) == 1 || (2 : Int) == 2)) = false := by
    rw [show (n == 0) = false by simp; omega]; rfl
  have g2 : decide ((0 : Int) ≥ n) = false := decide_eq_false (by omega)
  have g3 : (!decide (wsign_0 d k < 0) == decide (n < 0) && wsign_0 d k != 0) = decide (wsign_0 d k < 0) := by
    rw [decide_eq_false (show ¬ n < 0 by omega)]
    rcases hs with ⟨h1, _⟩ | ⟨h1, _⟩ | ⟨h1, _⟩ <;> rw [h1] <;> rfl
  have g4 : IntKind.u64.wrap (n - m) = n - m := wrU (by omega) (by omega)
  have g5 : IntKind.u64.wrap (q + 1) = q + 1 := wrU (by omega) (by omega)
  have g6 : (q + 1 == 0) = false := by simp; omega
  rw [g1, g2, g3, g4, g5, g6]
  simp only [cond_false]
  have nq : n * q = P - m := by omega
  have hmq : ∀ x : Int, 2 * n * x = 2 * (n * x) := fun x => Int.mul_assoc _ _ _
  have nq1 : n * (q + 1) = P - m + n := by rw [Int.mul_add, Int.mul_one]; omega
  have nqn : n * -q = -(P - m) := by rw [Int.mul_neg, nq]
  have nqn1 : n * -(q + 1) = -(P - m + n) := by rw [Int.mul_neg, nq1]
  -- does it grow?
  have hmore : ∀ ng : Bool, (decide ((bif decide (m > n - m) then (1 : Int) else bif decide (m < n - m) then -1 else 0) > 0) || (bif decide (m > n - m) then (1 : Int) else bif decide (m < n - m) then -1 else 0) == 0 && !ng) = (decide (2 * m > n) || decide (2 * m = n) && !ng) := fun ng => by
    by_cases h1 : m > n - m
    · rw [decide_eq_true h1, decide_eq_true (show 2 * m > n by omega)]; rfl
    · rw [decide_eq_false h1, decide_eq_false (show ¬ 2 * m > n by omega)]
      by_cases h2 : m < n - m
      · rw [decide_eq_true h2, decide_eq_false (show ¬ 2 * m = n by omega)]; rfl
      · rw [decide_eq_false h2, decide_eq_true (show 2 * m = n by omega)]; rfl
  rw [hmore]
  by_cases hsg : wsign_0 d k < 0
  · rw [decide_eq_true hsg]
    have hD : D = -P := by rcases hs with ⟨h1, h2⟩ | ⟨h1, h2, _⟩ | ⟨h1, h2, _⟩ <;> rcases hdk with h | h <;> omega
    by_cases h1 : 2 * m > n
    · rw [decide_eq_true h1]
      simp only [Bool.true_or, cond_true]
      rw [signed_t (by omega) (by omega)]
      exact (ediv_of (r := 3 * n - 2 * m) (by omega) (by omega) (by omega) (by rw [hmq, nqn1]; omega)).symm
    · rw [decide_eq_false h1]
      simp only [Bool.not_true, Bool.and_false, Bool.or_self, cond_false]
      rw [signed_t (by omega) (by omega)]
      exact (ediv_of (r := n - 2 * m) (by omega) (by omega) (by omega) (by rw [hmq, nqn]; omega)).symm
  · rw [decide_eq_false hsg]
    have hD : D = P := by
      rcases hs with ⟨h1, h2⟩ | ⟨h1, h2, _⟩ | ⟨h1, h2, _⟩
      · rcases hdk with h | h <;> omega
      · rcases hdk with h | h <;> omega
      · exfalso; omega
    by_cases h1 : 2 * m > n
    · rw [decide_eq_true h1]
      simp only [Bool.true_or, cond_true]
      rw [signed_f (by omega) (by omega)]
      exact (ediv_of (r := 2 * m - n) (by omega) (by omega) (by omega) (by rw [hmq, nq1]; omega)).symm
    · rw [decide_eq_false h1]
      by_cases h2 : 2 * m = n
      · rw [decide_eq_true h2]
        simp only [Bool.not_false, Bool.and_self, Bool.or_true, cond_true]
        rw [signed_f (by omega) (by omega)]
        exact (ediv_of (r := 2 * m - n) (by omega) (by omega) (by omega) (by rw [hmq, nq1]; omega)).symm
      · rw [decide_eq_false h2]
        simp only [Bool.false_and, Bool.or_self, cond_false]
        rw [signed_f (by omega) (by omega)]
        exact (ediv_of (r := 2 * m + n) (by omega) (by omega) (by omega) (by rw [hmq, nq]; omega)).symm
theorem fd_law {a m : Int} (hm : 0 < m) (ha : bd 4611686018427387904 a) : floordiv_0 a m = a / m := by
  unfold floordiv_0
  by_cases h : 0 ≤ a
  · have t1 : a.tdiv m = a / m := Int.tdiv_eq_ediv_of_nonneg h
    have t2 : a.tmod m = a % m := Int.tmod_eq_emod_of_nonneg h
    have m0 := Int.emod_nonneg a (show m ≠ 0 by omega)
    have q0 := Int.ediv_nonneg h (show 0 ≤ m by omega)
    have q1 := Int.ediv_le_self m h
    rw [t1, t2, decide_eq_false (by omega), cond_false, wrI (by omega) (by omega)]
  · obtain ⟨b, rfl⟩ : ∃ b, a = -b := ⟨-a, by omega⟩
    have hb : 0 ≤ b := by omega
    have t1 : (-b).tdiv m = -(b / m) := by rw [Int.neg_tdiv, Int.tdiv_eq_ediv_of_nonneg hb]
    have t2 : (-b).tmod m = -(b % m) := by rw [Int.neg_tmod, Int.tmod_eq_emod_of_nonneg hb]
    have m0 := Int.emod_nonneg b (show m ≠ 0 by omega)
    have m1 := Int.emod_lt_of_pos b hm
    have q0 := Int.ediv_nonneg hb (show 0 ≤ m by omega)
    have q1 := Int.ediv_le_self m hb
    have dm := Int.mul_ediv_add_emod b m
    rw [t1, t2]
    by_cases h2 : b % m = 0
    · rw [decide_eq_false (by omega), cond_false, wrI (by omega) (by omega)]
      exact (ediv_of (r := 0) hm (by omega) hm (by rw [Int.mul_neg]; omega)).symm
    · rw [decide_eq_true (by omega), cond_true, wrI (x := -(b / m)) (by omega) (by omega), wrI (by omega) (by omega)]
      have e : m * (-(b / m) - 1) = -(m * (b / m)) - m := by rw [Int.mul_sub, Int.mul_neg, Int.mul_one]
      exact (ediv_of (r := m - b % m) hm (by omega) (by omega) (by rw [e]; omega)).symm
theorem mid_bd {d k n : Int} (hd : bd n d) (hk : 0 ≤ k ∧ k ≤ n) (hn : 1 ≤ n ∧ n ≤ 4194304) : bd (n + 1) ((2 * d * k + n) / (2 * n)) ∧ bd 35184380477440 (2 * d * k + n) := by
  have e2 : 2 * d * k = 2 * (d * k) := Int.mul_assoc _ _ _
  have h1 := mul_bd hd (show bd n k by omega) (by omega) (by omega)
  have h2 := prod_lt 4194304 4194304 (x := n) (y := n) ⟨by omega, hn.2⟩ ⟨by omega, hn.2⟩ (by omega)
  have e3 : (n + 1) * (2 * n) = 2 * (n * n) + 2 * n := by grind
  have e4 : (-(n + 1)) * (2 * n) = -(2 * (n * n) + 2 * n) := by rw [Int.neg_mul, e3]
  rw [e2]
  refine ⟨⟨?_, ?_⟩, by omega⟩
  · exact (Int.le_ediv_iff_mul_le (show 0 < 2 * n by omega)).2 (by rw [e4]; omega)
  · have : (2 * (d * k) + n) / (2 * n) < n + 1 + 1 := (Int.ediv_lt_iff_lt_mul (show 0 < 2 * n by omega)).2 (by
      have e5 : (n + 1 + 1) * (2 * n) = 2 * (n * n) + 4 * n := by grind
      rw [e5]; omega)
    omega
/-- The points between two are the same. -/
theorem pt_same {l h k n : Int} (hl : bd 1048576 l) (hd : bd n (h - l)) (hk : 0 ≤ k ∧ k ≤ n) (hn : 1 ≤ n ∧ n ≤ 4194304) : addpt_0 l (muldiv_0 (h - l) k n 2) = rbetween_0 l h k n ∧ addpt_0 l (muldiv_0 (h - l) k n 2) = l + (2 * (h - l) * k + n) / (2 * n) := by
  obtain ⟨b1, b2⟩ := mid_bd hd hk hn
  have e2 : 2 * (h - l) * k = 2 * ((h - l) * k) := Int.mul_assoc _ _ _
  rw [md_law hd hk hn, addpt_eq (by omega) (by omega)]
  refine ⟨?_, rfl⟩
  unfold rbetween_0
  rw [wrI (x := h - l) (by omega) (by omega), wrI (x := 2 * (h - l)) (by omega) (by omega), wrI (x := 2 * (h - l) * k) (by omega) (by omega), wrI (x := 2 * (h - l) * k + n) (by omega) (by omega), wrI (x := 2 * n) (by omega) (by omega), fd_law (by omega) (by omega), wrI (by omega) (by omega)]
theorem bs_congr {P Q : Int → Bool} : ∀ (f : Nat) (a b : Int), 0 ≤ a → (∀ k, a ≤ k → k ≤ b → P k = Q k) → bs P f a b = bs Q f a b
  | 0, _, _, _, _ => rfl
  | f + 1, a, b, h0, h => by
    unfold bs
    by_cases g : b - a > 1
    · obtain ⟨m1, m2⟩ := mid_lt h0 g
      rw [h _ (by omega) (by omega), bs_congr f a _ h0 (fun k k1 k2 => h k k1 (by omega)), bs_congr f _ b (by omega) (fun k k1 k2 => h k (by omega) k2)]
    · rw [decide_eq_false g]; rfl
theorem bsF_congr {P Q : Int → Bool} {n : Int} (h : ∀ k, 0 ≤ k → k ≤ n → P k = Q k) : bsF P (bs0 n) = bsF Q (bs0 n) := bs_congr _ 0 n (by omega) h
/-- What a search finds is right, if its right end is. -/
theorem bs_hit {P : Int → Bool} : ∀ (f : Nat) (a b : Int), P b = true → P (bs P f a b) = true
  | 0, _, _, h => h
  | f + 1, a, b, h => by
    unfold bs
    cases decide (b - a > 1)
    · exact h
    · rw [cond_true]
      cases hm : P ((a + b).tdiv 2)
      · exact bs_hit f _ b h
      · exact bs_hit f a _ hm
/-- A threshold is found. -/
theorem bs_thr {P : Int → Bool} {t n : Int} (hP : ∀ k, 0 ≤ k → k ≤ n → P k = decide (t ≤ k)) : ∀ (f : Nat) (a b : Int), 0 ≤ a → a < t → t ≤ b → b ≤ n → (b - a).toNat ≤ f → bs P f a b = t
  | 0, a, b, h0, h1, h2, h3, h4 => by show b = t; omega
  | f + 1, a, b, h0, h1, h2, h3, h4 => by
    unfold bs
    by_cases g : b - a > 1
    · obtain ⟨m1, m2⟩ := mid_lt h0 g
      rw [decide_eq_true g, cond_true, hP _ (by omega) (by omega)]
      by_cases h5 : t ≤ (a + b).tdiv 2
      · rw [decide_eq_true h5, cond_true]
        exact bs_thr hP f a _ h0 h1 h5 (by omega) (by omega)
      · rw [decide_eq_false h5, cond_false]
        exact bs_thr hP f _ b (by omega) (by omega) h2 h3 (by omega)
    · rw [decide_eq_false g, cond_false]; omega
/-! ### Searches on arcs -/
theorem cv_same {P Q : Int → Int → Bool} {d z : Int} {full : Bool} (hz : isI z) (h : ∀ u w, P u w = Q u w) : ∀ (f : Nat) (s : CvS), cv P d z full f s = rcv Q d z full f s
  | 0, _ => rfl
  | f + 1, s => by
    have e1 : (full && Int.ofNat s.i == 0) = !(!full || decide (Int.ofNat s.i > 0)) := by
      have : (Int.ofNat s.i == 0) = !decide (Int.ofNat s.i > 0) := by
        by_cases g : s.i = 0
        · rw [g]; rfl
        · have : (0 : Int) < Int.ofNat s.i := by simp; omega
          rw [decide_eq_true this, show (Int.ofNat s.i == 0) = false by simp; omega]; rfl
      rw [this]
      cases full <;> cases decide (Int.ofNat s.i > 0) <;> rfl
    have e2 : rfar_0 s.a0 s.a1 s.b0 s.b1 = !cvNear s := by
      unfold rfar_0 cvNear
      rw [Bool.not_and]
    have m0 : cvM0 d z full s = rcM0 d z full s := by
      unfold cvM0 rcM0
      rw [e1, (half_same _ _ _ _ _ hz).1]
      cases (!full || decide (Int.ofNat s.i > 0)) <;> rfl
    have m1 : cvM1 d z full s = rcM1 d z full s := by
      unfold cvM1 rcM1
      rw [e1, (half_same _ _ _ _ _ hz).2]
      cases (!full || decide (Int.ofNat s.i > 0)) <;> rfl
    have en : cvN P d z full s = rcN Q d z full s := by
      unfold cvN rcN
      rw [m0, m1, h]
    unfold cv rcv
    rw [e1, e2, en, cv_same hz h f]
    cases (!full || decide (Int.ofNat s.i > 0)) <;> cases cvNear s <;> rfl
end Go.Proofs.Ytjlkecfkjcanaaa
