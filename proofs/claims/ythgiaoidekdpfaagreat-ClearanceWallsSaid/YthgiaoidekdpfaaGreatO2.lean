/-
  RIGHT ANGLES: where offsets meet. Conditions: none.
-/
import Derived.Test.YthgiaoidekdpfaaGreatR1
set_option linter.all false
namespace Go.Proofs.YthgiaoidekdpfaaGreat
open Go.SX Go.RowKit
theorem v_isI (a b c d : Int) : isI (vinner_0 a b c d) := wrap_isI _
theorem ediv_of {a m q r : Int} (hm : 0 < m) (h0 : 0 ≤ r) (h1 : r < m) (e : r + m * q = a) : a / m = q := ((Int.ediv_emod_unique hm).2 ⟨e, h0, h1⟩).1
theorem signed_f {x : Int} (h0 : 0 ≤ x) (h1 : x ≤ 4611686018427387904) : signed_0 x false = x := by
  unfold signed_0
  rw [decide_eq_true (show x < 9223372036854775808 by omega)]
  simp only [Bool.false_and, cond_false, Bool.not_false, Bool.and_self, cond_true]
  rw [wrI (by omega) (by omega)]
theorem signed_t {x : Int} (h0 : 0 ≤ x) (h1 : x ≤ 4611686018427387904) : signed_0 x true = -x := by
  unfold signed_0
  rw [decide_eq_true (show x ≤ 9223372036854775808 by omega)]
  simp only [Bool.and_self, cond_true]
  by_cases hz : x = 0
  · rw [hz]; rfl
  · rw [wrU_mod]
    have : (0 - x) % 18446744073709551616 = 18446744073709551616 - x := by omega
    rw [this]
    unfold IntKind.wrap
    simp only [IntKind.bits, IntKind.signed]
    simp
    omega
theorem grows_near (more : Int) (some ng : Bool) : grows_0 2 more some ng = (decide (more > 0) || more == 0 && !ng) := rfl
/-- A product by a quotient, rounded to the nearest one. -/
theorem md_law {d k n : Int} (hd : bd n d) (hk : 0 ≤ k ∧ k ≤ n) (hn : 1 ≤ n ∧ n ≤ 4194304) : muldiv_0 d k n 2 = (2 * d * k + n) / (2 * n) := by
  obtain ⟨p, p0, p1, pa, _⟩ := abs_ex d
  have sd : wsize_0 d = p := by rw [wsize_eq d ⟨by omega, by omega⟩]; split <;> omega
  have sk : wsize_0 k = k := by rw [wsize_eq k ⟨by omega, by omega⟩, if_neg (by omega)]
  have sn : wsize_0 n = n := by rw [wsize_eq n ⟨by omega, by omega⟩, if_neg (by omega)]
  have hP := prod_lt 4194304 4194304 (x := p) (y := k) ⟨p0, by omega⟩ ⟨hk.1, by omega⟩ (by omega)
  have e0 : mul64_0 p k = 0 := by rw [mul64_hi _ _ ⟨by omega, by omega⟩ ⟨by omega, by omega⟩]; omega
  have e1 : mul64_1 p k = p * k := by rw [mul64_lo]; omega
  have hs := wsign_or d k
  have hdk : d * k = p * k ∨ d * k = -(p * k) := by
    rcases p1 with rfl | rfl
    · exact .inl rfl
    · right; rw [Int.neg_mul]
  have hdk0 : 0 ≤ d → d * k = p * k := fun h => by rw [pa h]
  have e2 : 2 * d * k = 2 * (d * k) := Int.mul_assoc _ _ _
  have hneg : d < 0 → d * k = -(p * k) := fun h => by
    have : d = -p := by omega
    rw [this, Int.neg_mul]
  rw [e2]
  generalize d * k = D at *
  generalize p * k = P at *
  obtain ⟨f0, f1⟩ := div64_law (a := 0) (b := P) (c := n) (by omega) (by omega) (by omega) (by omega) (by omega)
  rw [show (0 : Int) * 18446744073709551616 + P = P by omega] at f0 f1
  have dm := Int.mul_ediv_add_emod P n
  have m0 := Int.emod_nonneg P (show n ≠ 0 by omega)
  have m1 := Int.emod_lt_of_pos P (show 0 < n by omega)
  have q0 := Int.ediv_nonneg hP.1 (show 0 ≤ n by omega)
  have q1 := Int.ediv_le_self n hP.1
  unfold muldiv_0 muldiv_s0 muldiv_s1 muldiv_s2
  rw [sd, sk, sn, e0, e1, f0, f1, grows_near]
  generalize P / n = q at *
  generalize P % n = m at *
  have g1 : (n == 0 || !((2 : Int) == 0 || (2 : Int) == 1 || (2 : Int) == 2)) = false := by
    rw [show (n == 0) = false by simp; omega]; rfl
  have g2 : decide ((0 : Int) ≥ n) = false := decide_eq_false (by omega)
  have g3 : (!decide (wsign_0 d k < 0) == decide (n < 0) && wsign_0 d k != 0) = decide (wsign_0 d k < 0) := by
    rw [decide_eq_false (show ¬ n < 0 by omega)]
    rcases hs with ⟨h1, _⟩ | ⟨h1, _⟩ | ⟨h1, _⟩ <;> rw [h1] <;> rfl
  have g4 : IntKind.u64.wrap (n - m) = n - m := wrU (by omega) (by omega)
  have g5 : IntKind.u64.wrap (q + 1) = q + 1 := wrU (by omega) (by omega)
  have g6 : (q + 1 == 0) = false := by simp; omega
  rw [g1, g2, g3, g4, g5, g6]
  simp only [cond_false]
  have nq : n * q = P - m := by omega
  have hmq : ∀ x : Int, 2 * n * x = 2 * (n * x) := fun x => Int.mul_assoc _ _ _
  have nq1 : n * (q + 1) = P - m + n := by rw [Int.mul_add, Int.mul_one]; omega
  have nqn : n * -q = -(P - m) := by rw [Int.mul_neg, nq]
  have nqn1 : n * -(q + 1) = -(P - m + n) := by rw [Int.mul_neg, nq1]
  -- does it grow?
  have hmore : ∀ ng : Bool, (decide ((bif decide (m > n - m) then (1 : Int) else bif decide (m < n - m) then -1 else 0) > 0) || (bif decide (m > n - m) then (1 : Int) else bif decide (m < n - m) then -1 else 0) == 0 && !ng) = (decide (2 * m > n) || decide (2 * m = n) && !ng) := fun ng => by
    by_cases h1 : m > n - m
    · rw [decide_eq_true h1, decide_eq_true (show 2 * m > n by omega)]; rfl
    · rw [decide_eq_false h1, decide_eq_false (show ¬ 2 * m > n by omega)]
      by_cases h2 : m < n - m
      · rw [decide_eq_true h2, decide_eq_false (show ¬ 2 * m = n by omega)]; rfl
      · rw [decide_eq_false h2, decide_eq_true (show 2 * m = n by omega)]; rfl
  rw [hmore]
  by_cases hsg : wsign_0 d k < 0
  · rw [decide_eq_true hsg]
    have hD : D = -P := by rcases hs with ⟨h1, h2⟩ | ⟨h1, h2, _⟩ | ⟨h1, h2, _⟩ <;> rcases hdk with h | h <;> omega
    by_cases h1 : 2 * m > n
    · rw [decide_eq_true h1]
      simp only [Bool.true_or, cond_true]
      rw [signed_t (by omega) (by omega)]
      exact (ediv_of (r := 3 * n - 2 * m) (by omega) (by omega) (by omega) (by rw [hmq, nqn1]; omega)).symm
    · rw [decide_eq_false h1]
      simp only [Bool.not_true, Bool.and_false, Bool.or_self, cond_false]
      rw [signed_t (by omega) (by omega)]
      exact (ediv_of (r := n - 2 * m) (by omega) (by omega) (by omega) (by rw [hmq, nqn]; omega)).symm
  · rw [decide_eq_false hsg]
    have hD : D = P := by
      rcases hs with ⟨h1, h2⟩ | ⟨h1, h2, _⟩ | ⟨h1, h2, _⟩
      · rcases hdk with h | h <;> omega
      · rcases hdk with h | h <;> omega
      · exfalso; omega
    by_cases h1 : 2 * m > n
    · rw [decide_eq_true h1]
      simp only [Bool.true_or, cond_true]
      rw [signed_f (by omega) (by omega)]
      exact (ediv_of (r := 2 * m - n) (by omega) (by omega) (by omega) (by rw [hmq, nq1]; omega)).symm
    · rw [decide_eq_false h1]
      by_cases h2 : 2 * m = n
      · rw [decide_eq_true h2]
        simp only [Bool.not_false, Bool.and_self, Bool.or_true, cond_true]
        rw [signed_f (by omega) (by omega)]
        exact (ediv_of (r := 2 * m - n) (by omega) (by omega) (by omega) (by rw [hmq, nq1]; omega)).symm
      · rw [decide_eq_false h2]
        simp only [Bool.false_and, Bool.or_self, cond_false]
        rw [signed_f (by omega) (by omega)]
        exact (ediv_of (r := 2 * m + n) (by omega) (by omega) (by omega) (by rw [hmq, nq]; omega)).symm
theorem mid_bd {d k n : Int} (hd : bd n d) (hk : 0 ≤ k ∧ k ≤ n) (hn : 1 ≤ n ∧ n ≤ 4194304) : bd (n + 1) ((2 * d * k + n) / (2 * n)) ∧ bd 35184380477440 (2 * d * k + n) := by
  have e2 : 2 * d * k = 2 * (d * k) := Int.mul_assoc _ _ _
  have h1 := mul_bd hd (show bd n k by omega) (by omega) (by omega)
  have h2 := prod_lt 4194304 4194304 (x := n) (y := n) ⟨by omega, hn.2⟩ ⟨by omega, hn.2⟩ (by omega)
  have e3 : (n + 1) * (2 * n) = 2 * (n * n) + 2 * n := by grind
  have e4 : (-(n + 1)) * (2 * n) = -(2 * (n * n) + 2 * n) := by rw [Int.neg_mul, e3]
  rw [e2]
  refine ⟨⟨?_, ?_⟩, by omega⟩
  · exact (Int.le_ediv_iff_mul_le (show 0 < 2 * n by omega)).2 (by rw [e4]; omega)
  · have : (2 * (d * k) + n) / (2 * n) < n + 1 + 1 := (Int.ediv_lt_iff_lt_mul (show 0 < 2 * n by omega)).2 (by
      have e5 : (n + 1 + 1) * (2 * n) = 2 * (n * n) + 4 * n := by grind
      rw [e5]; omega)
    omega
/-- The points between two are the same. -/
theorem pt_same {l h k n : Int} (hl : bd 1048576 l) (hd : bd n (h - l)) (hk : 0 ≤ k ∧ k ≤ n) (hn : 1 ≤ n ∧ n ≤ 4194304) : True ∧ addpt_0 l (muldiv_0 (h - l) k n 2) = l + (2 * (h - l) * k + n) / (2 * n) := by
  obtain ⟨b1, b2⟩ := mid_bd hd hk hn
  have e2 : 2 * (h - l) * k = 2 * ((h - l) * k) := Int.mul_assoc _ _ _
  rw [md_law hd hk hn, addpt_eq (by omega) (by omega)]
  exact ⟨trivial, rfl⟩
theorem bs_hit {P : Int → Bool} : ∀ (f : Nat) (a b : Int), P b = true → P (bs P f a b) = true
  | 0, _, _, h => h
  | f + 1, a, b, h => by
    unfold bs
    cases decide (b - a > 1)
    · exact h
    · rw [cond_true]
      cases hm : P ((a + b).tdiv 2)
      · exact bs_hit f _ b h
      · exact bs_hit f a _ hm
/-- A threshold is found. -/
theorem bs_thr {P : Int → Bool} {t n : Int} (hP : ∀ k, 0 ≤ k → k ≤ n → P k = decide (t ≤ k)) : ∀ (f : Nat) (a b : Int), 0 ≤ a → a < t → t ≤ b → b ≤ n → (b - a).toNat ≤ f → bs P f a b = t
  | 0, a, b, h0, h1, h2, h3, h4 => by show b = t; omega
  | f + 1, a, b, h0, h1, h2, h3, h4 => by
    unfold bs
    by_cases g : b - a > 1
    · obtain ⟨m1, m2⟩ := mid_lt h0 g
      rw [decide_eq_true g, cond_true, hP _ (by omega) (by omega)]
      by_cases h5 : t ≤ (a + b).tdiv 2
      · rw [decide_eq_true h5, cond_true]
        exact bs_thr hP f a _ h0 h1 h5 (by omega) (by omega)
      · rw [decide_eq_false h5, cond_false]
        exact bs_thr hP f _ b (by omega) (by omega) h2 h3 (by omega)
    · rw [decide_eq_false g, cond_false]; omega
/-! ### Searches on arcs -/
noncomputable def found_n_ (l0 l1 h0 h1 : Int) : Int :=
  if 0 - (h1 - l1) > (if h1 - l1 > (if 0 - (h0 - l0) > h0 - l0 then 0 - (h0 - l0) else h0 - l0) then h1 - l1 else (if 0 - (h0 - l0) > h0 - l0 then 0 - (h0 - l0) else h0 - l0)) then 0 - (h1 - l1) else (if h1 - l1 > (if 0 - (h0 - l0) > h0 - l0 then 0 - (h0 - l0) else h0 - l0) then h1 - l1 else (if 0 - (h0 - l0) > h0 - l0 then 0 - (h0 - l0) else h0 - l0))
theorem found_n {l0 l1 h0 h1 : Int} (b0 : bd 1048576 l0) (b1 : bd 1048576 l1) (b2 : bd 1048576 h0) (b3 : bd 1048576 h1) : straight_s2 l0 l1 h0 h1 = found_n_ l0 l1 h0 h1 ∧ 0 ≤ found_n_ l0 l1 h0 h1 ∧ found_n_ l0 l1 h0 h1 ≤ 2097152 ∧ bd (found_n_ l0 l1 h0 h1) (h0 - l0) ∧ bd (found_n_ l0 l1 h0 h1) (h1 - l1) := by
  have d0 : minus_0 h0 l0 = h0 - l0 := minus_eq (by omega) (by omega)
  have d1 : minus_0 h1 l1 = h1 - l1 := minus_eq (by omega) (by omega)
  unfold straight_s2 straight_s1 straight_s0 found_n_
  rw [d0, d1, wrI (x := 0 - (h0 - l0)) (by omega) (by omega), wrI (x := 0 - (h1 - l1)) (by omega) (by omega)]
  refine ⟨rfl, ?_⟩
  repeat' split
  all_goals omega
theorem le_of_sq {a b : Int} (hb : 0 ≤ b) (h : a * a ≤ b * b) : a ≤ b := by
  rcases Int.lt_or_le b a with g | g
  · have := Int.mul_self_lt_mul_self hb g; omega
  · exact g
theorem sq_le {a b : Int} (ha : 0 ≤ a) (h : a ≤ b) : a * a ≤ b * b := Int.mul_le_mul h h ha (by omega)
/-- Clear of a straight piece. -/
theorem clear_line {f0 f1 f2 f3 y0 y1 r : Int} (f4 f5 : Int) (h0 : bd 1000000 f0) (h1 : bd 1000000 f1) (h2 : bd 1000000 f2) (h3 : bd 1000000 f3) (g0 : bd 1100000 y0) (g1 : bd 1100000 y1) (hr : bd 40000 r) :
    oclear_0 f0 f1 f2 f3 f4 f5 0 y0 y1 r = decide ((0 ≤ r ∧ 0 ≤ (f2 - f0) * (y1 - f1) - (f3 - f1) * (y0 - f0) ∨ r < 0 ∧ (f2 - f0) * (y1 - f1) - (f3 - f1) * (y0 - f0) ≤ 0) ∧ r * r * ((f2 - f0) * (f2 - f0) + (f3 - f1) * (f3 - f1)) ≤ ((f2 - f0) * (y1 - f1) - (f3 - f1) * (y0 - f0)) * ((f2 - f0) * (y1 - f1) - (f3 - f1) * (y0 - f0))) := by
  have d0 : minus_0 f2 f0 = f2 - f0 := minus_eq (by omega) (by omega)
  have d1 : minus_0 f3 f1 = f3 - f1 := minus_eq (by omega) (by omega)
  have d2 : minus_0 y0 f0 = y0 - f0 := minus_eq (by omega) (by omega)
  have d3 : minus_0 y1 f1 = y1 - f1 := minus_eq (by omega) (by omega)
  have hx : vcross_0 (f2 - f0) (f3 - f1) (y0 - f0) (y1 - f1) = (f2 - f0) * (y1 - f1) - (f3 - f1) * (y0 - f0) := vcross_eq (by omega) (by omega) (by omega) (by omega)
  have hv : vinner_0 (f2 - f0) (f3 - f1) (f2 - f0) (f3 - f1) = (f2 - f0) * (f2 - f0) + (f3 - f1) * (f3 - f1) := vinner_eq (by omega) (by omega) (by omega) (by omega)
  have hrr : IntKind.i64.wrap (r * r) = r * r := by
    have := mul_bd hr hr (by omega) (by omega)
    exact wrI (by omega) (by omega)
  have hxI : isI (vcross_0 (f2 - f0) (f3 - f1) (y0 - f0) (y1 - f1)) := wrap_isI _
  have z : ((0 : Int) == 0) = true := rfl
  unfold oclear_0 oclear_s0
  rw [z, cond_true, d0, d1, d2, d3, wcmp_eq _ _ _ _ hxI hxI (wrap_isI _) (v_isI _ _ _ _), hrr, hv, hx]
  rw [show decide (cmpI (((f2 - f0) * (y1 - f1) - (f3 - f1) * (y0 - f0)) * ((f2 - f0) * (y1 - f1) - (f3 - f1) * (y0 - f0))) (r * r * ((f2 - f0) * (f2 - f0) + (f3 - f1) * (f3 - f1))) ≥ 0) = decide (r * r * ((f2 - f0) * (f2 - f0) + (f3 - f1) * (f3 - f1)) ≤ ((f2 - f0) * (y1 - f1) - (f3 - f1) * (y0 - f0)) * ((f2 - f0) * (y1 - f1) - (f3 - f1) * (y0 - f0))) from cmpI_ge _ _]
  rw [Bool.eq_iff_iff]
  simp only [Bool.and_eq_true, Bool.or_eq_true, decide_eq_true_eq, ge_iff_le]
def unit2 (a b : Int) : Prop := (a = 1 ∧ b = 0) ∨ (a = 0 ∧ b = 1) ∨ (a = -1 ∧ b = 0) ∨ (a = 0 ∧ b = -1)
theorem sq_le_of {x y : Int} (hy : 0 ≤ y) (h : x * x ≤ y * y) : x ≤ y := le_of_sq hy h
theorem over_pm {n R z : Int} (hz : z = 1 ∨ z = -1) (hn : 1 ≤ n ∧ n ≤ 9000) (hR : bd 2000 R) : wOver_0 (n * z) R (n * n) 2 = z * R := by
  have hnn := prod_lt 9000 9000 (x := n) (y := n) (by omega) (by omega) (by omega)
  have hn2 : 1 ≤ n * n := Int.mul_le_mul hn.1 hn.1 (by omega) (by omega)
  obtain ⟨U, U0, u1, u2, U1, U2⟩ := over_abs (a := n * z) (g := R) (N := n * n) (by rcases hz with rfl | rfl <;> omega) (by omega) ⟨hn2, by omega⟩
  have e : n * z * R * (n * z * R) = R * R * (n * n) := by rcases hz with rfl | rfl <;> grind
  rw [e] at U1 U2
  obtain ⟨k, k0, k1, k2, k3⟩ := abs_ex R
  have hk : U = k := by
    rw [← k3] at U1 U2
    have dv : ∀ {x y : Int}, x * (n * n) ≤ y * (n * n) → x ≤ y := fun {x y} h => Int.le_of_mul_le_mul_right h (by omega)
    have a1 : 2 * k ≤ 2 * U + 1 := by
      refine le_of_sq (by omega) (dv ?_)
      have : 2 * k * (2 * k) * (n * n) = 4 * (k * k * (n * n)) := by grind
      omega
    have a2 : U ≤ k := by
      by_cases h : 1 ≤ U
      · have := le_of_sq (a := 2 * U - 1) (b := 2 * k) (by omega) (dv (by
          have : 2 * k * (2 * k) * (n * n) = 4 * (k * k * (n * n)) := by grind
          have := U1 h
          omega))
        omega
      · omega
    omega
  rw [hk] at u1 u2
  have hs : n * z * R = n * (z * R) := Int.mul_assoc _ _ _
  rw [hs] at u1 u2
  rcases Int.lt_or_le (z * R) 0 with h | h
  · rw [u2 (Int.mul_neg_of_pos_of_neg (by omega) h)]
    rcases hz with rfl | rfl <;> omega
  · rw [u1 (Int.mul_nonneg (by omega) h)]
    rcases hz with rfl | rfl <;> omega
theorem over_null {R N : Int} (hN : 1 ≤ N ∧ N ≤ 4611686018427387904) (hR : bd 2000 R) : wOver_0 0 R N 2 = 0 := by
  obtain ⟨U, U0, u1, u2, U1, U2⟩ := over_abs (a := 0) (g := R) (N := N) (by omega) (by omega) hN
  rw [Int.zero_mul] at u1 U1
  rw [u1 (by omega)]
  by_cases h : 1 ≤ U
  · have h1 := U1 h
    have h2 := sqm (x := 1) (y := 2 * U - 1) (n := N) (by omega) (by omega) (by omega)
    omega
  · omega
theorem nrm_unit {p0 p1 a b n R : Int} (hab : unit2 a b) (hn : 1 ≤ n ∧ n ≤ 9000) (hR : bd 2000 R) (h0 : bd 200000 p0) (h1 : bd 200000 p1) : onormal_0 p0 p1 (n * a) (n * b) R = p0 - b * R ∧ onormal_1 p0 p1 (n * a) (n * b) R = p1 + a * R := by
  have hnn := prod_lt 9000 9000 (x := n) (y := n) (by omega) (by omega) (by omega)
  have hn2 : 1 ≤ n * n := Int.mul_le_mul hn.1 hn.1 (by omega) (by omega)
  have oz : ∀ N, N = n * n → wOver_0 0 R N 2 = 0 := fun N h => by rw [h]; exact over_null ⟨hn2, by omega⟩ hR
  have op : ∀ x N, x = n → N = n * n → wOver_0 x R N 2 = R := fun x N hx h => by
    have := over_pm (z := 1) (.inl rfl) hn hR
    rw [Int.mul_one, Int.one_mul] at this
    rw [h, hx]; exact this
  have om : ∀ x N, x = -n → N = n * n → wOver_0 x R N 2 = -R := fun x N hx h => by
    have := over_pm (z := -1) (.inr rfl) hn hR
    rw [show n * -1 = -n by omega, show (-1 : Int) * R = -R by omega] at this
    rw [h, hx]; exact this
  obtain ⟨v1, v2, _⟩ := normal_val (p0 := p0) (p1 := p1) (t0 := n * a) (t1 := n * b) (r := R) (by rcases hab with ⟨rfl, rfl⟩ | ⟨rfl, rfl⟩ | ⟨rfl, rfl⟩ | ⟨rfl, rfl⟩ <;> omega) (by rcases hab with ⟨rfl, rfl⟩ | ⟨rfl, rfl⟩ | ⟨rfl, rfl⟩ | ⟨rfl, rfl⟩ <;> omega) (by rcases hab with ⟨rfl, rfl⟩ | ⟨rfl, rfl⟩ | ⟨rfl, rfl⟩ | ⟨rfl, rfl⟩ <;> omega) (by omega) (by omega) (by omega)
  have hN : n * a * (n * a) + n * b * (n * b) = n * n := by rcases hab with ⟨rfl, rfl⟩ | ⟨rfl, rfl⟩ | ⟨rfl, rfl⟩ | ⟨rfl, rfl⟩ <;> grind
  rw [hN] at v1 v2
  rw [v1, v2]
  rcases hab with ⟨rfl, rfl⟩ | ⟨rfl, rfl⟩ | ⟨rfl, rfl⟩ | ⟨rfl, rfl⟩
  · rw [show -(n * 0) = (0 : Int) by omega, oz _ rfl, op _ _ (by omega) rfl]; omega
  · rw [om _ _ (by omega) rfl, show n * 0 = (0 : Int) by omega, oz _ rfl]; omega
  · rw [show -(n * 0) = (0 : Int) by omega, oz _ rfl, om _ _ (by omega) rfl]; omega
  · rw [op _ _ (by omega) rfl, show n * 0 = (0 : Int) by omega, oz _ rfl]; omega
theorem unit_ends {e0 e1 e2 e3 a b n R : Int} (hab : unit2 a b) (hn : 1 ≤ n ∧ n ≤ 9000) (hR : bd 2000 R) (h0 : bd 150000 e0) (h1 : bd 150000 e1) (h2 : e2 = e0 + n * a) (h3 : e3 = e1 + n * b) :
    oends_4 e0 e1 e2 e3 0 0 0 R = 0 ∧ oends_0 e0 e1 e2 e3 0 0 0 R = e0 - b * R ∧ oends_1 e0 e1 e2 e3 0 0 0 R = e1 + a * R ∧ oends_2 e0 e1 e2 e3 0 0 0 R = e2 - b * R ∧ oends_3 e0 e1 e2 e3 0 0 0 R = e3 + a * R := by
  have b2 : bd 160000 e2 := by rcases hab with ⟨rfl, rfl⟩ | ⟨rfl, rfl⟩ | ⟨rfl, rfl⟩ | ⟨rfl, rfl⟩ <;> omega
  have b3 : bd 160000 e3 := by rcases hab with ⟨rfl, rfl⟩ | ⟨rfl, rfl⟩ | ⟨rfl, rfl⟩ | ⟨rfl, rfl⟩ <;> omega
  have ba : bd 2000 (a * R) := by rcases hab with ⟨rfl, rfl⟩ | ⟨rfl, rfl⟩ | ⟨rfl, rfl⟩ | ⟨rfl, rfl⟩ <;> omega
  have bb : bd 2000 (b * R) := by rcases hab with ⟨rfl, rfl⟩ | ⟨rfl, rfl⟩ | ⟨rfl, rfl⟩ | ⟨rfl, rfl⟩ <;> omega
  obtain ⟨p0, p1⟩ := nrm_unit (p0 := e0) (p1 := e1) hab hn hR (by omega) (by omega)
  obtain ⟨p2, p3⟩ := nrm_unit (p0 := e2) (p1 := e3) hab hn hR (by omega) (by omega)
  obtain ⟨s1, s3, s5, s7⟩ := line_ends (x := e0) (y := e1) (u := e2) (v := e3) (r := R) (by omega) (by omega) (by omega) (by omega)
  rw [show e2 - e0 = n * a by omega, show e3 - e1 = n * b by omega] at s1 s3 s5 s7
  rw [p0] at s1
  rw [p1] at s3
  rw [p2] at s5
  rw [p3] at s7
  have q : ∀ {x : Int}, bd 1048576 x → oin_0 x 1048576 = true := fun h => (oin_iff (by omega) (by omega)).2 h
  have z : oends_4 e0 e1 e2 e3 0 0 0 R = 0 := by
    show (bif !oin_0 (oends_s1 e0 e1 e2 e3 0 0 0 R) 1048576 then (3 : Int) else bif !oin_0 (oends_s3 e0 e1 e2 e3 0 0 0 R) 1048576 then 3 else bif !oin_0 (oends_s5 e0 e1 e2 e3 0 0 0 R) 1048576 then 3 else bif !oin_0 (oends_s7 e0 e1 e2 e3 0 0 0 R) 1048576 then 3 else 0) = 0
    rw [s1, s3, s5, s7, q (by omega), q (by omega), q (by omega), q (by omega)]
    rfl
  obtain ⟨n0, n1, n2, n3, _⟩ := ends_ok _ _ _ _ _ _ _ _ z
  exact ⟨z, by rw [n0, s1], by rw [n1, s3], by rw [n2, s5], by rw [n3, s7]⟩
theorem sq_iff {r k : Int} (hr : 0 ≤ r) (hk : 0 ≤ k) {N : Int} (hN : 0 < N) : r * r * N ≤ k * k * N ↔ r ≤ k := by
  constructor
  · intro h
    exact le_of_sq hk (Int.le_of_mul_le_mul_right h hN)
  · intro h
    exact Int.mul_le_mul_of_nonneg_right (sq_le hr h) (by omega)
/-- A point beside the first piece. -/
theorem right_clear {P0 P1 J0 J1 a b s n r R k y0 y1 : Int} (hab : unit2 a b) (hs : s = 1 ∨ s = -1) (hn : 1 ≤ n ∧ n ≤ 9000) (hr : 1 ≤ r ∧ r ≤ 2000) (hR : R = s * r) (h0 : bd 100000 P0) (h1 : bd 100000 P1) (hJ0 : J0 = P0 + n * a) (hJ1 : J1 = P1 + n * b) (hk : 0 ≤ k ∧ k ≤ 9000) (hy0 : y0 = J0 - r * a + k * (-(s * b))) (hy1 : y1 = J1 - r * b + k * (s * a)) :
    oclear_0 P0 P1 J0 J1 0 0 0 y0 y1 R = decide (r ≤ k) := by
  have hnn : 0 < n * n := Int.mul_pos (by omega) (by omega)
  have q := sq_iff (r := r) (k := k) (by omega) hk.1 hnn
  have hnk := Int.mul_nonneg (show 0 ≤ n by omega) hk.1
  have d0 : J0 - P0 = n * a := by omega
  have d1 : J1 - P1 = n * b := by omega
  have bJ0 : bd 1000000 J0 := by rcases hab with ⟨rfl, rfl⟩ | ⟨rfl, rfl⟩ | ⟨rfl, rfl⟩ | ⟨rfl, rfl⟩ <;> omega
  have bJ1 : bd 1000000 J1 := by rcases hab with ⟨rfl, rfl⟩ | ⟨rfl, rfl⟩ | ⟨rfl, rfl⟩ | ⟨rfl, rfl⟩ <;> omega
  have by0 : bd 1100000 y0 := by rcases hab with ⟨rfl, rfl⟩ | ⟨rfl, rfl⟩ | ⟨rfl, rfl⟩ | ⟨rfl, rfl⟩ <;> rcases hs with rfl | rfl <;> omega
  have by1 : bd 1100000 y1 := by rcases hab with ⟨rfl, rfl⟩ | ⟨rfl, rfl⟩ | ⟨rfl, rfl⟩ | ⟨rfl, rfl⟩ <;> rcases hs with rfl | rfl <;> omega
  have bR : bd 40000 R := by rcases hs with rfl | rfl <;> omega
  rw [clear_line 0 0 (by omega) (by omega) bJ0 bJ1 by0 by1 bR, d0, d1]
  have eN : n * a * (n * a) + n * b * (n * b) = n * n := by rcases hab with ⟨rfl, rfl⟩ | ⟨rfl, rfl⟩ | ⟨rfl, rfl⟩ | ⟨rfl, rfl⟩ <;> grind
  have f0 : y0 - P0 = (n - r) * a - k * (s * b) := by rw [hy0, hJ0]; grind
  have f1 : y1 - P1 = (n - r) * b + k * (s * a) := by rw [hy1, hJ1]; grind
  have eX : n * a * (y1 - P1) - n * b * (y0 - P0) = s * (n * k) := by
    rw [f0, f1]
    rcases hab with ⟨rfl, rfl⟩ | ⟨rfl, rfl⟩ | ⟨rfl, rfl⟩ | ⟨rfl, rfl⟩ <;> grind
  rw [eN, eX]
  have eRR : R * R = r * r := by rw [hR]; rcases hs with rfl | rfl <;> grind
  have eXX : s * (n * k) * (s * (n * k)) = k * k * (n * n) := by rcases hs with rfl | rfl <;> grind
  rw [eRR, eXX]
  have sg : (0 ≤ R ∧ 0 ≤ s * (n * k) ∨ R < 0 ∧ s * (n * k) ≤ 0) := by
    generalize n * k = x at *
    rcases hs with rfl | rfl <;> omega
  rw [decide_eq_decide]
  exact ⟨fun h => q.1 h.2, fun h => ⟨sg, q.2 h⟩⟩
/-- What is found on the second piece. -/
theorem right_found {P0 P1 J0 J1 a b s n m r R : Int} (hab : unit2 a b) (hs : s = 1 ∨ s = -1) (hn : 1 ≤ n ∧ n ≤ 9000) (hr : 1 ≤ r ∧ r ≤ 2000) (hm : r < m ∧ m ≤ 9000) (hR : R = s * r) (h0 : bd 100000 P0) (h1 : bd 100000 P1) (hJ0 : J0 = P0 + n * a) (hJ1 : J1 = P1 + n * b) :
    straight_0 (J0 - r * a) (J1 - r * b) (J0 - r * a + m * (-(s * b))) (J1 - r * b + m * (s * a)) P0 P1 J0 J1 0 0 0 false R = J0 - r * a + r * (-(s * b)) ∧ straight_1 (J0 - r * a) (J1 - r * b) (J0 - r * a + m * (-(s * b))) (J1 - r * b + m * (s * a)) P0 P1 J0 J1 0 0 0 false R = J1 - r * b + r * (s * a) := by
  have b0 : bd 1048576 (J0 - r * a) := by rcases hab with ⟨rfl, rfl⟩ | ⟨rfl, rfl⟩ | ⟨rfl, rfl⟩ | ⟨rfl, rfl⟩ <;> omega
  have b1 : bd 1048576 (J1 - r * b) := by rcases hab with ⟨rfl, rfl⟩ | ⟨rfl, rfl⟩ | ⟨rfl, rfl⟩ | ⟨rfl, rfl⟩ <;> omega
  have b2 : bd 1048576 (J0 - r * a + m * (-(s * b))) := by rcases hab with ⟨rfl, rfl⟩ | ⟨rfl, rfl⟩ | ⟨rfl, rfl⟩ | ⟨rfl, rfl⟩ <;> rcases hs with rfl | rfl <;> omega
  have b3 : bd 1048576 (J1 - r * b + m * (s * a)) := by rcases hab with ⟨rfl, rfl⟩ | ⟨rfl, rfl⟩ | ⟨rfl, rfl⟩ | ⟨rfl, rfl⟩ <;> rcases hs with rfl | rfl <;> omega
  obtain ⟨en, n0, n1, n2, n3⟩ := found_n b0 b1 b2 b3
  have nv : found_n_ (J0 - r * a) (J1 - r * b) (J0 - r * a + m * (-(s * b))) (J1 - r * b + m * (s * a)) = m := by
    clear n0 n1 n2 n3 en
    unfold found_n_
    generalize J0 - r * a = x
    generalize J1 - r * b = y
    rw [show x + m * (-(s * b)) - x = m * (-(s * b)) by omega, show y + m * (s * a) - y = m * (s * a) by omega]
    rcases hab with ⟨rfl, rfl⟩ | ⟨rfl, rfl⟩ | ⟨rfl, rfl⟩ | ⟨rfl, rfl⟩ <;> rcases hs with rfl | rfl <;> (repeat' split) <;> omega
  rw [nv] at en n2 n3
  have hc : ∀ k, 0 ≤ k → k ≤ m → stP (J0 - r * a) (J1 - r * b) (J0 - r * a + m * (-(s * b)) - (J0 - r * a)) (J1 - r * b + m * (s * a) - (J1 - r * b)) m P0 P1 J0 J1 0 0 0 R k = decide (r ≤ k) ∧ addpt_0 (J0 - r * a) (muldiv_0 (J0 - r * a + m * (-(s * b)) - (J0 - r * a)) k m 2) = J0 - r * a + k * (-(s * b)) ∧ addpt_0 (J1 - r * b) (muldiv_0 (J1 - r * b + m * (s * a) - (J1 - r * b)) k m 2) = J1 - r * b + k * (s * a) := fun k k0 k1 => by
    have ev : ∀ z x : Int, (2 * (x + m * z - x) * k + m) / (2 * m) = k * z := fun z x => ediv_of (r := m) (by omega) (by omega) (by omega) (by rw [show x + m * z - x = m * z by omega]; grind)
    have g0 := (pt_same b0 n2 ⟨k0, k1⟩ (by omega)).2
    have g1 := (pt_same b1 n3 ⟨k0, k1⟩ (by omega)).2
    rw [ev] at g0 g1
    refine ⟨?_, g0, g1⟩
    unfold stP
    rw [g0, g1]
    exact right_clear hab hs hn hr hR h0 h1 hJ0 hJ1 ⟨k0, by omega⟩ rfl rfl
  have fv : (stF (J0 - r * a) (J1 - r * b) (J0 - r * a + m * (-(s * b)) - (J0 - r * a)) (J1 - r * b + m * (s * a) - (J1 - r * b)) m P0 P1 J0 J1 0 0 0 false R).fin (bs0 m) = r := by
    show bs _ (m - 0).toNat 0 m = r
    exact bs_thr (fun k h1 h2 => (hc k h1 h2).1) _ 0 m (by omega) (by omega) (by omega) (by omega) (by omega)
  have d0 : minus_0 (J0 - r * a + m * (-(s * b))) (J0 - r * a) = J0 - r * a + m * (-(s * b)) - (J0 - r * a) := minus_eq (by omega) (by omega)
  have d1 : minus_0 (J1 - r * b + m * (s * a)) (J1 - r * b) = J1 - r * b + m * (s * a) - (J1 - r * b) := minus_eq (by omega) (by omega)
  unfold straight_0 straight_1
  rw [en, d0, d1, fv]
  obtain ⟨_, g0, g1⟩ := hc r (by omega) (by omega)
  exact ⟨g0, g1⟩
end Go.Proofs.YthgiaoidekdpfaaGreat
