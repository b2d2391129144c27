/-
  ROOTS AND QUOTIENTS BY ROOTS, the plain law: the program's and the reference's are the same, and what they are. Conditions: ranges.
-/
import Derived.Test.YtjlkecfkjcanaaaS1
set_option linter.all false
namespace Go.Proofs.Ytjlkecfkjcanaaa
open Go.SX Go.RowKit
/-! ### Sqrt -/
theorem floorRoot_sqr {n : Int} (h0 : 0 ≤ n) (h1 : n < 9223372036854775808) : floorRoot_0 0 n = sqr n := by
  obtain ⟨a, b, c, d⟩ := sqr_law h0 h1
  obtain ⟨x, y, z, w⟩ := fl_law (a := 0) (b := n) ⟨by omega, by omega⟩ ⟨h0, by omega⟩
  rw [Int.zero_mul, Int.zero_add] at y z
  exact root_one x a y z b c
theorem sub0 {x y : Int} (hx : u64 x) (hy : u64 y) (h : y ≤ x) : sub64v x y 0 = x - y ∧ sub64b x y 0 = 0 := by
  obtain ⟨i, rfl⟩ := Int.eq_ofNat_of_zero_le hx.1
  obtain ⟨j, rfl⟩ := Int.eq_ofNat_of_zero_le hy.1
  unfold sub64v sub64b
  have e : (((i : Int).toNat + 18446744073709551616 - (j : Int).toNat - (0 : Int).toNat) % 18446744073709551616 : Nat) = i - j := by
    simp only [Int.toNat_natCast]
    have : (0 : Int).toNat = 0 := rfl
    omega
  have e2 : ¬ ((i : Int).toNat < (j : Int).toNat + (0 : Int).toNat) := by
    simp only [Int.toNat_natCast]
    have : (0 : Int).toNat = 0 := rfl
    omega
  rw [e, if_neg e2]
  constructor
  · omega
  · rfl
/-- SQRT of the program. -/
theorem wSqrt_law {n m : Int} (h0 : 0 ≤ n) (h : isI n) (hm : m = 0 ∨ m = 1 ∨ m = 2) : wSqrt_1 n m = true ∧ wSqrt_0 n m = if (m = 1 ∧ sqr n * sqr n ≠ n) ∨ (m = 2 ∧ sqr n * (sqr n + 1) < n) then sqr n + 1 else sqr n := by
  obtain ⟨a, b, c, d⟩ := sqr_law h0 h.2
  have ef := floorRoot_sqr h0 h.2
  have hc : (decide (n < 0) || !(m == 0 || m == 1 || m == 2)) = false := by
    rw [decide_eq_false (by omega)]
    rcases hm with rfl | rfl | rfl <;> rfl
  have en : IntKind.u64.wrap n = n := wrU h0 (by omega)
  have u0 : u64 (sqr n) := ⟨a, by omega⟩
  have p0 := prod_lt 3037000499 3037000499 (x := sqr n) (y := sqr n) ⟨a, d⟩ ⟨a, d⟩ (by omega)
  have eh : mul64_0 (sqr n) (sqr n) = 0 := by rw [mul64_hi _ _ u0 u0]; omega
  have el : mul64_1 (sqr n) (sqr n) = sqr n * sqr n := by rw [mul64_lo]; omega
  obtain ⟨s1, s2⟩ := sub0 (x := n) (y := sqr n * sqr n) ⟨h0, by omega⟩ ⟨by omega, by omega⟩ b
  have s3 : sub64v 0 0 0 = 0 := rfl
  have e1 : wroot_s1 0 n m = if (m = 1 ∧ sqr n * sqr n ≠ n) ∨ (m = 2 ∧ sqr n * (sqr n + 1) < n) then sqr n + 1 else sqr n := by
    unfold wroot_s1 wroot_s0
    rw [ef, eh, el, s1, s2, s3, wrU (x := sqr n + 1) (by omega) (by omega)]
    have e : sqr n * (sqr n + 1) = sqr n * sqr n + sqr n := by rw [Int.mul_add, Int.mul_one]
    rw [e]
    rcases hm with rfl | rfl | rfl
    · rfl
    · by_cases g : sqr n * sqr n = n
      · simp [g]
      · have : sqr n * sqr n < n := by omega
        simp [g, this]
    · by_cases g : sqr n * sqr n + sqr n < n
      · have : sqr n < n - sqr n * sqr n := by omega
        simp [g, this]
      · have : ¬ sqr n < n - sqr n * sqr n := by omega
        simp [g, this]
  have hb : (if (m = 1 ∧ sqr n * sqr n ≠ n) ∨ (m = 2 ∧ sqr n * (sqr n + 1) < n) then sqr n + 1 else sqr n) < 9223372036854775808 ∧ 0 ≤ (if (m = 1 ∧ sqr n * sqr n ≠ n) ∨ (m = 2 ∧ sqr n * (sqr n + 1) < n) then sqr n + 1 else sqr n) := by split <;> omega
  unfold wSqrt_0 wSqrt_1 wroot_0 wroot_1
  rw [hc, cond_false, cond_false, en, e1, decide_eq_true hb.1, cond_true, wrI (by omega) hb.1]
  exact ⟨rfl, rfl⟩
/-- The two are the same. -/
theorem sqrt_same {n m : Int} (h0 : 0 ≤ n) (h : isI n) (hm : m = 0 ∨ m = 1 ∨ m = 2) : wSqrt_0 n m = rRoot_0 n 1 m ∧ wSqrt_1 n m = rRoot_1 n 1 m := by
  obtain ⟨a1, a2⟩ := wSqrt_law h0 h hm
  obtain ⟨b1, b2⟩ := rSqrt_law h0 h hm
  exact ⟨by rw [a2, b2], by rw [a1, b1]⟩
/-! ### Over -/
/-- The double of the absolute value, rounded down. -/
noncomputable def tw (p n : Int) : Int := fr 64 (4 * (p * p) / n) 64
/-- The absolute value, rounded to the nearest one; a half up. -/
noncomputable def ovq (p n : Int) (neg : Bool) : Int :=
  if tw p n % 2 = 1 ∧ (neg = false ∨ tw p n * tw p n * n ≠ 4 * (p * p)) then tw p n / 2 + 1 else tw p n / 2
theorem tw_law {p n : Int} (hp : 0 ≤ p ∧ p ≤ 4611686018427387904) (hn : 1 ≤ n ∧ n ≤ 4611686018427387904) : 0 ≤ tw p n ∧ tw p n * tw p n * n ≤ 4 * (p * p) ∧ 4 * (p * p) < (tw p n + 1) * (tw p n + 1) * n ∧ tw p n ≤ 9223372036854775808 := by
  have hq := prod_lt 4611686018427387904 4611686018427387904 (x := p) (y := p) hp hp (by omega)
  have hd : 0 ≤ 4 * (p * p) / n := Int.ediv_nonneg (by omega) (by omega)
  have hd2 := Int.ediv_le_self n (show 0 ≤ 4 * (p * p) by omega)
  have e : (2 : Int) ^ 64 * 2 ^ 64 = 340282366920938463463374607431768211456 := rfl
  obtain ⟨x, y, z, w⟩ := fr_all (T := 64) (x := 4 * (p * p) / n) hd (by omega)
  have h1 := (Int.le_ediv_iff_mul_le (show 0 < n by omega)).1 y
  have h2 : 4 * (p * p) < (tw p n + 1) * (tw p n + 1) * n := by
    rcases Int.lt_or_le (4 * (p * p)) ((tw p n + 1) * (tw p n + 1) * n) with g | g
    · exact g
    · have := (Int.le_ediv_iff_mul_le (show 0 < n by omega)).2 g
      have z' : 4 * (p * p) / n < (tw p n + 1) * (tw p n + 1) := z
      omega
  refine ⟨x, h1, h2, ?_⟩
  rcases Int.lt_or_le (tw p n) 9223372036854775809 with g | g
  · omega
  · exfalso
    have g2 := Int.mul_le_mul g g (by omega) x
    have y' : tw p n * tw p n ≤ 4 * (p * p) / n := y
    omega
theorem wOver_law {a b n : Int} (ha : isI a) (hb : isI b) (la : wsize_0 a ≤ 2147483648) (lb : wsize_0 b ≤ 2147483648) (hn : 1 ≤ n ∧ n ≤ 4611686018427387904) :
    wOver_0 a b n 2 = (if wsign_0 a b < 0 then -ovq (wsize_0 a * wsize_0 b) n true else ovq (wsize_0 a * wsize_0 b) n false) ∧ wOver_1 a b n 2 = true := by
  have sa := wsize_rng ha
  have sb := wsize_rng hb
  obtain ⟨p0, p1⟩ := prod_lt 2147483648 2147483648 (x := wsize_0 a) (y := wsize_0 b) ⟨sa.1, la⟩ ⟨sb.1, lb⟩ (by omega)
  have hc : (decide (wsize_0 a > 2147483648) || decide (wsize_0 b > 2147483648) || decide (n < 1) || decide (n > 4611686018427387904) || !((2 : Int) == 0 || (2 : Int) == 1 || (2 : Int) == 2)) = false := by
    rw [decide_eq_false (by omega), decide_eq_false (by omega), decide_eq_false (by omega), decide_eq_false (by omega)]; rfl
  have ew : IntKind.u64.wrap n = n := wrU (by omega) (by omega)
  have e0 : wOver_s0 a b = 2 * (wsize_0 a * wsize_0 b) := by
    unfold wOver_s0
    rw [wrU (x := wsize_0 a * wsize_0 b) (by omega) (by omega), wrU (by omega) (by omega)]
  generalize hP : wsize_0 a * wsize_0 b = P at *
  have us : u64 (wOver_s0 a b) := by rw [e0]; exact ⟨by omega, by omega⟩
  have hh := m0_u64 us us
  have hl := m1_u64 (wOver_s0 a b) (wOver_s0 a b)
  have ehl : mul64_0 (wOver_s0 a b) (wOver_s0 a b) * 18446744073709551616 + mul64_1 (wOver_s0 a b) (wOver_s0 a b) = 4 * (P * P) := by
    rw [mul64_hi _ _ us us, mul64_lo, e0]
    have : 2 * P * (2 * P) = 4 * (P * P) := by grind
    rw [this]; omega
  obtain ⟨q1, q2, q3, q4⟩ := quot_law hh hl (c := n) (by omega) (by omega)
  rw [ehl] at q3 q4
  have eT : wOver_s2 a b n = tw P n := by
    unfold wOver_s2 wOver_s1
    rw [ew]
    show fr 64 _ 64 = _
    rw [q3]; rfl
  obtain ⟨t0, t1, t2, t3⟩ := tw_law (p := P) (n := n) ⟨p0, by omega⟩ hn
  have uT : u64 (tw P n) := ⟨t0, by omega⟩
  have dm := Int.mul_ediv_add_emod (4 * (P * P)) n
  have m3 := Int.emod_nonneg (4 * (P * P)) (show n ≠ 0 by omega)
  -- is there a rest?
  have e4 : wOver_s4 a b n = decide (tw P n * tw P n * n ≠ 4 * (P * P)) := by
    unfold wOver_s4 wOver_s1
    rw [ew, eT, q4, mul64_hi _ _ uT uT, mul64_lo]
    have hT : (tw P n * tw P n / 18446744073709551616 == div64_0 0 (mul64_0 (wOver_s0 a b) (wOver_s0 a b)) n && tw P n * tw P n % 18446744073709551616 == div64_0 (div64_1 0 (mul64_0 (wOver_s0 a b) (wOver_s0 a b)) n) (mul64_1 (wOver_s0 a b) (wOver_s0 a b)) n) = decide (tw P n * tw P n = 4 * (P * P) / n) := by
      rw [← q3]
      generalize tw P n * tw P n = z at *
      generalize div64_0 0 (mul64_0 (wOver_s0 a b) (wOver_s0 a b)) n = u at *
      generalize div64_0 (div64_1 0 (mul64_0 (wOver_s0 a b) (wOver_s0 a b)) n) (mul64_1 (wOver_s0 a b) (wOver_s0 a b)) n = v at *
      rw [Bool.eq_iff_iff]
      simp only [Bool.and_eq_true, beq_iff_eq, decide_eq_true_eq]
      omega
    rw [hT]
    have hle : tw P n * tw P n ≤ 4 * (P * P) / n := (Int.le_ediv_iff_mul_le (show 0 < n by omega)).2 t1
    have hcm : n * (4 * (P * P) / n) = 4 * (P * P) / n * n := Int.mul_comm _ _
    rw [hcm] at dm
    rw [Bool.eq_iff_iff]
    simp only [Bool.or_eq_true, Bool.not_eq_true', decide_eq_true_eq, decide_eq_false_iff_not]
    constructor
    · rintro (g | g)
      · have := Int.mul_le_mul_of_nonneg_right hle (show 0 ≤ n by omega)
        omega
      · have := Int.mul_le_mul_of_nonneg_right (show tw P n * tw P n + 1 ≤ 4 * (P * P) / n by omega) (show 0 ≤ n by omega)
        rw [Int.add_mul] at this
        omega
    · intro g
      by_cases g2 : tw P n * tw P n = 4 * (P * P) / n
      · left
        rw [g2] at g
        omega
      · exact .inr g2
  have e3 : wOver_s3 a b n = decide (tw P n % 2 = 1) := by
    unfold wOver_s3
    rw [eT, Int.tmod_eq_emod_of_nonneg t0]
    rfl
  have ehalf : IntKind.u64.wrap ((tw P n).tdiv 2) = tw P n / 2 := by
    rw [Int.tdiv_eq_ediv_of_nonneg t0, wrU (by omega) (by omega)]
  unfold wOver_0 wOver_1
  rw [hc, cond_false, cond_false, eT, ehalf, e3, e4, wrU (x := tw P n / 2 + 1) (by omega) (by omega)]
  have e5 : wOver_s5 a b = decide (wsign_0 a b < 0) := rfl
  rw [e5]
  have key : ∀ ng : Bool, (bif grows_0 2 (bif decide (tw P n % 2 = 1) then bif decide (tw P n * tw P n * n ≠ 4 * (P * P)) then 1 else 0 else -1) (decide (tw P n * tw P n * n ≠ 4 * (P * P)) || decide (tw P n % 2 = 1)) ng then tw P n / 2 + 1 else tw P n / 2) = ovq P n ng := by
    intro ng
    unfold ovq grows_0
    by_cases g1 : tw P n % 2 = 1
    · by_cases g2 : tw P n * tw P n * n = 4 * (P * P)
      · cases ng <;> simp [g1, g2]
      · cases ng <;> simp [g1, g2]
    · simp [g1]
  have hq : ∀ ng, 0 ≤ ovq P n ng ∧ ovq P n ng ≤ 4611686018427387905 := fun ng => by
    unfold ovq
    split <;> omega
  rw [key]
  by_cases hs : wsign_0 a b < 0
  · rw [decide_eq_true hs, if_pos hs]
    unfold signed_0 signed_1
    have := hq true
    rw [decide_eq_true (show ovq P n true ≤ 9223372036854775808 by omega)]
    simp only [Bool.and_self, cond_true, Bool.true_or, and_true]
    by_cases hz : ovq P n true = 0
    · rw [hz]; rfl
    · rw [wrU_mod]
      have : (0 - ovq P n true) % 18446744073709551616 = 18446744073709551616 - ovq P n true := by omega
      rw [this]
      unfold IntKind.wrap
      simp only [IntKind.bits, IntKind.signed]
      simp
      omega
  · rw [decide_eq_false hs, if_neg hs]
    unfold signed_0 signed_1
    have := hq false
    rw [decide_eq_true (show ovq P n false < 9223372036854775808 by omega)]
    simp only [Bool.false_and, cond_false, Bool.not_false, Bool.and_self, cond_true, Bool.false_or, and_true]
    rw [wrI (by omega) (by omega)]
theorem rOver_law {a b n : Int} (ha : isI a) (hb : isI b) (la : wsize_0 a ≤ 2147483648) (lb : wsize_0 b ≤ 2147483648) (hn : 1 ≤ n ∧ n ≤ 4611686018427387904) :
    rOver_0 a b n 2 = (if wsign_0 a b < 0 then -ovq (wsize_0 a * wsize_0 b) n true else ovq (wsize_0 a * wsize_0 b) n false) ∧ rOver_1 a b n 2 = true := by
  obtain ⟨A1, A2, A3, A4, A5, A6⟩ := ov_parts ha hb la lb
  have hc : (decide (wsize_0 a > 2147483648) || decide (wsize_0 b > 2147483648) || decide (n < 1) || decide (n > 4611686018427387904) || !((2 : Int) == 0 || (2 : Int) == 1 || (2 : Int) == 2)) = false := by
    rw [decide_eq_false (by omega), decide_eq_false (by omega), decide_eq_false (by omega), decide_eq_false (by omega)]; rfl
  have ew : IntKind.u64.wrap n = n := wrU (by omega) (by omega)
  obtain ⟨D1, D2, D3, D4⟩ := limb_law (n := n) ⟨by omega, by omega⟩
  have hX : mulQ_0 (mulP_0 (limbL (wsize_0 a)) (limbL (wsize_0 b))) = mulP_0 (mulP_0 (limbL (wsize_0 a)) (limbL (wsize_0 b))) (mulP_0 (limbL (wsize_0 a)) (limbL (wsize_0 b))) := rfl
  obtain ⟨X1, X2, X3, X4⟩ := mulP_law A1 A1
  rw [← hX] at X1 X2 X3 X4
  rw [A3] at X3
  generalize hP : wsize_0 a * wsize_0 b = P at *
  have hpp := prod_lt 4611686018427387904 4611686018427387904 (x := P) (y := P) ⟨A5, A6⟩ ⟨A5, A6⟩ (by omega)
  obtain ⟨t0, t1, t2, t3⟩ := tw_law (p := P) (n := n) ⟨A5, A6⟩ hn
  have n0 : 0 < n := by omega
  -- the reference's digits
  have es : rOver_s0 a b n = fr 63 (P * P / n) 63 := by
    unfold rOver_s0
    rw [ew, D3, X3]
  have hv : 0 ≤ P * P / n := Int.ediv_nonneg hpp.1 (by omega)
  have hv1 : P * P / n < 2 ^ 63 * 2 ^ 63 := by
    have := Int.ediv_le_self n hpp.1
    have e : (2 : Int) ^ 63 * 2 ^ 63 = 85070591730234615865843651857942052864 := rfl
    omega
  obtain ⟨r0, r1, r2, r3⟩ := fr_all hv hv1
  rw [← es] at r0 r1 r2 r3
  have e63 : (2 : Int) ^ 63 = 9223372036854775808 := rfl
  -- it is the half of the double
  have hk1 : (tw P n / 2) * (tw P n / 2) * n ≤ P * P := by
    have h1 := prod_lt (tw P n) (tw P n) (x := 2 * (tw P n / 2)) (y := 2 * (tw P n / 2)) ⟨by omega, by omega⟩ ⟨by omega, by omega⟩ t0
    have h2 := Int.mul_le_mul_of_nonneg_right h1.2 (show 0 ≤ n by omega)
    have h3 : 2 * (tw P n / 2) * (2 * (tw P n / 2)) * n = 4 * ((tw P n / 2) * (tw P n / 2) * n) := by grind
    omega
  have hk2 : P * P < (tw P n / 2 + 1) * (tw P n / 2 + 1) * n := by
    have h1 := prod_lt (2 * (tw P n / 2 + 1)) (2 * (tw P n / 2 + 1)) (x := tw P n + 1) (y := tw P n + 1) ⟨by omega, by omega⟩ ⟨by omega, by omega⟩ (by omega)
    have h2 := Int.mul_le_mul_of_nonneg_right h1.2 (show 0 ≤ n by omega)
    have h3 : 2 * (tw P n / 2 + 1) * (2 * (tw P n / 2 + 1)) * n = 4 * ((tw P n / 2 + 1) * (tw P n / 2 + 1) * n) := by grind
    omega
  have hk3 : P * P / n < (tw P n / 2 + 1) * (tw P n / 2 + 1) := by
    rcases Int.lt_or_le (P * P / n) ((tw P n / 2 + 1) * (tw P n / 2 + 1)) with g | g
    · exact g
    · have := (Int.le_ediv_iff_mul_le n0).1 g
      omega
  have eq : rOver_s0 a b n = tw P n / 2 := root_one r0 (by omega) r1 r2 ((Int.le_ediv_iff_mul_le n0).2 hk1) hk3
  have e2q : IntKind.u64.wrap (IntKind.u64.wrap (2 * rOver_s0 a b n) + 1) = 2 * (tw P n / 2) + 1 := by
    rw [eq, wrU (x := 2 * (tw P n / 2)) (by omega) (by omega), wrU (by omega) (by omega)]
  obtain ⟨q1, q2, q3, q4, q5, q6⟩ := mulQ_law (n := 2 * (tw P n / 2) + 1) ⟨by omega, by omega⟩
  obtain ⟨F1, F2, F3, F4⟩ := limb_law (n := 4) ⟨by omega, by omega⟩
  obtain ⟨g1, g2, g3, g4⟩ := mulP_law F1 X1
  obtain ⟨k1, k2, k3, k4⟩ := mulP_law q3 D1
  have eh : cmpD (mulP_0 (limbL 4) (mulQ_0 (mulP_0 (limbL (wsize_0 a)) (limbL (wsize_0 b))))) (mulP_0 (mulQ_0 (limbL (2 * (tw P n / 2) + 1))) (limbL n)) = cmpI (4 * (P * P)) ((2 * (tw P n / 2) + 1) * (2 * (tw P n / 2) + 1) * n) := by
    rw [cmpD_eq g1 k1 g2 k2, g3, k3, F3, X3, q5, D3]
  unfold rOver_0 rOver_1
  rw [hc, cond_false, cond_false, ew, e2q, eh, eq]
  generalize hE : (cmpD (mulP_0 (mulQ_0 (limbL (tw P n / 2))) (limbL n)) (mulQ_0 (mulP_0 (limbL (wsize_0 a)) (limbL (wsize_0 b)))) == 0) = exact'
  have key : ∀ ng : Bool, rrounded_s0 ng (tw P n / 2) exact' (cmpI (4 * (P * P)) ((2 * (tw P n / 2) + 1) * (2 * (tw P n / 2) + 1) * n)) 2 = ovq P n ng := by
    intro ng
    unfold rrounded_s0 ovq
    rw [wrU (x := tw P n / 2 + 1) (by omega) (by omega)]
    by_cases g1 : tw P n % 2 = 1
    · have e : 2 * (tw P n / 2) + 1 = tw P n := by omega
      rw [e]
      by_cases g2 : tw P n * tw P n * n = 4 * (P * P)
      · rw [g2, cmpI_self]
        cases ng <;> simp [g1]
      · rw [cmpI_gt (by omega)]
        cases ng <;> simp [g1, g2]
    · have e : 2 * (tw P n / 2) + 1 = tw P n + 1 := by omega
      rw [e, cmpI_lt t2]
      cases ng <;> simp [g1]
  have hq : ∀ ng, 0 ≤ ovq P n ng ∧ ovq P n ng ≤ 4611686018427387905 := fun ng => by
    unfold ovq
    split <;> omega
  have hs5 : decide (tw P n / 2 > 9223372036854775808) = false := decide_eq_false (by omega)
  unfold rrounded_0 rrounded_1
  rw [key, hs5, cond_false, cond_false]
  by_cases hs : wsign_0 a b < 0
  · rw [decide_eq_true hs, if_pos hs, cond_true, cond_true]
    have := hq true
    rw [decide_eq_false (show ¬ ovq P n true > 9223372036854775808 by omega), cond_false]
    refine ⟨?_, rfl⟩
    by_cases hz : ovq P n true = 0
    · rw [hz]; rfl
    · rw [show (ovq P n true == 0) = false by simpa using hz, cond_false, wrU (x := ovq P n true - 1) (by omega) (by omega), wrI (x := ovq P n true - 1) (by omega) (by omega), wrI (x := 0 - (ovq P n true - 1)) (by omega) (by omega), wrI (by omega) (by omega)]
      omega
  · rw [decide_eq_false hs, if_neg hs, cond_false, cond_false]
    have := hq false
    rw [decide_eq_false (show ¬ ovq P n false > 9223372036854775807 by omega), cond_false, wrI (by omega) (by omega)]
    exact ⟨rfl, rfl⟩
/-- The two are the same. -/
theorem over_same {a b n : Int} (ha : isI a) (hb : isI b) (la : wsize_0 a ≤ 2147483648) (lb : wsize_0 b ≤ 2147483648) (hn : 1 ≤ n ∧ n ≤ 4611686018427387904) : wOver_0 a b n 2 = rOver_0 a b n 2 := by
  rw [(wOver_law ha hb la lb hn).1, (rOver_law ha hb la lb hn).1]
end Go.Proofs.Ytjlkecfkjcanaaa
