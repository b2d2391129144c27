/-
  ROOTS: what Over returns, in whole numbers. Conditions: none.
-/
import Derived.Test.YthgiaoidekdpfaaGreatV3
set_option linter.all false
namespace Go.Proofs.YthgiaoidekdpfaaGreat
open Go.SX Go.RowKit
noncomputable def sqr (n : Int) : Int := fr 63 n 63
theorem sqr_law {n : Int} (h0 : 0 ≤ n) (h1 : n < 9223372036854775808) : 0 ≤ sqr n ∧ sqr n * sqr n ≤ n ∧ n < (sqr n + 1) * (sqr n + 1) ∧ sqr n ≤ 3037000499 := by
  obtain ⟨a, b, c, d⟩ := fr_all (T := 63) h0 (show n < 2 ^ 63 * 2 ^ 63 from by have : (2 : Int) ^ 63 * 2 ^ 63 = 85070591730234615865843651857942052864 := rfl; omega)
  have : fr 63 n 63 ≤ 3037000499 := by
    rcases Int.lt_or_le 3037000499 (fr 63 n 63) with h | h
    · have := Int.mul_le_mul (show (3037000500 : Int) ≤ fr 63 n 63 by omega) (show (3037000500 : Int) ≤ fr 63 n 63 by omega) (by omega) a
      omega
    · exact h
  exact ⟨a, b, c, this⟩
theorem floorRoot_sqr {n : Int} (h0 : 0 ≤ n) (h1 : n < 9223372036854775808) : floorRoot_0 0 n = sqr n := by
  obtain ⟨a, b, c, d⟩ := sqr_law h0 h1
  obtain ⟨x, y, z, w⟩ := fl_law (a := 0) (b := n) ⟨by omega, by omega⟩ ⟨h0, by omega⟩
  rw [Int.zero_mul, Int.zero_add] at y z
  exact root_one x a y z b c
theorem sub0 {x y : Int} (hx : u64 x) (hy : u64 y) (h : y ≤ x) : sub64v x y 0 = x - y ∧ sub64b x y 0 = 0 := by
  obtain ⟨i, rfl⟩ := Int.eq_ofNat_of_zero_le hx.1
  obtain ⟨j, rfl⟩ := Int.eq_ofNat_of_zero_le hy.1
  unfold sub64v sub64b
  have e : (((i : Int).toNat + 18446744073709551616 - (j : Int).toNat - (0 : Int).toNat) % 18446744073709551616 : Nat) = i - j := by
    simp only [Int.toNat_natCast]
    have : (0 : Int).toNat = 0 := rfl
    omega
  have e2 : ¬ ((i : Int).toNat < (j : Int).toNat + (0 : Int).toNat) := by
    simp only [Int.toNat_natCast]
    have : (0 : Int).toNat = 0 := rfl
    omega
  rw [e, if_neg e2]
  constructor
  · omega
  · rfl
/-- The double of the absolute value, rounded down. -/
noncomputable def tw (p n : Int) : Int := fr 64 (4 * (p * p) / n) 64
/-- The absolute value, rounded to the nearest one; a half up. -/
noncomputable def ovq (p n : Int) (neg : Bool) : Int :=
  if tw p n % 2 = 1 ∧ (neg = false ∨ tw p n * tw p n * n ≠ 4 * (p * p)) then tw p n / 2 + 1 else tw p n / 2
theorem tw_law {p n : Int} (hp : 0 ≤ p ∧ p ≤ 4611686018427387904) (hn : 1 ≤ n ∧ n ≤ 4611686018427387904) : 0 ≤ tw p n ∧ tw p n * tw p n * n ≤ 4 * (p * p) ∧ 4 * (p * p) < (tw p n + 1) * (tw p n + 1) * n ∧ tw p n ≤ 9223372036854775808 := by
  have hq := prod_lt 4611686018427387904 4611686018427387904 (x := p) (y := p) hp hp (by omega)
  have hd : 0 ≤ 4 * (p * p) / n := Int.ediv_nonneg (by omega) (by omega)
  have hd2 := Int.ediv_le_self n (show 0 ≤ 4 * (p * p) by omega)
  have e : (2 : Int) ^ 64 * 2 ^ 64 = 340282366920938463463374607431768211456 := rfl
  obtain ⟨x, y, z, w⟩ := fr_all (T := 64) (x := 4 * (p * p) / n) hd (by omega)
  have h1 := (Int.le_ediv_iff_mul_le (show 0 < n by omega)).1 y
  have h2 : 4 * (p * p) < (tw p n + 1) * (tw p n + 1) * n := by
    rcases Int.lt_or_le (4 * (p * p)) ((tw p n + 1) * (tw p n + 1) * n) with g | g
    · exact g
    · have := (Int.le_ediv_iff_mul_le (show 0 < n by omega)).2 g
      have z' : 4 * (p * p) / n < (tw p n + 1) * (tw p n + 1) := z
      omega
  refine ⟨x, h1, h2, ?_⟩
  rcases Int.lt_or_le (tw p n) 9223372036854775809 with g | g
  · omega
  · exfalso
    have g2 := Int.mul_le_mul g g (by omega) x
    have y' : tw p n * tw p n ≤ 4 * (p * p) / n := y
    omega
theorem wOver_law {a b n : Int} (ha : isI a) (hb : isI b) (la : wsize_0 a ≤ 2147483648) (lb : wsize_0 b ≤ 2147483648) (hn : 1 ≤ n ∧ n ≤ 4611686018427387904) :
    wOver_0 a b n 2 = (if wsign_0 a b < 0 then -ovq (wsize_0 a * wsize_0 b) n true else ovq (wsize_0 a * wsize_0 b) n false) ∧ wOver_1 a b n 2 = true := by
  have sa := wsize_rng ha
  have sb := wsize_rng hb
  obtain ⟨p0, p1⟩ := prod_lt 2147483648 2147483648 (x := wsize_0 a) (y := wsize_0 b) ⟨sa.1, la⟩ ⟨sb.1, lb⟩ (by omega)
  have hc : (decide (wsize_0 a > 2147483648) || decide (wsize_0 b > 2147483648) || decide (n < 1) || decide (n > 4611686018427387904) || !((2 : Int) == 0 || (2 : Int) == 1 || (2 : Int) == 2)) = false := by
    rw [decide_eq_false (by omega), decide_eq_false (by omega), decide_eq_false (by omega), decide_eq_false (by omega)]; rfl
  have ew : IntKind.u64.wrap n = n := wrU (by omega) (by omega)
  have e0 : wOver_s0 a b = 2 * (wsize_0 a * wsize_0 b) := by
    unfold wOver_s0
    rw [wrU (x := wsize_0 a * wsize_0 b) (by omega) (by omega), wrU (by omega) (by omega)]
  generalize hP : wsize_0 a * wsize_0 b = P at *
  have us : u64 (wOver_s0 a b) := by rw [e0]; exact ⟨by omega, by omega⟩
  have hh := m0_u64 us us
  have hl := m1_u64 (wOver_s0 a b) (wOver_s0 a b)
  have ehl : mul64_0 (wOver_s0 a b) (wOver_s0 a b) * 18446744073709551616 + mul64_1 (wOver_s0 a b) (wOver_s0 a b) = 4 * (P * P) := by
    rw [mul64_hi _ _ us us, mul64_lo, e0]
    have : 2 * P * (2 * P) = 4 * (P * P) := by grind
    rw [this]; omega
  obtain ⟨q1, q2, q3, q4⟩ := quot_law hh hl (c := n) (by omega) (by omega)
  rw [ehl] at q3 q4
  have eT : wOver_s2 a b n = tw P n := by
    unfold wOver_s2 wOver_s1
    rw [ew]
    show fr 64 _ 64 = _
    rw [q3]; rfl
  obtain ⟨t0, t1, t2, t3⟩ := tw_law (p := P) (n := n) ⟨p0, by omega⟩ hn
  have uT : u64 (tw P n) := ⟨t0, by omega⟩
  have dm := Int.mul_ediv_add_emod (4 * (P * P)) n
  have m3 := Int.emod_nonneg (4 * (P * P)) (show n ≠ 0 by omega)
  -- is there a rest?
  have e4 : wOver_s4 a b n = decide (tw P n * tw P n * n ≠ 4 * (P * P)) := by
    unfold wOver_s4 wOver_s1
    rw [ew, eT, q4, mul64_hi _ _ uT uT, mul64_lo]
    have hT : (tw P n * tw P n / 18446744073709551616 == div64_0 0 (mul64_0 (wOver_s0 a b) (wOver_s0 a b)) n && tw P n * tw P n % 18446744073709551616 == div64_0 (div64_1 0 (mul64_0 (wOver_s0 a b) (wOver_s0 a b)) n) (mul64_1 (wOver_s0 a b) (wOver_s0 a b)) n) = decide (tw P n * tw P n = 4 * (P * P) / n) := by
      rw [← q3]
      generalize tw P n * tw P n = z at *
      generalize div64_0 0 (mul64_0 (wOver_s0 a b) (wOver_s0 a b)) n = u at *
      generalize div64_0 (div64_1 0 (mul64_0 (wOver_s0 a b) (wOver_s0 a b)) n) (mul64_1 (wOver_s0 a b) (wOver_s0 a b)) n = v at *
      rw [Bool.eq_iff_iff]
      simp only [Bool.and_eq_true, beq_iff_eq, decide_eq_true_eq]
      omega
    rw [hT]
    have hle : tw P n * tw P n ≤ 4 * (P * P) / n := (Int.le_ediv_iff_mul_le (show 0 < n by omega)).2 t1
    have hcm : n * (4 * (P * P) / n) = 4 * (P * P) / n * n := Int.mul_comm _ _
    rw [hcm] at dm
    rw [Bool.eq_iff_iff]
    simp only [Bool.or_eq_true, Bool.not_eq_true', decide_eq_true_eq, decide_eq_false_iff_not]
    constructor
    · rintro (g | g)
      · have := Int.mul_le_mul_of_nonneg_right hle (show 0 ≤ n by omega)
        omega
      · have := Int.mul_le_mul_of_nonneg_right (show tw P n * tw P n + 1 ≤ 4 * (P * P) / n by omega) (show 0 ≤ n by omega)
        rw [Int.add_mul] at this
        omega
    · intro g
      by_cases g2 : tw P n * tw P n = 4 * (P * P) / n
      · left
        rw [g2] at g
        omega
      · exact .inr g2
  have e3 : wOver_s3 a b n = decide (tw P n % 2 = 1) := by
    unfold wOver_s3
    rw [eT, Int.tmod_eq_emod_of_nonneg t0]
    rfl
  have ehalf : IntKind.u64.wrap ((tw P n).tdiv 2) = tw P n / 2 := by
    rw [Int.tdiv_eq_ediv_of_nonneg t0, wrU (by omega) (by omega)]
  unfold wOver_0 wOver_1
  rw [hc, cond_false, cond_false, eT, ehalf, e3, e4, wrU (x := tw P n / 2 + 1) (by omega) (by omega)]
  have e5 : wOver_s5 a b = decide (wsign_0 a b < 0) := rfl
  rw [e5]
  have key : ∀ ng : Bool, (bif grows_0 2 (bif decide (tw P n % 2 = 1) then bif decide (tw P n * tw P n * n ≠ 4 * (P * P)) then 1 else 0 else -1) (decide (tw P n * tw P n * n ≠ 4 * (P * P)) || decide (tw P n % 2 = 1)) ng then tw P n / 2 + 1 else tw P n / 2) = ovq P n ng := by
    intro ng
    unfold ovq grows_0
    by_cases g1 : tw P n % 2 = 1
    · by_cases g2 : tw P n * tw P n * n = 4 * (P * P)
      · cases ng <;> simp [g1, g2]
      · cases ng <;> simp [g1, g2]
    · simp [g1]
  have hq : ∀ ng, 0 ≤ ovq P n ng ∧ ovq P n ng ≤ 4611686018427387905 := fun ng => by
    unfold ovq
    split <;> omega
  rw [key]
  by_cases hs : wsign_0 a b < 0
  · rw [decide_eq_true hs, if_pos hs]
    unfold signed_0 signed_1
    have := hq true
    rw [decide_eq_true (show ovq P n true ≤ 9223372036854775808 by omega)]
    simp only [Bool.and_self, cond_true, Bool.true_or, and_true]
    by_cases hz : ovq P n true = 0
    · rw [hz]; rfl
    · rw [wrU_mod]
      have : (0 - ovq P n true) % 18446744073709551616 = 18446744073709551616 - ovq P n true := by omega
      rw [this]
      unfold IntKind.wrap
      simp only [IntKind.bits, IntKind.signed]
      simp
      omega
  · rw [decide_eq_false hs, if_neg hs]
    unfold signed_0 signed_1
    have := hq false
    rw [decide_eq_true (show ovq P n false < 9223372036854775808 by omega)]
    simp only [Bool.false_and, cond_false, Bool.not_false, Bool.and_self, cond_true, Bool.false_or, and_true]
    rw [wrI (by omega) (by omega)]
theorem wsize_le {a : Int} (h : bd 2147483648 a) : wsize_0 a ≤ 2147483648 := by
  rw [wsize_eq a ⟨by omega, by omega⟩]
  split <;> omega
theorem over_bad (a b n : Int) (hn : n < 1) : wOver_0 a b n 2 = 0 := by
  have hc : (decide (wsize_0 a > 2147483648) || decide (wsize_0 b > 2147483648) || decide (n < 1) || decide (n > 4611686018427387904) || !((2 : Int) == 0 || (2 : Int) == 1 || (2 : Int) == 2)) = true := by
    rw [decide_eq_true hn]; simp
  unfold wOver_0
  rw [hc, cond_true]
theorem over_zero (a b : Int) : wOver_0 a b 0 2 = 0 := over_bad a b 0 (by omega)
theorem sqm {x y n : Int} (h0 : 0 ≤ x) (h : x ≤ y) (hn : 0 ≤ n) : x * x * n ≤ y * y * n :=
  Int.mul_le_mul_of_nonneg_right (Int.mul_le_mul h h h0 (by omega)) hn
theorem ovq_law {p n : Int} (ng : Bool) (hp : 0 ≤ p ∧ p ≤ 4611686018427387904) (hn : 1 ≤ n ∧ n ≤ 4611686018427387904) :
    0 ≤ ovq p n ng ∧ (1 ≤ ovq p n ng → (2 * ovq p n ng - 1) * (2 * ovq p n ng - 1) * n ≤ 4 * (p * p)) ∧ 4 * (p * p) ≤ (2 * ovq p n ng + 1) * (2 * ovq p n ng + 1) * n := by
  obtain ⟨t0, t1, t2, t3⟩ := tw_law hp hn
  unfold ovq
  generalize tw p n = t at *
  by_cases h1 : t % 2 = 1
  · by_cases h2 : ng = false ∨ t * t * n ≠ 4 * (p * p)
    · rw [if_pos ⟨h1, h2⟩]
      have e1 : 2 * (t / 2 + 1) - 1 = t := by omega
      have e2 : 2 * (t / 2 + 1) + 1 = t + 2 := by omega
      rw [e1, e2]
      exact ⟨by omega, fun _ => t1, by have := sqm (x := t + 1) (y := t + 2) (n := n) (by omega) (by omega) (by omega); omega⟩
    · rw [if_neg (fun h => h2 h.2)]
      have e1 : 2 * (t / 2) - 1 = t - 2 := by omega
      have e2 : 2 * (t / 2) + 1 = t := by omega
      rw [e1, e2]
      have h3 : t * t * n = 4 * (p * p) := by
        by_cases h : t * t * n = 4 * (p * p)
        · exact h
        · exact absurd (.inr h) h2
      exact ⟨by omega, fun _ => by have := sqm (x := t - 2) (y := t) (n := n) (by omega) (by omega) (by omega); omega, by omega⟩
  · rw [if_neg (fun h => h1 h.1)]
    have e1 : 2 * (t / 2) - 1 = t - 1 := by omega
    have e2 : 2 * (t / 2) + 1 = t + 1 := by omega
    rw [e1, e2]
    exact ⟨by omega, fun _ => by have := sqm (x := t - 1) (y := t) (n := n) (by omega) (by omega) (by omega); omega, by omega⟩
/-- Down or up at a half: by at most one. -/
theorem ovq_diff (p n : Int) : ovq p n true ≤ ovq p n false ∧ ovq p n false ≤ ovq p n true + 1 := by
  unfold ovq
  by_cases h1 : tw p n % 2 = 1
  · rw [if_pos (c := tw p n % 2 = 1 ∧ (false = false ∨ _)) ⟨h1, .inl rfl⟩]
    split <;> omega
  · rw [if_neg (fun h => h1 h.1), if_neg (fun h => h1 h.1)]
    omega
theorem abs_ex (x : Int) : ∃ p : Int, 0 ≤ p ∧ (x = p ∨ x = -p) ∧ (0 ≤ x → p = x) ∧ p * p = x * x := by
  by_cases h : x < 0
  · exact ⟨-x, by omega, by omega, by omega, Int.neg_mul_neg _ _⟩
  · exact ⟨x, by omega, by omega, by omega, rfl⟩
/-- Over, by its absolute value. -/
theorem over_val {a g N : Int} (ha : bd 4194304 a) (hg : bd 4194304 g) (hN : 1 ≤ N ∧ N ≤ 4611686018427387904) :
    ∃ P : Int, (0 ≤ P ∧ P ≤ 17592186044416) ∧ P * P = (a * g) * (a * g) ∧ (0 ≤ a * g → wOver_0 a g N 2 = ovq P N false) ∧ (a * g < 0 → wOver_0 a g N 2 = -ovq P N true) ∧ wOver_0 a (-g) N 2 = (if a * g > 0 then -ovq P N true else ovq P N false) := by
  have hl := (wOver_law (a := a) (b := g) (n := N) ⟨by omega, by omega⟩ ⟨by omega, by omega⟩ (wsize_le (by omega)) (wsize_le (by omega)) hN).1
  have hl' := (wOver_law (a := a) (b := -g) (n := N) ⟨by omega, by omega⟩ ⟨by omega, by omega⟩ (wsize_le (by omega)) (wsize_le (by omega)) hN).1
  obtain ⟨p, p0, p1, p2, p3⟩ := abs_ex a
  obtain ⟨q, q0, q1, q2, q3⟩ := abs_ex g
  have sa : wsize_0 a = p := by
    rw [wsize_eq a ⟨by omega, by omega⟩]; split <;> omega
  have sg : wsize_0 g = q := by
    rw [wsize_eq g ⟨by omega, by omega⟩]; split <;> omega
  have sg' : wsize_0 (-g) = q := by
    rw [wsize_eq (-g) ⟨by omega, by omega⟩]; split <;> omega
  rw [sa, sg] at hl
  rw [sa, sg'] at hl'
  have hpq := prod_lt 4194304 4194304 (x := p) (y := q) ⟨p0, by omega⟩ ⟨q0, by omega⟩ (by omega)
  have hs := wsign_or a g
  have hs' := wsign_or a (-g)
  rw [Int.mul_neg] at hs'
  refine ⟨p * q, ⟨hpq.1, by omega⟩, ?_, ?_, ?_, ?_⟩
  · have e : p * q * (p * q) = p * p * (q * q) := by grind
    rw [e, p3, q3]; grind
  · intro h
    rw [hl, if_neg (by rcases hs with ⟨h1, h2⟩ | ⟨h1, h2, h3⟩ | ⟨h1, h2, h3⟩ <;> omega)]
  · intro h
    rw [hl, if_pos (by rcases hs with ⟨h1, h2⟩ | ⟨h1, h2, h3⟩ | ⟨h1, h2, h3⟩ <;> omega)]
  · rw [hl']
    by_cases h : a * g > 0
    · rw [if_pos h, if_pos (by rcases hs' with ⟨h1, h2⟩ | ⟨h1, h2, h3⟩ | ⟨h1, h2, h3⟩ <;> omega)]
    · rw [if_neg h, if_neg (by rcases hs' with ⟨h1, h2⟩ | ⟨h1, h2, h3⟩ | ⟨h1, h2, h3⟩ <;> omega)]
theorem over_abs {a g N : Int} (ha : bd 4194304 a) (hg : bd 4194304 g) (hN : 1 ≤ N ∧ N ≤ 4611686018427387904) :
    ∃ U : Int, 0 ≤ U ∧ (0 ≤ a * g → wOver_0 a g N 2 = U) ∧ (a * g < 0 → wOver_0 a g N 2 = -U) ∧ (1 ≤ U → (2 * U - 1) * (2 * U - 1) * N ≤ 4 * ((a * g) * (a * g))) ∧ 4 * ((a * g) * (a * g)) ≤ (2 * U + 1) * (2 * U + 1) * N := by
  obtain ⟨P, h0, h1, h2, h3, _⟩ := over_val ha hg hN
  rw [← h1]
  by_cases h : 0 ≤ a * g
  · obtain ⟨o1, o2, o3⟩ := ovq_law false (p := P) (n := N) ⟨h0.1, by omega⟩ hN
    exact ⟨_, o1, fun _ => h2 h, fun h' => by omega, o2, o3⟩
  · obtain ⟨o1, o2, o3⟩ := ovq_law true (p := P) (n := N) ⟨h0.1, by omega⟩ hN
    exact ⟨_, o1, fun h' => by omega, fun _ => h3 (by omega), o2, o3⟩
/-- One way and the other way: by at most one. -/
theorem over_opp {a g N : Int} (ha : bd 4194304 a) (hg : bd 4194304 g) (hN : 1 ≤ N ∧ N ≤ 4611686018427387904) : 0 ≤ wOver_0 a g N 2 + wOver_0 a (-g) N 2 ∧ wOver_0 a g N 2 + wOver_0 a (-g) N 2 ≤ 1 := by
  obtain ⟨P, h0, h1, h2, h3, h4⟩ := over_val ha hg hN
  obtain ⟨d1, d2⟩ := ovq_diff P N
  rw [h4]
  by_cases h : 0 < a * g
  · rw [h2 (by omega), if_pos h]; omega
  · rw [if_neg h]
    by_cases h' : a * g = 0
    · rw [h'] at h1
      have hP : P = 0 := by
        rcases Int.lt_or_le 0 P with g | g
        · have := Int.mul_pos g g; omega
        · omega
      have hz : tw 0 N = 0 := by
        obtain ⟨t0, t1, _, _⟩ := tw_law (p := 0) (n := N) ⟨by omega, by omega⟩ hN
        rcases Int.lt_or_le 0 (tw 0 N) with g | g
        · have := Int.mul_pos (Int.mul_pos g g) (show 0 < N by omega); omega
        · omega
      rw [h2 (by omega), hP]
      unfold ovq
      rw [hz, if_neg (fun h => by have := h.1; omega)]
      omega
    · rw [h3 (by omega)]; omega
theorem over_ineq {p q U W g N : Int} (hp : 0 ≤ p) (hq : 0 ≤ q) (hU : 0 ≤ U) (hW : 0 ≤ W) (hN : 0 < N) (h1 : 1 ≤ U → (2 * U - 1) * (2 * U - 1) * N ≤ 4 * ((p * g) * (p * g))) (h2 : 4 * ((q * g) * (q * g)) ≤ (2 * W + 1) * (2 * W + 1) * N) :
    q * (2 * U - 1) ≤ p * (2 * W + 1) := by
  have hY : 0 ≤ p * (2 * W + 1) := Int.mul_nonneg hp (by omega)
  by_cases hU0 : U = 0
  · subst hU0
    have : q * (2 * 0 - 1) = -q := by omega
    omega
  · rcases Int.lt_or_le (p * (2 * W + 1)) (q * (2 * U - 1)) with h | h
    · exfalso
      have s1 := Int.mul_self_lt_mul_self hY h
      have s2 := Int.mul_lt_mul_of_pos_right s1 hN
      have e1 : q * (2 * U - 1) * (q * (2 * U - 1)) * N = q * q * ((2 * U - 1) * (2 * U - 1) * N) := by grind
      have e2 : p * (2 * W + 1) * (p * (2 * W + 1)) * N = p * p * ((2 * W + 1) * (2 * W + 1) * N) := by grind
      have q0 : 0 ≤ q * q := Int.mul_nonneg hq hq
      have p0 : 0 ≤ p * p := Int.mul_nonneg hp hp
      have m1 := Int.mul_le_mul_of_nonneg_left (h1 (by omega)) q0
      have m2 := Int.mul_le_mul_of_nonneg_left h2 p0
      have e3 : q * q * (4 * ((p * g) * (p * g))) = p * p * (4 * ((q * g) * (q * g))) := by grind
      omega
    · exact h
theorem sq_nn1 (x : Int) : 0 ≤ x * x := by
  have := sq_nn x 0
  rw [Int.mul_zero, Int.add_zero] at this
  exact this
theorem sq_mul {p x g : Int} (h : p * p = x * x) : (p * g) * (p * g) = (x * g) * (x * g) := by
  have e1 : (p * g) * (p * g) = p * p * (g * g) := by grind
  have e2 : (x * g) * (x * g) = x * x * (g * g) := by grind
  rw [e1, e2, h]
theorem over_bd {a g N m : Int} (hm : 0 ≤ m) (hm2 : m ≤ 4194304) (ha : bd 4194304 a) (hg : bd m g) (hN : 1 ≤ N ∧ N ≤ 4611686018427387904) (haN : a * a ≤ N) : bd m (wOver_0 a g N 2) := by
  obtain ⟨U, U0, u1, u2, U1, U2⟩ := over_abs ha (show bd 4194304 g by omega) hN
  have hU : U ≤ m := by
    rcases Int.lt_or_le m U with h | h
    · exfalso
      have h1 := U1 (by omega)
      have k1 := sqm (x := 2 * m + 1) (y := 2 * U - 1) (n := N) (by omega) (by omega) (by omega)
      have k2 : (a * g) * (a * g) = a * a * (g * g) := by grind
      have k3 := mul_bd hg hg hm hm
      have k4 := Int.mul_le_mul_of_nonneg_right haN (sq_nn1 g)
      have k5 := Int.mul_le_mul_of_nonneg_left k3.2 (show 0 ≤ N by omega)
      have k6 : (2 * m + 1) * (2 * m + 1) * N = 4 * (N * (m * m)) + 4 * (m * N) + N := by grind
      have k7 := Int.mul_nonneg hm (show 0 ≤ N by omega)
      omega
    · exact h
  by_cases h : 0 ≤ a * g
  · rw [u1 h]; omega
  · rw [u2 (by omega)]; omega
theorem nrm_ok {p0 p1 t0 t1 r : Int} (h0 : t0 ≠ 0 ∨ t1 ≠ 0) (h1 : bd 4194304 t0) (h2 : bd 4194304 t1) (h3 : bd 1048576 p0) (h4 : bd 1048576 p1) (h5 : bd 32768 r) : (t0 == 0 && t1 == 0 || !oin_0 t0 4194304 || !oin_0 t1 4194304 || !oin_0 p0 1048576 || !oin_0 p1 1048576 || !oin_0 r 32768) = false := by
  rw [(oin_iff (by omega) (by omega)).2 h1, (oin_iff (by omega) (by omega)).2 h2, (oin_iff (by omega) (by omega)).2 h3, (oin_iff (by omega) (by omega)).2 h4, (oin_iff (by omega) (by omega)).2 h5]
  have : (t0 == 0 && t1 == 0) = false := by
    rw [Bool.and_eq_false_iff, beq_eq_false_iff_ne, beq_eq_false_iff_ne]; exact h0
  rw [this]; rfl
/-- A normal's point. -/
theorem normal_val {p0 p1 t0 t1 r : Int} (h0 : t0 ≠ 0 ∨ t1 ≠ 0) (h1 : bd 4194304 t0) (h2 : bd 4194304 t1) (h3 : bd 1048576 p0) (h4 : bd 1048576 p1) (h5 : bd 32768 r) :
    onormal_0 p0 p1 t0 t1 r = p0 + wOver_0 (-t1) r (t0 * t0 + t1 * t1) 2 ∧ onormal_1 p0 p1 t0 t1 r = p1 + wOver_0 t0 r (t0 * t0 + t1 * t1) 2 ∧ onormal_2 p0 p1 t0 t1 r = true ∧ bd 32768 (wOver_0 (-t1) r (t0 * t0 + t1 * t1) 2) ∧ bd 32768 (wOver_0 t0 r (t0 * t0 + t1 * t1) 2) ∧ 1 ≤ t0 * t0 + t1 * t1 ∧ t0 * t0 + t1 * t1 ≤ 35184372088832 := by
  have hn := sq_pos h0
  have m1 := mul_bd h1 h1 (by omega) (by omega)
  have m2 := mul_bd h2 h2 (by omega) (by omega)
  have n1 := sq_nn1 t0
  have n2 := sq_nn1 t1
  have b1 : bd 32768 (wOver_0 (-t1) r (t0 * t0 + t1 * t1) 2) := over_bd (by omega) (by omega) (by omega) h5 (by omega) (by rw [Int.neg_mul_neg]; omega)
  have b2 : bd 32768 (wOver_0 t0 r (t0 * t0 + t1 * t1) 2) := over_bd (by omega) (by omega) (by omega) h5 (by omega) (by omega)
  have ev : vinner_0 t0 t1 t0 t1 = t0 * t0 + t1 * t1 := vinner_eq (by omega) (by omega) (by omega) (by omega)
  have ew : IntKind.i64.wrap (0 - t1) = -t1 := by rw [wrI (by omega) (by omega)]; omega
  unfold onormal_0 onormal_1 onormal_2
  rw [nrm_ok h0 h1 h2 h3 h4 h5, ev, ew, cond_false, cond_false, addpt_eq (by omega) (by omega), addpt_eq (by omega) (by omega)]
  exact ⟨rfl, rfl, rfl, b1, b2, by omega, by omega⟩
end Go.Proofs.YthgiaoidekdpfaaGreat
