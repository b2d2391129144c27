/-
  THE ARC OF A RADIUS passes Check, plain law. Conditions: bounds.
-/
import Derived.Test.YtkggdhnliiagjaaD11
set_option linter.all false
namespace Go.Proofs.Ytkggdhnliiagjaa
open Go.SX Go.RowKit
theorem shr1 (x : Int) : ishift .shr .i64 x 1 = x / 2 := by
  have e : (2 : Int) ^ min (1 : Int).toNat IntKind.i64.bits = 2 := by decide
  unfold ishift
  simp only [e]
  exact Int.fdiv_eq_ediv_of_nonneg _ (by omega)
theorem root_rng {n : Int} (h0 : 1000 ≤ n) (h1 : n ≤ 32400000000) : 19 ≤ wSqrt_0 n 2 ∧ wSqrt_0 n 2 ≤ 180001 ∧ isI n := by
  have hI : isI n := ⟨by omega, by omega⟩
  obtain ⟨_, e⟩ := wSqrt_law (m := 2) (by omega) hI (.inr (.inr rfl))
  obtain ⟨a, b, c, d⟩ := sqr_law (show 0 ≤ n by omega) hI.2
  have h2 : sqr n ≤ 180000 := by
    rcases Int.lt_or_le 180000 (sqr n) with g | g
    · have := Int.mul_le_mul g g (by omega) a
      omega
    · exact g
  have h3 : 19 ≤ sqr n := by
    rcases Int.lt_or_le (sqr n) 19 with g | g
    · have := Int.mul_le_mul (show sqr n + 1 ≤ 19 by omega) (show sqr n + 1 ≤ 19 by omega) (by omega) (by omega)
      omega
    · exact g
  refine ⟨?_, ?_, hI⟩ <;> rw [e] <;> split <;> omega
theorem over_bd {a g n U : Int} (hn : 256 ≤ n) (ha : a * a ≤ n) (hg : 0 ≤ g ∧ g ≤ 180001) (h : 1 ≤ U → (2 * U - 1) * (2 * U - 1) * (4 * n) ≤ 4 * ((a * g) * (a * g))) : U ≤ 100000 := by
  rcases Int.lt_or_le 100000 U with h1 | h1
  · exfalso
    have h2 := h (by omega)
    have k1 := sqm (x := 199999) (y := 2 * U - 1) (n := 4 * n) (by omega) (by omega) (by omega)
    have k2 : (a * g) * (a * g) = a * a * (g * g) := by grind
    have k3 := prod_lt 180001 180001 (x := g) (y := g) hg hg (by omega)
    have k4 := Int.mul_le_mul_of_nonneg_right ha k3.1
    have k5 := Int.mul_le_mul_of_nonneg_left k3.2 (show 0 ≤ n by omega)
    omega
  · exact h1
theorem flat_bd {p a b c m : Int} (h0 : 0 ≤ m) (ha : bd m a) (hb : bd m b) (hc : bd m c) : bd m (flat_0 p a b c) ∧ bd m (flat_1 p a b c) ∧ bd m (flat_2 p a b c) := by
  unfold flat_0 flat_1 flat_2
  cases p == 17 <;> cases p == 18 <;> cases p == 19 <;> simp only [cond_true, cond_false] <;> omega
/-- What the center is, and that it passes. -/
theorem radius_fits {p a b c d e f di r : Int} (hp : p = 17 ∨ p = 18 ∨ p = 19) (ha : bd 9000 a ∧ bd 9000 b ∧ bd 9000 c) (hd : bd 9000 d ∧ bd 9000 e ∧ bd 9000 f) (hdi : di = 1 ∨ di = -1) (hr : (13000 ≤ r ∧ r ≤ 90000) ∨ (r ≤ -13000 ∧ -90000 ≤ r))
    (hn : 256 ≤ vinner_0 (minus_0 (flat_0 p d e f) (flat_0 p a b c)) (minus_0 (flat_1 p d e f) (flat_1 p a b c)) (minus_0 (flat_0 p d e f) (flat_0 p a b c)) (minus_0 (flat_1 p d e f) (flat_1 p a b c))) :
    aradius_3 p a b c d e f di r = 0 ∧ acheck_0 3 a b c d e f p (aradius_0 p a b c d e f di r) (aradius_1 p a b c d e f di r) (aradius_2 p a b c d e f di r) di false = 0 := by
  have wa : co a ∧ co b ∧ co c := by omega
  have wd : co d ∧ co e ∧ co f := by omega
  have P := radP (p := p) (r := r) wa wd (by omega)
  have hq : 256 ≤ rradius_s0 p a b c d e f := hn
  obtain ⟨A0, A1, A2⟩ := flat_bd (p := p) (by omega) ha.1 ha.2.1 ha.2.2
  obtain ⟨D0, D1, D2⟩ := flat_bd (p := p) (by omega) hd.1 hd.2.1 hd.2.2
  have b0 : bd 18000 (flat_0 p d e f - flat_0 p a b c) := by omega
  have b1 : bd 18000 (flat_1 p d e f - flat_1 p a b c) := by omega
  have m0 := mul_bd b0 b0 (by omega) (by omega)
  have m1 := mul_bd b1 b1 (by omega) (by omega)
  have n0 := sq_nn1 (flat_0 p d e f - flat_0 p a b c)
  have n1 := sq_nn1 (flat_1 p d e f - flat_1 p a b c)
  have hsq := P.sq
  have hs1 : rradius_s1 r = if r < 0 then -r else r := by
    unfold rradius_s1
    by_cases g : r < 0
    · rw [decide_eq_true g, cond_true, if_pos g, wrI (by omega) (by omega)]; omega
    · rw [decide_eq_false g, cond_false, if_neg g]
  have r1 : 13000 ≤ rradius_s1 r ∧ rradius_s1 r ≤ 90000 := by rw [hs1]; split <;> omega
  have rr := prod_lt 90000 90000 (x := rradius_s1 r) (y := rradius_s1 r) ⟨by omega, r1.2⟩ ⟨by omega, r1.2⟩ (by omega)
  have rr' := Int.mul_le_mul r1.1 r1.1 (by omega) (by omega)
  have tt := Int.mul_le_mul (show 26002 ≤ 2 * rradius_s1 r + 2 by omega) (show 26002 ≤ 2 * rradius_s1 r + 2 by omega) (by omega) (by omega)
  -- the conditions
  have c1 : (!flat_3 p || !vwithin_0 a b c || !vwithin_0 d e f || di != 1 && di != -1 || decide (r > -8) && decide (r < 8) || decide (r < -1048576) || decide (r > 1048576)) = false := by
    rw [(is_plane hp).1, vw_iff.2 wa, vw_iff.2 wd, decide_eq_false (show ¬ r < -1048576 by omega), decide_eq_false (show ¬ r > 1048576 by omega)]
    have e1 : (decide (r > -8) && decide (r < 8)) = false := by
      rw [Bool.and_eq_false_iff, decide_eq_false_iff_not, decide_eq_false_iff_not]; omega
    rw [e1]
    rcases hdi with rfl | rfl <;> rfl
  have c2 : (rradius_s0 p a b c d e f == 0 || decide (rradius_s0 p a b c d e f > IntKind.i64.wrap (aradius_s2 r * aradius_s2 r))) = false := by
    have e2 : aradius_s2 r = rradius_s2 r := rfl
    rw [e2, P.e2, decide_eq_false (by omega), show (rradius_s0 p a b c d e f == 0) = false by simp; omega]
    rfl
  have es : vinner_0 (aradius_s0 p a b c d e f) (aradius_s1 p a b c d e f) (aradius_s0 p a b c d e f) (aradius_s1 p a b c d e f) = rradius_s0 p a b c d e f := rfl
  have x0 : aradius_s0 p a b c d e f = flat_0 p d e f - flat_0 p a b c := P.e0
  have x1 : aradius_s1 p a b c d e f = flat_1 p d e f - flat_1 p a b c := P.e1
  have h5 : aradius_s5 p a b c d e f = 4 * rradius_s0 p a b c d e f := by
    unfold aradius_s5
    rw [es, wrI (by omega) (by omega)]
  -- the root
  have hm : (if 0 > aradius_s3 p a b c d e f r then 0 else aradius_s3 p a b c d e f r) = 4 * (rradius_s1 r * rradius_s1 r) - rradius_s0 p a b c d e f := by
    rw [P.e3', P.e3, if_neg (by omega)]
  have h4 : aradius_s4 p a b c d e f r = wSqrt_0 (4 * (rradius_s1 r * rradius_s1 r) - rradius_s0 p a b c d e f) 2 := by unfold aradius_s4; rw [hm]
  obtain ⟨g0, g1, _⟩ := root_rng (n := 4 * (rradius_s1 r * rradius_s1 r) - rradius_s0 p a b c d e f) (by omega) (by omega)
  generalize wSqrt_0 (4 * (rradius_s1 r * rradius_s1 r) - rradius_s0 p a b c d e f) 2 = g at *
  unfold aradius_3 aradius_0 aradius_1 aradius_2
  rw [es, c1, c2, h4, h5, x0, x1, shr1, shr1, wrI (x := flat_0 p a b c + flat_0 p d e f) (by omega) (by omega), wrI (x := flat_1 p a b c + flat_1 p d e f) (by omega) (by omega)]
  simp only [cond_false]
  clear es x0 x1 h4 h5 hm c1 c2 tt rr rr' P hn
  -- the quotients
  obtain ⟨U, U0, u1, u2, U1, U2⟩ := over_abs (a := flat_1 p d e f - flat_1 p a b c) (g := g) (N := 4 * rradius_s0 p a b c d e f) (by omega) (by omega) (by omega)
  obtain ⟨W, W0, w1, w2, W1, W2⟩ := over_abs (a := flat_0 p d e f - flat_0 p a b c) (g := g) (N := 4 * rradius_s0 p a b c d e f) (by omega) (by omega) (by omega)
  have Ub := over_bd hq (by omega) (by omega) U1
  have Wb := over_bd hq (by omega) (by omega) W1
  obtain ⟨s, es, hs⟩ : ∃ s : Int, (bif decide (r < 0) then IntKind.i64.wrap (0 - di) else di) = s ∧ (s = 1 ∨ s = -1) := by
    refine ⟨_, rfl, ?_⟩
    cases decide (r < 0)
    · exact hdi
    · rcases hdi with rfl | rfl
      · exact .inr rfl
      · exact .inl rfl
  rw [es]
  generalize rradius_s0 p a b c d e f = n at *
  generalize wOver_0 (flat_1 p d e f - flat_1 p a b c) g (4 * n) 2 = u at *
  generalize wOver_0 (flat_0 p d e f - flat_0 p a b c) g (4 * n) 2 = w at *
  have bu : bd 100000 u := by
    by_cases h : 0 ≤ flat_1 p d e f - flat_1 p a b c
    · have := u1 h; omega
    · have := u2 (by omega); omega
  have bw : bd 100000 w := by
    by_cases h : 0 ≤ flat_0 p d e f - flat_0 p a b c
    · have := w1 h; omega
    · have := w2 (by omega); omega
  have bsu : bd 100000 (s * u) := by rcases hs with rfl | rfl <;> omega
  have bsw : bd 100000 (s * w) := by rcases hs with rfl | rfl <;> omega
  rw [wrI (x := s * u) (by omega) (by omega), wrI (x := s * w) (by omega) (by omega), wrI (x := (flat_0 p a b c + flat_0 p d e f) / 2 - s * u) (by omega) (by omega), wrI (x := (flat_1 p a b c + flat_1 p d e f) / 2 + s * w) (by omega) (by omega)]
  have hdf0 := Int.mul_ediv_add_emod (flat_0 p a b c + flat_0 p d e f) 2
  have hdf1 := Int.mul_ediv_add_emod (flat_1 p a b c + flat_1 p d e f) 2
  obtain ⟨E, E0, E1, E2, E3, E4⟩ := fits_core (dU := flat_0 p d e f - flat_0 p a b c) (dW := flat_1 p d e f - flat_1 p a b c) (g := g) (u := u) (w := w) (M0 := (flat_0 p a b c + flat_0 p d e f) % 2) (M1 := (flat_1 p a b c + flat_1 p d e f) % 2) (s := s)
    (a0 := flat_0 p a b c - ((flat_0 p a b c + flat_0 p d e f) / 2 - s * u)) (a1 := flat_1 p a b c - ((flat_1 p a b c + flat_1 p d e f) / 2 + s * w)) (b0 := flat_0 p d e f - ((flat_0 p a b c + flat_0 p d e f) / 2 - s * u)) (b1 := flat_1 p d e f - ((flat_1 p a b c + flat_1 p d e f) / 2 + s * w))
    hq hsq.symm U0 W0 u1 u2 w1 w2 U1 U2 W1 W2 g0 hs (by omega) (by omega) (by omega) (by omega) (by omega) (by omega)
  generalize hX : (flat_0 p a b c + flat_0 p d e f) / 2 - s * u = X at *
  generalize hY : (flat_1 p a b c + flat_1 p d e f) / 2 + s * w = Y at *
  have bX : bd 110000 X := by omega
  have bY : bd 110000 Y := by omega
  clear U1 U2 W1 W2 u1 u2 w1 w2 hsq m0 m1 n0 n1 hdf0 hdf1 hX hY bsu bsw
  have hv := solid_co (p := p) (u := X) (w := Y) (h := flat_2 p a b c) hp (by omega) (by omega) (by omega)
  unfold acenter_3 acenter_0 acenter_1 acenter_2
  rw [hv]
  simp only [Bool.not_true, cond_false]
  refine ⟨trivial, ?_⟩
  obtain ⟨f0, f1, f2⟩ := flat_solid hp X Y (flat_2 p a b c)
  have hf := fits_fit (a0 := flat_0 p a b c - X) (a1 := flat_1 p a b c - Y) (b0 := flat_0 p d e f - X) (b1 := flat_1 p d e f - Y) (by omega) (by omega) (by omega) (by omega) E0 E1 E2 E3 E4
  unfold acheck_0
  rw [fit_same]
  unfold aspokes_0 aspokes_1
  rw [f0, f1, f2, wrI (x := flat_0 p a b c - X) (by omega) (by omega), wrI (x := flat_1 p a b c - Y) (by omega) (by omega), wrI (x := flat_0 p d e f - X) (by omega) (by omega), wrI (x := flat_1 p d e f - Y) (by omega) (by omega), hf, hv, (is_plane hp).1, vw_iff.2 wa, vw_iff.2 wd]
  rcases hdi with rfl | rfl <;> simp
end Go.Proofs.Ytkggdhnliiagjaa
