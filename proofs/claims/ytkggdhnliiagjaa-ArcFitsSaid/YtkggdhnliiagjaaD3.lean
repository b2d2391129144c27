/-
  ARCS, plain laws: Radius, Check. Conditions: none.
-/
import Derived.Test.YtkggdhnliiagjaaD2
set_option linter.all false
namespace Go.Proofs.Ytkggdhnliiagjaa
open Go.SX Go.RowKit
theorem flat_co {p a b c : Int} (h : co a ∧ co b ∧ co c) : co (flat_0 p a b c) ∧ co (flat_1 p a b c) ∧ co (flat_2 p a b c) := by
  unfold flat_0 flat_1 flat_2
  cases p == 17 <;> cases p == 18 <;> cases p == 19 <;> simp only [cond_true, cond_false] <;> omega
/-- A root of a number that is not large. -/
theorem root_lt {n : Int} (h0 : 0 ≤ n) (h1 : n ≤ 4500000000000) : isI n ∧ 0 ≤ wSqrt_0 n 2 ∧ wSqrt_0 n 2 ≤ 3000000 ∧ wSqrt_0 n 2 = rRoot_0 n 1 2 := by
  have hI : isI n := ⟨by omega, by omega⟩
  obtain ⟨_, e⟩ := wSqrt_law (m := 2) h0 hI (.inr (.inr rfl))
  obtain ⟨a, b, c, d⟩ := sqr_law h0 hI.2
  have : sqr n ≤ 2999999 := by
    rcases Int.lt_or_le 2999999 (sqr n) with g | g
    · have := Int.mul_le_mul g g (by omega) a
      omega
    · exact g
  refine ⟨hI, ?_, ?_, (sqrt_same (m := 2) h0 hI (.inr (.inr rfl))).1⟩
  · rw [e]; split <;> omega
  · rw [e]; split <;> omega
theorem wsize_le {a : Int} (h : bd 3000000 a) : wsize_0 a ≤ 2147483648 := by
  rw [wsize_eq a ⟨by omega, by omega⟩]
  split <;> omega
/-- What stands under the roots, and what a radius gives. -/
structure RadP (p a b c d e f r : Int) : Prop where
  sq : rradius_s0 p a b c d e f = (flat_0 p d e f - flat_0 p a b c) * (flat_0 p d e f - flat_0 p a b c) + (flat_1 p d e f - flat_1 p a b c) * (flat_1 p d e f - flat_1 p a b c)
  b0 : bd 2097152 (flat_0 p d e f - flat_0 p a b c)
  b1 : bd 2097152 (flat_1 p d e f - flat_1 p a b c)
  e0 : minus_0 (flat_0 p d e f) (flat_0 p a b c) = flat_0 p d e f - flat_0 p a b c
  e1 : minus_0 (flat_1 p d e f) (flat_1 p a b c) = flat_1 p d e f - flat_1 p a b c
  r1 : 8 ≤ rradius_s1 r ∧ rradius_s1 r ≤ 1048576
  e2 : IntKind.i64.wrap (rradius_s2 r * rradius_s2 r) = (2 * rradius_s1 r + 2) * (2 * rradius_s1 r + 2)
  e3 : rradius_s3 p a b c d e f r = 4 * (rradius_s1 r * rradius_s1 r) - rradius_s0 p a b c d e f
  e3' : aradius_s3 p a b c d e f r = rradius_s3 p a b c d e f r
  rr : 0 ≤ rradius_s1 r * rradius_s1 r ∧ rradius_s1 r * rradius_s1 r ≤ 1099511627776
theorem radP {p a b c d e f r : Int} (h1 : co a ∧ co b ∧ co c) (h2 : co d ∧ co e ∧ co f) (hr : (8 ≤ r ∧ r ≤ 1048576) ∨ (r ≤ -8 ∧ -1048576 ≤ r)) : RadP p a b c d e f r := by
  obtain ⟨a1, a2, a3⟩ := flat_co (p := p) h1
  obtain ⟨d1, d2, d3⟩ := flat_co (p := p) h2
  have e0 : minus_0 (flat_0 p d e f) (flat_0 p a b c) = flat_0 p d e f - flat_0 p a b c := minus_eq (by omega) (by omega)
  have e1 : minus_0 (flat_1 p d e f) (flat_1 p a b c) = flat_1 p d e f - flat_1 p a b c := minus_eq (by omega) (by omega)
  have b0 : bd 2097152 (flat_0 p d e f - flat_0 p a b c) := by omega
  have b1 : bd 2097152 (flat_1 p d e f - flat_1 p a b c) := by omega
  have sq : rradius_s0 p a b c d e f = (flat_0 p d e f - flat_0 p a b c) * (flat_0 p d e f - flat_0 p a b c) + (flat_1 p d e f - flat_1 p a b c) * (flat_1 p d e f - flat_1 p a b c) := by
    unfold rradius_s0
    rw [e0, e1, vinner_eq (by omega) (by omega) (by omega) (by omega)]
  have hs : rradius_s1 r = if r < 0 then -r else r := by
    unfold rradius_s1
    by_cases g : r < 0
    · rw [decide_eq_true g, cond_true, if_pos g, wrI (by omega) (by omega)]; omega
    · rw [decide_eq_false g, cond_false, if_neg g]
  have r1 : 8 ≤ rradius_s1 r ∧ rradius_s1 r ≤ 1048576 := by rw [hs]; split <;> omega
  have rr := prod_lt 1048576 1048576 (x := rradius_s1 r) (y := rradius_s1 r) ⟨by omega, r1.2⟩ ⟨by omega, r1.2⟩ (by omega)
  have tt := prod_lt 2097154 2097154 (x := 2 * rradius_s1 r + 2) (y := 2 * rradius_s1 r + 2) ⟨by omega, by omega⟩ ⟨by omega, by omega⟩ (by omega)
  have m0 := mul_bd b0 b0 (by omega) (by omega)
  have m1 := mul_bd b1 b1 (by omega) (by omega)
  have e2 : IntKind.i64.wrap (rradius_s2 r * rradius_s2 r) = (2 * rradius_s1 r + 2) * (2 * rradius_s1 r + 2) := by
    unfold rradius_s2
    rw [wrI (x := 2 * rradius_s1 r) (by omega) (by omega), wrI (x := 2 * rradius_s1 r + 2) (by omega) (by omega), wrI (by omega) (by omega)]
  have e3 : rradius_s3 p a b c d e f r = 4 * (rradius_s1 r * rradius_s1 r) - rradius_s0 p a b c d e f := by
    unfold rradius_s3
    rw [wrI (x := 4 * rradius_s1 r) (by omega) (by omega), Int.mul_assoc, wrI (x := 4 * (rradius_s1 r * rradius_s1 r)) (by omega) (by omega), wrI (by omega) (by omega)]
  refine ⟨sq, b0, b1, e0, e1, r1, e2, e3, ?_, rr⟩
  have es : vinner_0 (aradius_s0 p a b c d e f) (aradius_s1 p a b c d e f) (aradius_s0 p a b c d e f) (aradius_s1 p a b c d e f) = rradius_s0 p a b c d e f := rfl
  rw [e3]
  unfold aradius_s3
  rw [es]
  have er : r * r = rradius_s1 r * rradius_s1 r := by
    rw [hs]; split
    · rw [Int.neg_mul_neg]
    · rfl
  rw [wrI (x := 4 * r) (by omega) (by omega), Int.mul_assoc, er, wrI (x := 4 * (rradius_s1 r * rradius_s1 r)) (by omega) (by omega), wrI (by omega) (by omega)]
theorem radius_same (p a b c d e f di r : Int) : aradius_0 p a b c d e f di r = rradius_0 p a b c d e f di r ∧ aradius_1 p a b c d e f di r = rradius_1 p a b c d e f di r ∧ aradius_2 p a b c d e f di r = rradius_2 p a b c d e f di r ∧ aradius_3 p a b c d e f di r = rradius_3 p a b c d e f di r := by
  have ec : (!flat_3 p || !vwithin_0 a b c || !vwithin_0 d e f || di != 1 && di != -1 || decide (r > -8) && decide (r < 8) || decide (r < -1048576) || decide (r > 1048576)) = (!rplane_0 p || !vwithin_0 a b c || !vwithin_0 d e f || di != 1 && di != -1 || decide (r < 8) && decide (r > -8) || decide (r > 1048576) || decide (r < -1048576)) := by
    rw [plane_eq, Bool.and_comm (decide (r > -8)), Bool.or_right_comm]
  unfold aradius_0 aradius_1 aradius_2 aradius_3 rradius_0 rradius_1 rradius_2 rradius_3
  rw [ec]
  cases hc : (!rplane_0 p || !vwithin_0 a b c || !vwithin_0 d e f || di != 1 && di != -1 || decide (r < 8) && decide (r > -8) || decide (r > 1048576) || decide (r < -1048576))
  · simp only [Bool.or_eq_false_iff, Bool.not_eq_false', decide_eq_false_iff_not, Bool.and_eq_false_iff] at hc
    obtain ⟨⟨⟨⟨⟨⟨_, h1⟩, h2⟩, _⟩, h3⟩, h4⟩, h5⟩ := hc
    have P := radP (p := p) (r := r) (vw_iff.1 h1) (vw_iff.1 h2) (by omega)
    have es : vinner_0 (aradius_s0 p a b c d e f) (aradius_s1 p a b c d e f) (aradius_s0 p a b c d e f) (aradius_s1 p a b c d e f) = rradius_s0 p a b c d e f := rfl
    have e2 : aradius_s2 r = rradius_s2 r := rfl
    rw [es, e2]
    simp only [cond_false]
    cases hd : (rradius_s0 p a b c d e f == 0 || decide (rradius_s0 p a b c d e f > IntKind.i64.wrap (rradius_s2 r * rradius_s2 r)))
    · simp only [cond_false]
      simp only [Bool.or_eq_false_iff, decide_eq_false_iff_not, beq_eq_false_iff_ne, P.e2] at hd
      have hq := sq_nn (flat_0 p d e f - flat_0 p a b c) (flat_1 p d e f - flat_1 p a b c)
      rw [← P.sq] at hq
      have m0 := mul_bd P.b0 P.b0 (by omega) (by omega)
      have m1 := mul_bd P.b1 P.b1 (by omega) (by omega)
      have hs := P.sq
      have h5' : aradius_s5 p a b c d e f = 4 * rradius_s0 p a b c d e f := by
        unfold aradius_s5
        rw [es, wrI (by omega) (by omega)]
      have h5r : rradius_s5 p a b c d e f = 4 * rradius_s0 p a b c d e f := by
        unfold rradius_s5
        rw [wrI (by omega) (by omega)]
      have hm : ∃ n, (if 0 > rradius_s3 p a b c d e f r then 0 else rradius_s3 p a b c d e f r) = n ∧ 0 ≤ n ∧ n ≤ 4500000000000 := ⟨_, rfl, by split <;> omega, by have := P.e3; have := P.rr; split <;> omega⟩
      obtain ⟨n, hn, hn0, hn1⟩ := hm
      obtain ⟨g1, g2, g3, g4⟩ := root_lt hn0 hn1
      have hg : aradius_s4 p a b c d e f r = wSqrt_0 n 2 := by unfold aradius_s4; rw [P.e3', hn]
      have hg' : rradius_s4 p a b c d e f r = wSqrt_0 n 2 := by unfold rradius_s4; rw [hn, g4]
      have x0 : aradius_s0 p a b c d e f = flat_0 p d e f - flat_0 p a b c := P.e0
      have x1 : aradius_s1 p a b c d e f = flat_1 p d e f - flat_1 p a b c := P.e1
      have b0 := P.b0
      have b1 := P.b1
      have hov : ∀ x : Int, bd 2097152 x → wOver_0 x (wSqrt_0 n 2) (4 * rradius_s0 p a b c d e f) 2 = rOver_0 x (wSqrt_0 n 2) (4 * rradius_s0 p a b c d e f) 2 := fun x hx =>
        over_same ⟨by omega, by omega⟩ ⟨by omega, by omega⟩ (wsize_le (by omega)) (wsize_le (by omega)) (by omega)
      unfold acenter_0 acenter_1 acenter_2 acenter_3 rradius_s6 rradius_s7
      rw [h5', h5r, hg, hg', x0, x1, P.e0, P.e1, hov _ P.b0, hov _ P.b1]
      exact ⟨rfl, rfl, rfl, rfl⟩
    · simp only [cond_true, and_self]
  · simp only [cond_true, and_self]
end Go.Proofs.Ytkggdhnliiagjaa
