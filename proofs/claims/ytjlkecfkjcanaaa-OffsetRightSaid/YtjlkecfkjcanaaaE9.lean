/-
  RIGHT angles, plain laws: an offset's trimming at a right corner is exact. Conditions: bounds.
-/
import Derived.Test.YtjlkecfkjcanaaaE7
set_option linter.all false
namespace Go.Proofs.Ytjlkecfkjcanaaa
open Go.SX Go.RowKit
def unit2 (a b : Int) : Prop := (a = 1 ∧ b = 0) ∨ (a = 0 ∧ b = 1) ∨ (a = -1 ∧ b = 0) ∨ (a = 0 ∧ b = -1)
theorem sq_le_of {x y : Int} (hy : 0 ≤ y) (h : x * x ≤ y * y) : x ≤ y := le_of_sq hy h
theorem over_pm {n R z : Int} (hz : z = 1 ∨ z = -1) (hn : 1 ≤ n ∧ n ≤ 9000) (hR : bd 2000 R) : wOver_0 (n * z) R (n * n) 2 = z * R := by
  have hnn := prod_lt 9000 9000 (x := n) (y := n) (by omega) (by omega) (by omega)
  have hn2 : 1 ≤ n * n := Int.mul_le_mul hn.1 hn.1 (by omega) (by omega)
  obtain ⟨U, U0, u1, u2, U1, U2⟩ := over_abs (a := n * z) (g := R) (N := n * n) (by rcases hz with rfl | rfl <;> omega) (by omega) ⟨hn2, by omega⟩
  have e : n * z * R * (n * z * R) = R * R * (n * n) := by rcases hz with rfl | rfl <;> grind
  rw [e] at U1 U2
  obtain ⟨k, k0, k1, k2, k3⟩ := abs_ex R
  have hk : U = k := by
    rw [← k3] at U1 U2
    have dv : ∀ {x y : Int}, x * (n * n) ≤ y * (n * n) → x ≤ y := fun {x y} h => Int.le_of_mul_le_mul_right h (by omega)
    have a1 : 2 * k ≤ 2 * U + 1 := by
      refine le_of_sq (by omega) (dv ?_)
      have : 2 * k * (2 * k) * (n * n) = 4 * (k * k * (n * n)) := by grind
      omega
    have a2 : U ≤ k := by
      by_cases h : 1 ≤ U
      · have := le_of_sq (a := 2 * U - 1) (b := 2 * k) (by omega) (dv (by
          have : 2 * k * (2 * k) * (n * n) = 4 * (k * k * (n * n)) := by grind
          have := U1 h
          omega))
        omega
      · omega
    omega
  rw [hk] at u1 u2
  have hs : n * z * R = n * (z * R) := Int.mul_assoc _ _ _
  rw [hs] at u1 u2
  rcases Int.lt_or_le (z * R) 0 with h | h
  · rw [u2 (Int.mul_neg_of_pos_of_neg (by omega) h)]
    rcases hz with rfl | rfl <;> omega
  · rw [u1 (Int.mul_nonneg (by omega) h)]
    rcases hz with rfl | rfl <;> omega
theorem over_null {R N : Int} (hN : 1 ≤ N ∧ N ≤ 4611686018427387904) (hR : bd 2000 R) : wOver_0 0 R N 2 = 0 := by
  obtain ⟨U, U0, u1, u2, U1, U2⟩ := over_abs (a := 0) (g := R) (N := N) (by omega) (by omega) hN
  rw [Int.zero_mul] at u1 U1
  rw [u1 (by omega)]
  by_cases h : 1 ≤ U
  · have h1 := U1 h
    have h2 := sqm (x := 1) (y := 2 * U - 1) (n := N) (by omega) (by omega) (by omega)
    omega
  · omega
theorem nrm_unit {p0 p1 a b n R : Int} (hab : unit2 a b) (hn : 1 ≤ n ∧ n ≤ 9000) (hR : bd 2000 R) (h0 : bd 200000 p0) (h1 : bd 200000 p1) : onormal_0 p0 p1 (n * a) (n * b) R = p0 - b * R ∧ onormal_1 p0 p1 (n * a) (n * b) R = p1 + a * R := by
  have hnn := prod_lt 9000 9000 (x := n) (y := n) (by omega) (by omega) (by omega)
  have hn2 : 1 ≤ n * n := Int.mul_le_mul hn.1 hn.1 (by omega) (by omega)
  have oz : ∀ N, N = n * n → wOver_0 0 R N 2 = 0 := fun N h => by rw [h]; exact over_null ⟨hn2, by omega⟩ hR
  have op : ∀ x N, x = n → N = n * n → wOver_0 x R N 2 = R := fun x N hx h => by
    have := over_pm (z := 1) (.inl rfl) hn hR
    rw [Int.mul_one, Int.one_mul] at this
    rw [h, hx]; exact this
  have om : ∀ x N, x = -n → N = n * n → wOver_0 x R N 2 = -R := fun x N hx h => by
    have := over_pm (z := -1) (.inr rfl) hn hR
    rw [show n * -1 = -n by omega, show (-1 : Int) * R = -R by omega] at this
    rw [h, hx]; exact this
  obtain ⟨v1, v2, _⟩ := normal_val (p0 := p0) (p1 := p1) (t0 := n * a) (t1 := n * b) (r := R) (by rcases hab with ⟨rfl, rfl⟩ | ⟨rfl, rfl⟩ | ⟨rfl, rfl⟩ | ⟨rfl, rfl⟩ <;> omega) (by rcases hab with ⟨rfl, rfl⟩ | ⟨rfl, rfl⟩ | ⟨rfl, rfl⟩ | ⟨rfl, rfl⟩ <;> omega) (by rcases hab with ⟨rfl, rfl⟩ | ⟨rfl, rfl⟩ | ⟨rfl, rfl⟩ | ⟨rfl, rfl⟩ <;> omega) (by omega) (by omega) (by omega)
  have hN : n * a * (n * a) + n * b * (n * b) = n * n := by rcases hab with ⟨rfl, rfl⟩ | ⟨rfl, rfl⟩ | ⟨rfl, rfl⟩ | ⟨rfl, rfl⟩ <;> grind
  rw [hN] at v1 v2
  rw [v1, v2]
  rcases hab with ⟨rfl, rfl⟩ | ⟨rfl, rfl⟩ | ⟨rfl, rfl⟩ | ⟨rfl, rfl⟩
  · rw [show -(n * 0) = (0 : Int) by omega, oz _ rfl, op _ _ (by omega) rfl]; omega
  · rw [om _ _ (by omega) rfl, show n * 0 = (0 : Int) by omega, oz _ rfl]; omega
  · rw [show -(n * 0) = (0 : Int) by omega, oz _ rfl, om _ _ (by omega) rfl]; omega
  · rw [op _ _ (by omega) rfl, show n * 0 = (0 : Int) by omega, oz _ rfl]; omega
theorem line_ep {e0 e1 e2 e3 : Int} (c0 : bd 1000000 e0) (c1 : bd 1000000 e1) (c2 : bd 1000000 e2) (c3 : bd 1000000 e3) : EP e0 e1 e2 e3 0 0 0 := ⟨c0, c1, c2, c3, by omega, by omega, .inl rfl, fun h => absurd rfl h, fun h => absurd rfl h⟩
theorem line_ends {e0 e1 e2 e3 a b n R : Int} (hab : unit2 a b) (hn : 1 ≤ n ∧ n ≤ 9000) (hR : bd 2000 R) (h0 : bd 150000 e0) (h1 : bd 150000 e1) (h2 : e2 = e0 + n * a) (h3 : e3 = e1 + n * b) :
    oends_4 e0 e1 e2 e3 0 0 0 R = 0 ∧ oends_0 e0 e1 e2 e3 0 0 0 R = e0 - b * R ∧ oends_1 e0 e1 e2 e3 0 0 0 R = e1 + a * R ∧ oends_2 e0 e1 e2 e3 0 0 0 R = e2 - b * R ∧ oends_3 e0 e1 e2 e3 0 0 0 R = e3 + a * R := by
  have b2 : bd 160000 e2 := by rcases hab with ⟨rfl, rfl⟩ | ⟨rfl, rfl⟩ | ⟨rfl, rfl⟩ | ⟨rfl, rfl⟩ <;> omega
  have b3 : bd 160000 e3 := by rcases hab with ⟨rfl, rfl⟩ | ⟨rfl, rfl⟩ | ⟨rfl, rfl⟩ | ⟨rfl, rfl⟩ <;> omega
  have ba : bd 2000 (a * R) := by rcases hab with ⟨rfl, rfl⟩ | ⟨rfl, rfl⟩ | ⟨rfl, rfl⟩ | ⟨rfl, rfl⟩ <;> omega
  have bb : bd 2000 (b * R) := by rcases hab with ⟨rfl, rfl⟩ | ⟨rfl, rfl⟩ | ⟨rfl, rfl⟩ | ⟨rfl, rfl⟩ <;> omega
  have E := line_ep (e0 := e0) (e1 := e1) (e2 := e2) (e3 := e3) (by omega) (by omega) (by omega) (by omega)
  have m0 : minus_0 e2 e0 = n * a := by rw [minus_eq (by omega) (by omega)]; omega
  have m1 : minus_0 e3 e1 = n * b := by rw [minus_eq (by omega) (by omega)]; omega
  have t0 : ∀ w, rtang_0 e0 e1 e2 e3 0 0 w = n * a := fun w => by show minus_0 e2 e0 = _; exact m0
  have t1 : ∀ w, rtang_1 e0 e1 e2 e3 0 0 w = n * b := fun w => by show minus_0 e3 e1 = _; exact m1
  obtain ⟨p0, p1⟩ := nrm_unit (p0 := e0) (p1 := e1) hab hn hR (by omega) (by omega)
  obtain ⟨p2, p3⟩ := nrm_unit (p0 := e2) (p1 := e3) hab hn hR (by omega) (by omega)
  have z : oends_4 e0 e1 e2 e3 0 0 0 R = 0 := by
    obtain ⟨s0, s1⟩ := tang_same false E.dir E.c0 E.c1 E.c2 E.c3 E.c4 E.c5
    obtain ⟨s2, s3⟩ := tang_same true E.dir E.c0 E.c1 E.c2 E.c3 E.c4 E.c5
    have e : oends_4 e0 e1 e2 e3 0 0 0 R = oends_s9 e0 e1 e2 e3 0 0 0 R := rfl
    have q : ∀ {x : Int}, bd 1048576 x → oin_0 x 1048576 = true := fun h => (oin_iff (by omega) (by omega)).2 h
    rw [e]
    unfold oends_s9
    rw [s0, s1, s2, s3, t0, t1, t0, t1, p0, p1, p2, p3, q (by omega), q (by omega), q (by omega), q (by omega)]
    rfl
  obtain ⟨n0, n1, n2, n3, _⟩ := ends_ok E z
  rw [t0, t1] at n0 n1 n2 n3
  exact ⟨z, by rw [n0, p0], by rw [n1, p1], by rw [n2, p2], by rw [n3, p3]⟩
theorem sq_iff {r k : Int} (hr : 0 ≤ r) (hk : 0 ≤ k) {N : Int} (hN : 0 < N) : r * r * N ≤ k * k * N ↔ r ≤ k := by
  constructor
  · intro h
    exact le_of_sq hk (Int.le_of_mul_le_mul_right h hN)
  · intro h
    exact Int.mul_le_mul_of_nonneg_right (sq_le hr h) (by omega)
/-- A point beside the first piece. -/
theorem right_clear {P0 P1 J0 J1 a b s n r R k y0 y1 : Int} (hab : unit2 a b) (hs : s = 1 ∨ s = -1) (hn : 1 ≤ n ∧ n ≤ 9000) (hr : 1 ≤ r ∧ r ≤ 2000) (hR : R = s * r) (h0 : bd 100000 P0) (h1 : bd 100000 P1) (hJ0 : J0 = P0 + n * a) (hJ1 : J1 = P1 + n * b) (hk : 0 ≤ k ∧ k ≤ 9000) (hy0 : y0 = J0 - r * a + k * (-(s * b))) (hy1 : y1 = J1 - r * b + k * (s * a)) :
    oclear_0 P0 P1 J0 J1 0 0 0 y0 y1 R = decide (r ≤ k) := by
  have hnn : 0 < n * n := Int.mul_pos (by omega) (by omega)
  have q := sq_iff (r := r) (k := k) (by omega) hk.1 hnn
  have hnk := Int.mul_nonneg (show 0 ≤ n by omega) hk.1
  have d0 : J0 - P0 = n * a := by omega
  have d1 : J1 - P1 = n * b := by omega
  have bJ0 : bd 1000000 J0 := by rcases hab with ⟨rfl, rfl⟩ | ⟨rfl, rfl⟩ | ⟨rfl, rfl⟩ | ⟨rfl, rfl⟩ <;> omega
  have bJ1 : bd 1000000 J1 := by rcases hab with ⟨rfl, rfl⟩ | ⟨rfl, rfl⟩ | ⟨rfl, rfl⟩ | ⟨rfl, rfl⟩ <;> omega
  have by0 : bd 1100000 y0 := by rcases hab with ⟨rfl, rfl⟩ | ⟨rfl, rfl⟩ | ⟨rfl, rfl⟩ | ⟨rfl, rfl⟩ <;> rcases hs with rfl | rfl <;> omega
  have by1 : bd 1100000 y1 := by rcases hab with ⟨rfl, rfl⟩ | ⟨rfl, rfl⟩ | ⟨rfl, rfl⟩ | ⟨rfl, rfl⟩ <;> rcases hs with rfl | rfl <;> omega
  have bR : bd 40000 R := by rcases hs with rfl | rfl <;> omega
  rw [clear_line 0 0 (by omega) (by omega) bJ0 bJ1 by0 by1 bR, d0, d1]
  have eN : n * a * (n * a) + n * b * (n * b) = n * n := by rcases hab with ⟨rfl, rfl⟩ | ⟨rfl, rfl⟩ | ⟨rfl, rfl⟩ | ⟨rfl, rfl⟩ <;> grind
  have f0 : y0 - P0 = (n - r) * a - k * (s * b) := by rw [hy0, hJ0]; grind
  have f1 : y1 - P1 = (n - r) * b + k * (s * a) := by rw [hy1, hJ1]; grind
  have eX : n * a * (y1 - P1) - n * b * (y0 - P0) = s * (n * k) := by
    rw [f0, f1]
    rcases hab with ⟨rfl, rfl⟩ | ⟨rfl, rfl⟩ | ⟨rfl, rfl⟩ | ⟨rfl, rfl⟩ <;> grind
  rw [eN, eX]
  have eRR : R * R = r * r := by rw [hR]; rcases hs with rfl | rfl <;> grind
  have eXX : s * (n * k) * (s * (n * k)) = k * k * (n * n) := by rcases hs with rfl | rfl <;> grind
  rw [eRR, eXX]
  have sg : (0 ≤ R ∧ 0 ≤ s * (n * k) ∨ R < 0 ∧ s * (n * k) ≤ 0) := by
    generalize n * k = x at *
    rcases hs with rfl | rfl <;> omega
  rw [decide_eq_decide]
  exact ⟨fun h => q.1 h.2, fun h => ⟨sg, q.2 h⟩⟩
/-- What is found on the second piece. -/
theorem right_found {P0 P1 J0 J1 a b s n m r R : Int} (hab : unit2 a b) (hs : s = 1 ∨ s = -1) (hn : 1 ≤ n ∧ n ≤ 9000) (hr : 1 ≤ r ∧ r ≤ 2000) (hm : r < m ∧ m ≤ 9000) (hR : R = s * r) (h0 : bd 100000 P0) (h1 : bd 100000 P1) (hJ0 : J0 = P0 + n * a) (hJ1 : J1 = P1 + n * b) :
    straight_0 (J0 - r * a) (J1 - r * b) (J0 - r * a + m * (-(s * b))) (J1 - r * b + m * (s * a)) P0 P1 J0 J1 0 0 0 false R = J0 - r * a + r * (-(s * b)) ∧ straight_1 (J0 - r * a) (J1 - r * b) (J0 - r * a + m * (-(s * b))) (J1 - r * b + m * (s * a)) P0 P1 J0 J1 0 0 0 false R = J1 - r * b + r * (s * a) := by
  have b0 : bd 1048576 (J0 - r * a) := by rcases hab with ⟨rfl, rfl⟩ | ⟨rfl, rfl⟩ | ⟨rfl, rfl⟩ | ⟨rfl, rfl⟩ <;> omega
  have b1 : bd 1048576 (J1 - r * b) := by rcases hab with ⟨rfl, rfl⟩ | ⟨rfl, rfl⟩ | ⟨rfl, rfl⟩ | ⟨rfl, rfl⟩ <;> omega
  have b2 : bd 1048576 (J0 - r * a + m * (-(s * b))) := by rcases hab with ⟨rfl, rfl⟩ | ⟨rfl, rfl⟩ | ⟨rfl, rfl⟩ | ⟨rfl, rfl⟩ <;> rcases hs with rfl | rfl <;> omega
  have b3 : bd 1048576 (J1 - r * b + m * (s * a)) := by rcases hab with ⟨rfl, rfl⟩ | ⟨rfl, rfl⟩ | ⟨rfl, rfl⟩ | ⟨rfl, rfl⟩ <;> rcases hs with rfl | rfl <;> omega
  obtain ⟨en, n0, n1, n2, n3⟩ := found_n b0 b1 b2 b3
  have nv : found_n_ (J0 - r * a) (J1 - r * b) (J0 - r * a + m * (-(s * b))) (J1 - r * b + m * (s * a)) = m := by
    clear n0 n1 n2 n3 en
    unfold found_n_
    generalize J0 - r * a = x
    generalize J1 - r * b = y
    rw [show x + m * (-(s * b)) - x = m * (-(s * b)) by omega, show y + m * (s * a) - y = m * (s * a) by omega]
    rcases hab with ⟨rfl, rfl⟩ | ⟨rfl, rfl⟩ | ⟨rfl, rfl⟩ | ⟨rfl, rfl⟩ <;> rcases hs with rfl | rfl <;> (repeat' split) <;> omega
  rw [nv] at en n2 n3
  have hc : ∀ k, 0 ≤ k → k ≤ m → stP (J0 - r * a) (J1 - r * b) (J0 - r * a + m * (-(s * b)) - (J0 - r * a)) (J1 - r * b + m * (s * a) - (J1 - r * b)) m P0 P1 J0 J1 0 0 0 R k = decide (r ≤ k) ∧ addpt_0 (J0 - r * a) (muldiv_0 (J0 - r * a + m * (-(s * b)) - (J0 - r * a)) k m 2) = J0 - r * a + k * (-(s * b)) ∧ addpt_0 (J1 - r * b) (muldiv_0 (J1 - r * b + m * (s * a) - (J1 - r * b)) k m 2) = J1 - r * b + k * (s * a) := fun k k0 k1 => by
    have ev : ∀ z x : Int, (2 * (x + m * z - x) * k + m) / (2 * m) = k * z := fun z x => ediv_of (r := m) (by omega) (by omega) (by omega) (by rw [show x + m * z - x = m * z by omega]; grind)
    have g0 := (pt_same b0 n2 ⟨k0, k1⟩ (by omega)).2
    have g1 := (pt_same b1 n3 ⟨k0, k1⟩ (by omega)).2
    rw [ev] at g0 g1
    refine ⟨?_, g0, g1⟩
    unfold stP
    rw [g0, g1]
    exact right_clear hab hs hn hr hR h0 h1 hJ0 hJ1 ⟨k0, by omega⟩ rfl rfl
  have fv : (stF (J0 - r * a) (J1 - r * b) (J0 - r * a + m * (-(s * b)) - (J0 - r * a)) (J1 - r * b + m * (s * a) - (J1 - r * b)) m P0 P1 J0 J1 0 0 0 false R).fin (bs0 m) = r := by
    show bs _ (m - 0).toNat 0 m = r
    exact bs_thr (fun k h1 h2 => (hc k h1 h2).1) _ 0 m (by omega) (by omega) (by omega) (by omega) (by omega)
  have d0 : minus_0 (J0 - r * a + m * (-(s * b))) (J0 - r * a) = J0 - r * a + m * (-(s * b)) - (J0 - r * a) := minus_eq (by omega) (by omega)
  have d1 : minus_0 (J1 - r * b + m * (s * a)) (J1 - r * b) = J1 - r * b + m * (s * a) - (J1 - r * b) := minus_eq (by omega) (by omega)
  unfold straight_0 straight_1
  rw [en, d0, d1, fv]
  obtain ⟨_, g0, g1⟩ := hc r (by omega) (by omega)
  exact ⟨g0, g1⟩
/-- The trimming at a right angle. -/
theorem right_trim {P0 P1 J0 J1 T0 T1 a b s n m r R : Int} (hab : unit2 a b) (hs : s = 1 ∨ s = -1) (hr : 1 ≤ r ∧ r ≤ 2000) (hn : r < n ∧ n ≤ 9000) (hm : r < m ∧ m ≤ 9000) (hR : R = s * r) (h0 : bd 100000 P0) (h1 : bd 100000 P1) (hJ0 : J0 = P0 + n * a) (hJ1 : J1 = P1 + n * b) (hT0 : T0 = J0 + m * (-(s * b))) (hT1 : T1 = J1 + m * (s * a)) :
    trim_2 P0 P1 J0 J1 0 0 0 false J0 J1 T0 T1 0 0 0 false R = 0 ∧ trim_0 P0 P1 J0 J1 0 0 0 false J0 J1 T0 T1 0 0 0 false R = J0 - r * a + r * (-(s * b)) ∧ trim_1 P0 P1 J0 J1 0 0 0 false J0 J1 T0 T1 0 0 0 false R = J1 - r * b + r * (s * a) := by
  have bR : bd 2000 R := by rcases hs with rfl | rfl <;> omega
  have bJ0 : bd 110000 J0 := by rcases hab with ⟨rfl, rfl⟩ | ⟨rfl, rfl⟩ | ⟨rfl, rfl⟩ | ⟨rfl, rfl⟩ <;> omega
  have bJ1 : bd 110000 J1 := by rcases hab with ⟨rfl, rfl⟩ | ⟨rfl, rfl⟩ | ⟨rfl, rfl⟩ | ⟨rfl, rfl⟩ <;> omega
  have hcd : unit2 (-(s * b)) (s * a) := by unfold unit2 at *; rcases hs with rfl | rfl <;> omega
  obtain ⟨x4, x0, x1, x2, x3⟩ := line_ends (R := R) hab (show 1 ≤ n ∧ n ≤ 9000 by omega) bR (by omega) (by omega) hJ0 hJ1
  obtain ⟨y4, y0, y1, y2, y3⟩ := line_ends (R := R) hcd (show 1 ≤ m ∧ m ≤ 9000 by omega) bR (by omega) (by omega) hT0 hT1
  have ea : s * a * R = r * a := by rw [hR]; rcases hs with rfl | rfl <;> grind
  have eb : -(s * b) * R = -(r * b) := by rw [hR]; rcases hs with rfl | rfl <;> grind
  rw [ea] at y0 y2
  rw [eb] at y1 y3
  have q1 : J1 + -(r * b) = J1 - r * b := by omega
  have q2 : T0 - r * a = J0 - r * a + m * (-(s * b)) := by omega
  have q3 : T1 + -(r * b) = J1 - r * b + m * (s * a) := by omega
  rw [q1] at y1
  rw [q2] at y2
  rw [q3] at y3
  obtain ⟨f0, f1⟩ := right_found hab hs (show 1 ≤ n ∧ n ≤ 9000 by omega) hr hm hR h0 h1 hJ0 hJ1
  have s0 : trim_s0 P0 P1 J0 J1 0 0 0 false J0 J1 T0 T1 0 0 0 false R = J0 - r * a + r * (-(s * b)) := by
    show straight_0 (oends_0 J0 J1 T0 T1 0 0 0 R) (oends_1 J0 J1 T0 T1 0 0 0 R) (oends_2 J0 J1 T0 T1 0 0 0 R) (oends_3 J0 J1 T0 T1 0 0 0 R) P0 P1 J0 J1 0 0 0 false R = _
    rw [y0, y1, y2, y3]; exact f0
  have s1 : trim_s1 P0 P1 J0 J1 0 0 0 false J0 J1 T0 T1 0 0 0 false R = J1 - r * b + r * (s * a) := by
    show straight_1 (oends_0 J0 J1 T0 T1 0 0 0 R) (oends_1 J0 J1 T0 T1 0 0 0 R) (oends_2 J0 J1 T0 T1 0 0 0 R) (oends_3 J0 J1 T0 T1 0 0 0 R) P0 P1 J0 J1 0 0 0 false R = _
    rw [y0, y1, y2, y3]; exact f1
  have hc : oclear_0 P0 P1 J0 J1 0 0 0 (oends_2 J0 J1 T0 T1 0 0 0 R) (oends_3 J0 J1 T0 T1 0 0 0 R) R = true := by
    rw [y2, y3, right_clear hab hs (show 1 ≤ n ∧ n ≤ 9000 by omega) hr hR h0 h1 hJ0 hJ1 (show 0 ≤ m ∧ m ≤ 9000 by omega) rfl rfl]
    exact decide_eq_true (by omega)
  have c0 : bd 120000 (J0 - r * a + r * (-(s * b))) := by rcases hab with ⟨rfl, rfl⟩ | ⟨rfl, rfl⟩ | ⟨rfl, rfl⟩ | ⟨rfl, rfl⟩ <;> rcases hs with rfl | rfl <;> omega
  have c1 : bd 120000 (J1 - r * b + r * (s * a)) := by rcases hab with ⟨rfl, rfl⟩ | ⟨rfl, rfl⟩ | ⟨rfl, rfl⟩ | ⟨rfl, rfl⟩ <;> rcases hs with rfl | rfl <;> omega
  have q : ∀ {x : Int}, bd 1048576 x → oin_0 x 1048576 = true := fun h => (oin_iff (by omega) (by omega)).2 h
  have ha : ahead_0 P0 P1 J0 J1 0 0 0 false (J0 - r * a + r * (-(s * b))) (J1 - r * b + r * (s * a)) (P0 - b * R) (P1 + a * R) = true := by
    have e1 : b * R = r * (s * b) := by rw [hR]; grind
    have e2 : a * R = r * (s * a) := by rw [hR]; grind
    have bb : bd 2000 (b * R) := by rcases hab with ⟨rfl, rfl⟩ | ⟨rfl, rfl⟩ | ⟨rfl, rfl⟩ | ⟨rfl, rfl⟩ <;> omega
    have ba : bd 2000 (a * R) := by rcases hab with ⟨rfl, rfl⟩ | ⟨rfl, rfl⟩ | ⟨rfl, rfl⟩ | ⟨rfl, rfl⟩ <;> omega
    show decide (vinner_0 (minus_0 (J0 - r * a + r * (-(s * b))) (P0 - b * R)) (minus_0 (J1 - r * b + r * (s * a)) (P1 + a * R)) (minus_0 J0 P0) (minus_0 J1 P1) > 0) = true
    rw [minus_eq (a := J0 - r * a + r * (-(s * b))) (by omega) (by omega), minus_eq (a := J1 - r * b + r * (s * a)) (by omega) (by omega), minus_eq (a := J0) (by omega) (by omega), minus_eq (a := J1) (by omega) (by omega), vinner_eq (by omega) (by omega) (by omega) (by omega)]
    have g0 : J0 - r * a + r * (-(s * b)) - (P0 - b * R) = (n - r) * a := by rw [hJ0, e1]; grind
    have g1 : J1 - r * b + r * (s * a) - (P1 + a * R) = (n - r) * b := by rw [hJ1, e2]; grind
    rw [g0, g1, show J0 - P0 = n * a by omega, show J1 - P1 = n * b by omega]
    have hp := Int.mul_pos (show 0 < n - r by omega) (show 0 < n by omega)
    have : (n - r) * a * (n * a) + (n - r) * b * (n * b) = (n - r) * n := by rcases hab with ⟨rfl, rfl⟩ | ⟨rfl, rfl⟩ | ⟨rfl, rfl⟩ | ⟨rfl, rfl⟩ <;> grind
    rw [this]
    exact decide_eq_true hp
  unfold trim_2 trim_0 trim_1
  rw [x4, y4, hc, s0, s1, x0, x1, ha, q (by omega), q (by omega)]
  exact ⟨rfl, rfl, rfl⟩
end Go.Proofs.Ytjlkecfkjcanaaa
