/-
  CUTTER: the conditions of each Push along a rectangle hold. Conditions: bounds.
-/
import Derived.Test.YthgiaoidekdpfaaGreatPU1
import Derived.Test.YthgiaoidekdpfaaGreatPU3
import Derived.Test.YthgiaoidekdpfaaGreatPU4
import Derived.Test.YthgiaoidekdpfaaGreatPU6
import Derived.Test.YthgiaoidekdpfaaGreatFL
set_option linter.all false
namespace Go.Proofs.YthgiaoidekdpfaaGreat
open Go.SX Go.RowKit
theorem fl0 (x y z : Int) : flat_0 17 x y z = x := rfl
theorem fl1 (x y z : Int) : flat_1 17 x y z = y := rfl
theorem fl2 (x y z : Int) : flat_2 17 x y z = z := rfl
theorem so0 (x y z : Int) : solid_0 17 x y z = x := rfl
theorem so1 (x y z : Int) : solid_1 17 x y z = y := rfl
theorem so2 (x y z : Int) : solid_2 17 x y z = z := rfl
theorem vw {a b : Int} (ha : bd 100000 a) (hb : bd 100000 b) : vwithin_0 a b 0 = true := by
  unfold vwithin_0
  simp only [Bool.and_eq_true, decide_eq_true_eq]
  omega
theorem rad {r : Int} (hr : 8 ≤ r ∧ r ≤ 900) : (true && decide (r ≥ 0) && decide (r ≤ 32768)) = true := by
  simp only [Bool.and_eq_true, decide_eq_true_eq, true_and]; omega
/-- A lead is as long as the radius asks. -/
theorem lead_sq {x y u v r : Int} (hx : bd 100000 x) (hy : bd 100000 y) (hu : bd 100000 u) (hv : bd 100000 v) (hr : 8 ≤ r ∧ r ≤ 900) (h : (u - x) * (u - x) + (v - y) * (v - y) = 4 * (r * r)) :
    (flat_2 17 x y 0 == flat_2 17 u v 0 && decide (vinner_0 (IntKind.i64.wrap (flat_0 17 u v 0 - flat_0 17 x y 0)) (IntKind.i64.wrap (flat_1 17 u v 0 - flat_1 17 x y 0)) (IntKind.i64.wrap (flat_0 17 u v 0 - flat_0 17 x y 0)) (IntKind.i64.wrap (flat_1 17 u v 0 - flat_1 17 x y 0)) > 0) &&
      decide (vinner_0 (IntKind.i64.wrap (flat_0 17 u v 0 - flat_0 17 x y 0)) (IntKind.i64.wrap (flat_1 17 u v 0 - flat_1 17 x y 0)) (IntKind.i64.wrap (flat_0 17 u v 0 - flat_0 17 x y 0)) (IntKind.i64.wrap (flat_1 17 u v 0 - flat_1 17 x y 0)) ≥ IntKind.i64.wrap (r * r))) = true := by
  rw [fl0, fl0, fl1, fl1, fl2, fl2, wrI (x := u - x) (by omega) (by omega), wrI (x := v - y) (by omega) (by omega), vinner_eq (by omega) (by omega) (by omega) (by omega), h]
  have h1 : 64 ≤ r * r := Int.mul_le_mul hr.1 hr.1 (by omega) (by omega)
  have h2 : r * r ≤ 810000 := Int.mul_le_mul hr.2 hr.2 (by omega) (by omega)
  rw [wrI (x := r * r) (by omega) (by omega)]
  generalize r * r = s at *
  simp only [beq_self_eq_true, Bool.true_and, Bool.and_eq_true, decide_eq_true_eq]
  omega
theorem u1_nd {x y u v r : Int} (hx : bd 50000 x) (hy : bd 50000 y) (hr : 8 ≤ r ∧ r ≤ 900) (hu : u = x) (hv : v = y + 2 * r) : ∀ q ∈ u1_needs x y u v r, q := by
  unfold u1_needs u1_s0 u1_s1
  simp only [List.forall_mem_cons, List.not_mem_nil, false_implies, implies_true, and_true]
  refine ⟨?_, ?_⟩
  · rw [vw (by omega) (by omega), vw (by omega) (by omega), rad hr]; rfl
  · rw [lead_sq (by omega) (by omega) (by omega) (by omega) hr (by rw [hu, hv, show x - x = 0 by omega, show y + 2 * r - y = 2 * r by omega]; grind)]; rfl
theorem one_mul_wr {r : Int} (hr : 8 ≤ r ∧ r ≤ 900) : IntKind.i64.wrap (1 * r) = r := by rw [Int.one_mul]; exact wrI (by omega) (by omega)
theorem unit_ne {x y u v a b n : Int} (hab : unit2 a b) (hn : 1 ≤ n) (hu : u = x + n * a) (hv : v = y + n * b) : (x == u && y == v) = false := by
  rw [Bool.and_eq_false_iff, beq_eq_false_iff_ne, beq_eq_false_iff_ne]
  rcases hab with ⟨rfl, rfl⟩ | ⟨rfl, rfl⟩ | ⟨rfl, rfl⟩ | ⟨rfl, rfl⟩ <;> omega
theorem u2_nd {x y u v r lr q0 q1 a b n : Int} (hab : unit2 a b) (hn : 1 ≤ n ∧ n ≤ 9000) (hx : bd 50000 x) (hy : bd 50000 y) (hr : 8 ≤ r ∧ r ≤ 900) (hl : lr = r) (h0 : q0 = x) (h1 : q1 = y) (hu : u = x + n * a) (hv : v = y + n * b) : ∀ q ∈ u2_needs x y u v r lr q0 q1, q := by
  have bu : bd 60000 u := by rcases hab with ⟨rfl, rfl⟩ | ⟨rfl, rfl⟩ | ⟨rfl, rfl⟩ | ⟨rfl, rfl⟩ <;> omega
  have bv : bd 60000 v := by rcases hab with ⟨rfl, rfl⟩ | ⟨rfl, rfl⟩ | ⟨rfl, rfl⟩ | ⟨rfl, rfl⟩ <;> omega
  subst hl; subst h0; subst h1
  unfold u2_needs
  simp only [List.forall_mem_cons, List.not_mem_nil, false_implies, implies_true, and_true, fl0, fl1]
  refine ⟨?_, by simp, by simp, ?_, ?_⟩
  · rw [vw (by omega) (by omega), vw (by omega) (by omega), rad hr]; rfl
  · rw [unit_ne hab hn.1 hu hv]; rfl
  · rw [one_mul_wr hr, (unit_ends (R := lr) hab hn (by omega) (by omega) (by omega) hu hv).1]; rfl
/-- The lead-out. -/
theorem u6_nd {x y u v lr ix iy iu iv a0 a1 q0 q1 a b n t : Int} (hab : unit2 a b) (hn : 1 ≤ n ∧ n ≤ 9000) (hx : bd 50000 ix) (hy : bd 50000 iy) (hr : 8 ≤ lr ∧ lr ≤ 900) (hu : iu = ix + n * a) (hv : iv = iy + n * b) (ht : 0 ≤ t ∧ t < n)
    (ha0 : a0 = ix + t * a - b * lr) (ha1 : a1 = iy + t * b + a * lr) (h0 : q0 = x) (h1 : q1 = y) (hx' : x = iu) (hy' : y = iv) (hu' : u = x - 2 * lr) (hv' : v = y) : ∀ q ∈ u6_needs x y u v lr ix iy iu iv a0 a1 q0 q1, q := by
  have bu : bd 60000 iu := by rcases hab with ⟨rfl, rfl⟩ | ⟨rfl, rfl⟩ | ⟨rfl, rfl⟩ | ⟨rfl, rfl⟩ <;> omega
  have bv : bd 60000 iv := by rcases hab with ⟨rfl, rfl⟩ | ⟨rfl, rfl⟩ | ⟨rfl, rfl⟩ | ⟨rfl, rfl⟩ <;> omega
  have b0 : bd 70000 a0 := by rcases hab with ⟨rfl, rfl⟩ | ⟨rfl, rfl⟩ | ⟨rfl, rfl⟩ | ⟨rfl, rfl⟩ <;> omega
  have b1 : bd 70000 a1 := by rcases hab with ⟨rfl, rfl⟩ | ⟨rfl, rfl⟩ | ⟨rfl, rfl⟩ | ⟨rfl, rfl⟩ <;> omega
  obtain ⟨e4, _, _, e2, e3⟩ := unit_ends (R := lr) hab hn (show bd 2000 lr by omega) (by omega) (by omega) hu hv
  rw [h0, h1]
  clear h0 h1
  have s2 : u6_s2 lr ix iy iu iv = iu - b * lr := by unfold u6_s2; rw [fl0, fl0, fl1, fl1, one_mul_wr hr]; exact e2
  have s3 : u6_s3 lr ix iy iu iv = iv + a * lr := by unfold u6_s3; rw [fl0, fl0, fl1, fl1, one_mul_wr hr]; exact e3
  have w0 : iu - b * lr - a0 = (n - t) * a := by rw [ha0, hu]; grind
  have w1 : iv + a * lr - a1 = (n - t) * b := by rw [ha1, hv]; grind
  have bb : bd 2000 (b * lr) := by rcases hab with ⟨rfl, rfl⟩ | ⟨rfl, rfl⟩ | ⟨rfl, rfl⟩ | ⟨rfl, rfl⟩ <;> omega
  have ba : bd 2000 (a * lr) := by rcases hab with ⟨rfl, rfl⟩ | ⟨rfl, rfl⟩ | ⟨rfl, rfl⟩ | ⟨rfl, rfl⟩ <;> omega
  have s4 : u6_s4 lr ix iy iu iv a0 a1 = (n - t) * n := by
    unfold u6_s4
    rw [s2, s3, fl0, fl0, fl1, fl1, wrI (x := iu - b * lr - a0) (by omega) (by omega), wrI (x := iv + a * lr - a1) (by omega) (by omega), wrI (x := iu - ix) (by omega) (by omega), wrI (x := iv - iy) (by omega) (by omega), w0, w1, show iu - ix = n * a by omega, show iv - iy = n * b by omega]
    have c0 : bd 20000 ((n - t) * a) := by rcases hab with ⟨rfl, rfl⟩ | ⟨rfl, rfl⟩ | ⟨rfl, rfl⟩ | ⟨rfl, rfl⟩ <;> omega
    have c1 : bd 20000 ((n - t) * b) := by rcases hab with ⟨rfl, rfl⟩ | ⟨rfl, rfl⟩ | ⟨rfl, rfl⟩ | ⟨rfl, rfl⟩ <;> omega
    have c2 : bd 20000 (n * a) := by rcases hab with ⟨rfl, rfl⟩ | ⟨rfl, rfl⟩ | ⟨rfl, rfl⟩ | ⟨rfl, rfl⟩ <;> omega
    have c3 : bd 20000 (n * b) := by rcases hab with ⟨rfl, rfl⟩ | ⟨rfl, rfl⟩ | ⟨rfl, rfl⟩ | ⟨rfl, rfl⟩ <;> omega
    rw [vinner_eq (by omega) (by omega) (by omega) (by omega)]
    rcases hab with ⟨rfl, rfl⟩ | ⟨rfl, rfl⟩ | ⟨rfl, rfl⟩ | ⟨rfl, rfl⟩ <;> grind
  have hp := Int.mul_pos (show 0 < n - t by omega) (show 0 < n by omega)
  unfold u6_needs u6_s0 u6_s1
  simp only [List.forall_mem_cons, List.not_mem_nil, false_implies, implies_true, and_true]
  refine ⟨?_, by simp, ?_, ?_, ?_, ?_⟩
  · rw [vw (by omega) (by omega), vw (by omega) (by omega)]; rfl
  · rw [lead_sq (by omega) (by omega) (by omega) (by omega) hr (by rw [show u - _ = -(2 * lr) by omega, show v - _ = 0 by omega]; grind)]; rfl
  · rw [fl0, fl0, fl1, fl1, one_mul_wr hr, e4]; rfl
  · rw [s4]; exact decide_eq_false (by omega)
  · rw [s2, s3, fl2, fl2, so0, so0, so1, so1, so2, so2]
    have : (a0 == iu - b * lr && a1 == iv + a * lr) = false := unit_ne (n := n - t) hab (by omega) (by omega) (by omega)
    rw [← Bool.and_assoc, this]; rfl
section
variable {ix iy iu iv u v a0 a1 a b n m t r : Int} (hab : unit2 a b) (hr : 8 ≤ r ∧ r ≤ 900) (hn : r + t < n ∧ n ≤ 9000) (hm : r < m ∧ m ≤ 9000) (ht : 0 ≤ t ∧ t ≤ 9000) (hx : bd 50000 ix) (hy : bd 50000 iy)
  (hu : iu = ix + n * a) (hv : iv = iy + n * b) (hu' : u = iu - m * b) (hv' : v = iv + m * a) (ha0 : a0 = ix + t * a - b * r) (ha1 : a1 = iy + t * b + a * r)
include hab hr hn hm ht hx hy hu hv hu' hv'
theorem turn_bd : bd 60000 iu ∧ bd 60000 iv ∧ bd 70000 u ∧ bd 70000 v ∧ bd 900 (r * a) ∧ bd 900 (r * b) ∧ bd 9000 (n * a) ∧ bd 9000 (n * b) ∧ bd 9000 (m * a) ∧ bd 9000 (m * b) := by
  rcases hab with ⟨rfl, rfl⟩ | ⟨rfl, rfl⟩ | ⟨rfl, rfl⟩ | ⟨rfl, rfl⟩ <;> omega
theorem turn_ends : oends_4 ix iy iu iv 0 0 0 r = 0 ∧ oends_0 ix iy iu iv 0 0 0 r = ix - b * r ∧ oends_1 ix iy iu iv 0 0 0 r = iy + a * r ∧
    oends_4 iu iv u v 0 0 0 r = 0 ∧ oends_0 iu iv u v 0 0 0 r = iu - r * a ∧ oends_1 iu iv u v 0 0 0 r = iv - r * b ∧ oends_2 iu iv u v 0 0 0 r = iu - r * a + m * (-(1 * b)) ∧ oends_3 iu iv u v 0 0 0 r = iv - r * b + m * (1 * a) := by
  obtain ⟨b1, b2, b3, b4, b5, b6, b7, b8, b9, b10⟩ := turn_bd hab hr hn hm ht hx hy hu hv hu' hv'
  have hcd : unit2 (-b) a := by unfold unit2 at *; omega
  obtain ⟨x4, x0, x1, _, _⟩ := unit_ends (R := r) hab (show 1 ≤ n ∧ n ≤ 9000 by omega) (show bd 2000 r by omega) (show bd 150000 ix by omega) (show bd 150000 iy by omega) hu hv
  obtain ⟨y4, y0, y1, y2, y3⟩ := unit_ends (R := r) (e2 := u) (e3 := v) hcd (show 1 ≤ m ∧ m ≤ 9000 by omega) (show bd 2000 r by omega) (show bd 150000 iu by omega) (show bd 150000 iv by omega) (by rw [hu', Int.mul_neg]; omega) hv'
  have e1 : a * r = r * a := Int.mul_comm _ _
  have e2 : -b * r = -(r * b) := by rw [Int.neg_mul, Int.mul_comm]
  have e3 : m * (-(1 * b)) = -(m * b) := by rw [Int.one_mul, Int.mul_neg]
  have e4 : m * (1 * a) = m * a := by rw [Int.one_mul]
  exact ⟨x4, x0, x1, y4, by rw [y0]; omega, by rw [y1]; omega, by rw [y2]; omega, by rw [y3]; omega⟩
theorem turn_meet : straight_0 (iu - r * a) (iv - r * b) (iu - r * a + m * (-(1 * b))) (iv - r * b + m * (1 * a)) ix iy iu iv 0 0 0 false r = iu - r * a - r * b ∧ straight_1 (iu - r * a) (iv - r * b) (iu - r * a + m * (-(1 * b))) (iv - r * b + m * (1 * a)) ix iy iu iv 0 0 0 false r = iv - r * b + r * a := by
  obtain ⟨f0, f1⟩ := right_found (s := 1) (R := r) hab (.inl rfl) (show 1 ≤ n ∧ n ≤ 9000 by omega) (show 1 ≤ r ∧ r ≤ 2000 by omega) hm (Int.one_mul r).symm (show bd 100000 ix by omega) (show bd 100000 iy by omega) hu hv
  rw [f0, f1]
  have e3 : r * (-(1 * b)) = -(r * b) := by rw [Int.one_mul, Int.mul_neg]
  have e4 : r * (1 * a) = r * a := by rw [Int.one_mul]
  omega
theorem turn_clear : oclear_0 ix iy iu iv 0 0 0 (iu - r * a + m * (-(1 * b))) (iv - r * b + m * (1 * a)) r = true := by
  rw [right_clear (s := 1) (R := r) hab (.inl rfl) (show 1 ≤ n ∧ n ≤ 9000 by omega) (show 1 ≤ r ∧ r ≤ 2000 by omega) (Int.one_mul r).symm (show bd 100000 ix by omega) (show bd 100000 iy by omega) hu hv (show 0 ≤ m ∧ m ≤ 9000 by omega) rfl rfl]
  exact decide_eq_true (by omega)
theorem turn_corner : (ocorner_0 (atang_0 2 ix iy 0 iu iv 0 17 0 0 0 0 true) (atang_1 2 ix iy 0 iu iv 0 17 0 0 0 0 true) (atang_0 2 iu iv 0 u v 0 17 0 0 0 0 false) (atang_1 2 iu iv 0 u v 0 17 0 0 0 0 false) 1 == 2) = true := by
  obtain ⟨b1, b2, b3, b4, b5, b6, b7, b8, b9, b10⟩ := turn_bd hab hr hn hm ht hx hy hu hv hu' hv'
  have w0 : ∀ {a : Int}, bd 4000000 a → IntKind.i64.wrap a = a := fun h => wrI (by omega) (by omega)
  have e0 : atang_0 2 ix iy 0 iu iv 0 17 0 0 0 0 true = n * a := by show IntKind.i64.wrap (iu - ix) = _; rw [w0 (by omega)]; omega
  have e1 : atang_1 2 ix iy 0 iu iv 0 17 0 0 0 0 true = n * b := by show IntKind.i64.wrap (iv - iy) = _; rw [w0 (by omega)]; omega
  have e2 : atang_0 2 iu iv 0 u v 0 17 0 0 0 0 false = -(m * b) := by show IntKind.i64.wrap (u - iu) = _; rw [w0 (by omega)]; omega
  have e3 : atang_1 2 iu iv 0 u v 0 17 0 0 0 0 false = m * a := by show IntKind.i64.wrap (v - iv) = _; rw [w0 (by omega)]; omega
  have hnm := Int.mul_pos (show 0 < n by omega) (show 0 < m by omega)
  have hc : vcross_0 (n * a) (n * b) (-(m * b)) (m * a) = n * m := by
    rw [vcross_eq (by omega) (by omega) (by omega) (by omega)]
    rcases hab with ⟨rfl, rfl⟩ | ⟨rfl, rfl⟩ | ⟨rfl, rfl⟩ | ⟨rfl, rfl⟩ <;> grind
  rw [e0, e1, e2, e3]
  unfold ocorner_0
  rw [hc, show (n * m == 0) = false by simp; omega, decide_eq_true (show n * m > 0 by omega)]
  rfl
theorem turn_ahead : decide (vinner_0 (minus_0 (iu - r * a - r * b) (ix - b * r)) (minus_0 (iv - r * b + r * a) (iy + a * r)) (minus_0 iu ix) (minus_0 iv iy) > 0) = true := by
  obtain ⟨b1, b2, b3, b4, b5, b6, b7, b8, b9, b10⟩ := turn_bd hab hr hn hm ht hx hy hu hv hu' hv'
  have e1 : a * r = r * a := Int.mul_comm _ _
  have e2 : b * r = r * b := Int.mul_comm _ _
  rw [e1, e2, minus_eq (by omega) (by omega), minus_eq (by omega) (by omega), minus_eq (by omega) (by omega), minus_eq (by omega) (by omega)]
  have g0 : iu - r * a - r * b - (ix - r * b) = (n - r) * a := by rw [hu]; grind
  have g1 : iv - r * b + r * a - (iy + r * a) = (n - r) * b := by rw [hv]; grind
  have c0 : bd 9000 ((n - r) * a) ∧ bd 9000 ((n - r) * b) := by rcases hab with ⟨rfl, rfl⟩ | ⟨rfl, rfl⟩ | ⟨rfl, rfl⟩ | ⟨rfl, rfl⟩ <;> omega
  rw [g0, g1, show iu - ix = n * a by omega, show iv - iy = n * b by omega, vinner_eq (by omega) (by omega) (by omega) (by omega)]
  have hp := Int.mul_pos (show 0 < n - r by omega) (show 0 < n by omega)
  have : (n - r) * a * (n * a) + (n - r) * b * (n * b) = (n - r) * n := by rcases hab with ⟨rfl, rfl⟩ | ⟨rfl, rfl⟩ | ⟨rfl, rfl⟩ | ⟨rfl, rfl⟩ <;> grind
  rw [this]; exact decide_eq_true hp
include ha0 ha1
theorem turn_way : decide (vinner_0 (IntKind.i64.wrap (iu - r * a - r * b - a0)) (IntKind.i64.wrap (iv - r * b + r * a - a1)) (IntKind.i64.wrap (iu - ix)) (IntKind.i64.wrap (iv - iy)) ≤ 0) = false ∧ (a0 == iu - r * a - r * b && a1 == iv - r * b + r * a) = false := by
  obtain ⟨b1, b2, b3, b4, b5, b6, b7, b8, b9, b10⟩ := turn_bd hab hr hn hm ht hx hy hu hv hu' hv'
  have e1 : a * r = r * a := Int.mul_comm _ _
  have e2 : b * r = r * b := Int.mul_comm _ _
  have g0 : iu - r * a - r * b - a0 = (n - r - t) * a := by rw [hu, ha0]; grind
  have g1 : iv - r * b + r * a - a1 = (n - r - t) * b := by rw [hv, ha1]; grind
  have c0 : bd 9000 ((n - r - t) * a) ∧ bd 9000 ((n - r - t) * b) := by rcases hab with ⟨rfl, rfl⟩ | ⟨rfl, rfl⟩ | ⟨rfl, rfl⟩ | ⟨rfl, rfl⟩ <;> omega
  refine ⟨?_, ?_⟩
  · rw [g0, g1, wrI (x := (n - r - t) * a) (by omega) (by omega), wrI (x := (n - r - t) * b) (by omega) (by omega), wrI (x := iu - ix) (by omega) (by omega), wrI (x := iv - iy) (by omega) (by omega), show iu - ix = n * a by omega, show iv - iy = n * b by omega, vinner_eq (by omega) (by omega) (by omega) (by omega)]
    have hp := Int.mul_pos (show 0 < n - r - t by omega) (show 0 < n by omega)
    have : (n - r - t) * a * (n * a) + (n - r - t) * b * (n * b) = (n - r - t) * n := by rcases hab with ⟨rfl, rfl⟩ | ⟨rfl, rfl⟩ | ⟨rfl, rfl⟩ | ⟨rfl, rfl⟩ <;> grind
    rw [this]; exact decide_eq_false (by omega)
  · exact unit_ne (n := n - r - t) hab (by omega) (by omega) (by omega)
end
section
variable {ix iy iu iv u v a0 a1 a b n m t r : Int}
theorem u3_vals (hab : unit2 a b) (hr : 8 ≤ r ∧ r ≤ 900) (hn : r + t < n ∧ n ≤ 9000) (hm : r < m ∧ m ≤ 9000) (ht : 0 ≤ t ∧ t ≤ 9000) (hx : bd 50000 ix) (hy : bd 50000 iy)
  (hu : iu = ix + n * a) (hv : iv = iy + n * b) (hu' : u = iu - m * b) (hv' : v = iv + m * a) :
    u3_s0 iu iv u v r = iu - r * a ∧ u3_s1 iu iv u v r = iv - r * b ∧ u3_s2 iu iv u v r = iu - r * a + m * (-(1 * b)) ∧ u3_s3 iu iv u v r = iv - r * b + m * (1 * a) ∧ u3_s4 iu iv u v r ix iy iu iv = iu - r * a - r * b ∧ u3_s5 iu iv u v r ix iy iu iv = iv - r * b + r * a := by
  obtain ⟨_, _, _, _, e0, e1, e2, e3⟩ := turn_ends hab hr hn hm ht hx hy hu hv hu' hv'
  obtain ⟨m0, m1⟩ := turn_meet hab hr hn hm ht hx hy hu hv hu' hv'
  have s0 : u3_s0 iu iv u v r = iu - r * a := by unfold u3_s0; rw [fl0, fl0, fl1, fl1, one_mul_wr hr]; exact e0
  have s1 : u3_s1 iu iv u v r = iv - r * b := by unfold u3_s1; rw [fl0, fl0, fl1, fl1, one_mul_wr hr]; exact e1
  have s2 : u3_s2 iu iv u v r = iu - r * a + m * (-(1 * b)) := by unfold u3_s2; rw [fl0, fl0, fl1, fl1, one_mul_wr hr]; exact e2
  have s3 : u3_s3 iu iv u v r = iv - r * b + m * (1 * a) := by unfold u3_s3; rw [fl0, fl0, fl1, fl1, one_mul_wr hr]; exact e3
  refine ⟨s0, s1, s2, s3, ?_, ?_⟩
  · unfold u3_s4; rw [s0, s1, s2, s3, fl0, fl0, fl1, fl1, one_mul_wr hr]; exact m0
  · unfold u3_s5; rw [s0, s1, s2, s3, fl0, fl0, fl1, fl1, one_mul_wr hr]; exact m1
theorem u3_nd (hab : unit2 a b) (hr : 8 ≤ r ∧ r ≤ 900) (hn : r + t < n ∧ n ≤ 9000) (hm : r < m ∧ m ≤ 9000) (ht : 0 ≤ t ∧ t ≤ 9000) (hx : bd 50000 ix) (hy : bd 50000 iy)
  (hu : iu = ix + n * a) (hv : iv = iy + n * b) (hu' : u = iu - m * b) (hv' : v = iv + m * a) (ha0 : a0 = ix + t * a - b * r) (ha1 : a1 = iy + t * b + a * r) :
    ∀ q ∈ u3_needs iu iv u v r r ix iy iu iv a0 a1 iu iv, q := by
  obtain ⟨b1, b2, b3, b4, b5, b6, b7, b8, b9, b10⟩ := turn_bd hab hr hn hm ht hx hy hu hv hu' hv'
  obtain ⟨x4, x0, x1, y4, _⟩ := turn_ends hab hr hn hm ht hx hy hu hv hu' hv'
  obtain ⟨s0, s1, s2, s3, s4, s5⟩ := u3_vals hab hr hn hm ht hx hy hu hv hu' hv'
  obtain ⟨w0, w1⟩ := turn_way hab hr hn hm ht hx hy hu hv hu' hv' ha0 ha1
  have hcd : unit2 (-b) a := by unfold unit2 at *; omega
  have e3 : m * (-(1 * b)) = -(m * b) := by rw [Int.one_mul, Int.mul_neg]
  have e4 : m * (1 * a) = m * a := by rw [Int.one_mul]
  have q : ∀ {x : Int}, bd 1048576 x → oin_0 x 1048576 = true := fun h => (oin_iff (by omega) (by omega)).2 h
  unfold u3_needs
  simp only [List.forall_mem_cons, List.not_mem_nil, false_implies, implies_true, and_true, one_mul_wr hr, s0, s1, s2, s3, s4, s5, fl0, fl1, fl2, so0, so1, so2]
  refine ⟨?_, by simp, by simp, ?_, ?_, turn_corner hab hr hn hm ht hx hy hu hv hu' hv', ?_, ?_, ?_, ?_, ?_, ?_, ?_, ?_, ?_⟩
  · rw [vw (by omega) (by omega), vw (by omega) (by omega), rad hr]; rfl
  · rw [unit_ne (n := m) hcd (by omega) (by rw [hu', Int.mul_neg]; omega) hv']; rfl
  · simp; omega
  · rw [x4]; rfl
  · rw [y4]; rfl
  · rw [turn_clear hab hr hn hm ht hx hy hu hv hu' hv']; rfl
  · omega
  · omega
  · omega
  · omega
  · rw [q (by omega), q (by omega)]; rfl
  · refine ⟨trivial, ?_, ?_, ?_⟩
    · unfold u3_s6
      rw [s4, s5, fl0, fl0, fl1, fl1, one_mul_wr hr, x0, x1, turn_ahead hab hr hn hm ht hx hy hu hv hu' hv']; rfl
    · unfold u3_s7
      rw [s4, s5, fl0, fl0, fl1, fl1]; exact w0
    · rw [← Bool.and_assoc, w1]; rfl
theorem u4_vals (hab : unit2 a b) (hr : 8 ≤ r ∧ r ≤ 900) (hn : r + t < n ∧ n ≤ 9000) (hm : r < m ∧ m ≤ 9000) (ht : 0 ≤ t ∧ t ≤ 9000) (hx : bd 50000 ix) (hy : bd 50000 iy)
  (hu : iu = ix + n * a) (hv : iv = iy + n * b) (hu' : u = iu - m * b) (hv' : v = iv + m * a) :
    u4_s0 iu iv u v r = iu - r * a ∧ u4_s1 iu iv u v r = iv - r * b ∧ u4_s2 iu iv u v r = iu - r * a + m * (-(1 * b)) ∧ u4_s3 iu iv u v r = iv - r * b + m * (1 * a) ∧ u4_s4 iu iv u v r ix iy iu iv = iu - r * a - r * b ∧ u4_s5 iu iv u v r ix iy iu iv = iv - r * b + r * a := by
  obtain ⟨_, _, _, _, e0, e1, e2, e3⟩ := turn_ends hab hr hn hm ht hx hy hu hv hu' hv'
  obtain ⟨m0, m1⟩ := turn_meet hab hr hn hm ht hx hy hu hv hu' hv'
  have s0 : u4_s0 iu iv u v r = iu - r * a := by unfold u4_s0; rw [fl0, fl0, fl1, fl1, one_mul_wr hr]; exact e0
  have s1 : u4_s1 iu iv u v r = iv - r * b := by unfold u4_s1; rw [fl0, fl0, fl1, fl1, one_mul_wr hr]; exact e1
  have s2 : u4_s2 iu iv u v r = iu - r * a + m * (-(1 * b)) := by unfold u4_s2; rw [fl0, fl0, fl1, fl1, one_mul_wr hr]; exact e2
  have s3 : u4_s3 iu iv u v r = iv - r * b + m * (1 * a) := by unfold u4_s3; rw [fl0, fl0, fl1, fl1, one_mul_wr hr]; exact e3
  refine ⟨s0, s1, s2, s3, ?_, ?_⟩
  · unfold u4_s4; rw [s0, s1, s2, s3, fl0, fl0, fl1, fl1, one_mul_wr hr]; exact m0
  · unfold u4_s5; rw [s0, s1, s2, s3, fl0, fl0, fl1, fl1, one_mul_wr hr]; exact m1
theorem u4_nd (hab : unit2 a b) (hr : 8 ≤ r ∧ r ≤ 900) (hn : r + t < n ∧ n ≤ 9000) (hm : r < m ∧ m ≤ 9000) (ht : 0 ≤ t ∧ t ≤ 9000) (hx : bd 50000 ix) (hy : bd 50000 iy)
  (hu : iu = ix + n * a) (hv : iv = iy + n * b) (hu' : u = iu - m * b) (hv' : v = iv + m * a) (ha0 : a0 = ix + t * a - b * r) (ha1 : a1 = iy + t * b + a * r) :
    ∀ q ∈ u4_needs iu iv u v r r ix iy iu iv a0 a1 iu iv, q := by
  obtain ⟨b1, b2, b3, b4, b5, b6, b7, b8, b9, b10⟩ := turn_bd hab hr hn hm ht hx hy hu hv hu' hv'
  obtain ⟨x4, x0, x1, y4, _⟩ := turn_ends hab hr hn hm ht hx hy hu hv hu' hv'
  obtain ⟨s0, s1, s2, s3, s4, s5⟩ := u4_vals hab hr hn hm ht hx hy hu hv hu' hv'
  obtain ⟨w0, w1⟩ := turn_way hab hr hn hm ht hx hy hu hv hu' hv' ha0 ha1
  have hcd : unit2 (-b) a := by unfold unit2 at *; omega
  have e3 : m * (-(1 * b)) = -(m * b) := by rw [Int.one_mul, Int.mul_neg]
  have e4 : m * (1 * a) = m * a := by rw [Int.one_mul]
  have q : ∀ {x : Int}, bd 1048576 x → oin_0 x 1048576 = true := fun h => (oin_iff (by omega) (by omega)).2 h
  unfold u4_needs
  simp only [List.forall_mem_cons, List.not_mem_nil, false_implies, implies_true, and_true, one_mul_wr hr, s0, s1, s2, s3, s4, s5, fl0, fl1, fl2, so0, so1, so2]
  refine ⟨?_, by simp, by simp, ?_, ?_, turn_corner hab hr hn hm ht hx hy hu hv hu' hv', ?_, ?_, ?_, ?_, ?_, ?_, ?_, ?_, ?_⟩
  · rw [vw (by omega) (by omega), vw (by omega) (by omega), rad hr]; rfl
  · rw [unit_ne (n := m) hcd (by omega) (by rw [hu', Int.mul_neg]; omega) hv']; rfl
  · simp; omega
  · rw [x4]; rfl
  · rw [y4]; rfl
  · rw [turn_clear hab hr hn hm ht hx hy hu hv hu' hv']; rfl
  · omega
  · omega
  · omega
  · omega
  · rw [q (by omega), q (by omega)]; rfl
  · refine ⟨trivial, ?_, ?_, ?_⟩
    · unfold u4_s6
      rw [s4, s5, fl0, fl0, fl1, fl1, one_mul_wr hr, x0, x1, turn_ahead hab hr hn hm ht hx hy hu hv hu' hv']; rfl
    · unfold u4_s7
      rw [s4, s5, fl0, fl0, fl1, fl1]; exact w0
    · rw [← Bool.and_assoc, w1]; rfl
end
end Go.Proofs.YthgiaoidekdpfaaGreat
