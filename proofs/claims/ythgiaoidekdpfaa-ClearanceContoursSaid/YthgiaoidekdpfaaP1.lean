/-
  CLEARANCE, plain laws: bounds, crossings, signs. Conditions: bounds of the coordinates.
-/
import Derived.Test.YthgiaoidekdpfaaY2
set_option linter.all false
namespace Go.Proofs.Ythgiaoidekdpfaa
open Go.SX Go.RowKit
theorem wrap_isI (x : Int) : isI (IntKind.i64.wrap x) := by
  unfold IntKind.wrap isI
  simp only [IntKind.bits, IntKind.signed]
  simp
  omega
theorem mod_rng (a b : Int) (h : 1 ≤ b) (hb : b ≤ 4611686018427387904) : 0 ≤ mod_0 a b ∧ mod_0 a b < b := by
  unfold mod_0
  have h1 := Int.tmod_lt_of_pos a (b := b) (by omega)
  have h2 : -b < a.tmod b := by
    have := Int.tmod_lt_of_pos (-a) (b := b) (by omega)
    rw [Int.neg_tmod] at this
    omega
  by_cases h3 : a.tmod b < 0
  · simp only [h3, decide_true, cond_true]
    rw [wrI (by omega) (by omega)]
    omega
  · simp only [h3, decide_false, cond_false]
    omega
theorem between_rng (a b c : Int) (h1 : -1000000000 ≤ b) (h2 : b ≤ c) (h3 : c ≤ 1000000000) : b ≤ between_0 a b c ∧ between_0 a b c ≤ c := by
  unfold between_0
  rw [wrI (x := c - b) (by omega) (by omega), wrI (x := c - b + 1) (by omega) (by omega)]
  have := mod_rng a (c - b + 1) (by omega) (by omega)
  rw [wrI (by omega) (by omega)]
  omega
theorem small_rng (a n : Int) (h1 : 0 ≤ n) (h2 : n ≤ 1000000000) : -n ≤ small_0 a n ∧ small_0 a n ≤ n := by
  unfold small_0
  rw [wrI (x := 0 - n) (by omega) (by omega)]
  have := between_rng a (0 - n) n (by omega) (by omega) (by omega)
  omega
abbrev bd (m x : Int) : Prop := -m ≤ x ∧ x ≤ m
theorem minus_eq {a c : Int} (ha : bd 1000000000 a) (hc : bd 1000000000 c) : minus_0 a c = a - c := by unfold minus_0; rw [wrI (by omega) (by omega)]
theorem addpt_eq {a c : Int} (ha : bd 1000000000 a) (hc : bd 1000000000 c) : addpt_0 a c = a + c := by unfold addpt_0; rw [wrI (by omega) (by omega)]
theorem mul_bd {m n x y : Int} (hx : bd m x) (hy : bd n y) (hm : 0 ≤ m) (hn : 0 ≤ n) : bd (m * n) (x * y) := by
  have h : ∀ u v : Int, 0 ≤ u → u ≤ m → 0 ≤ v → v ≤ n → 0 ≤ u * v ∧ u * v ≤ m * n := fun u v h1 h2 h3 h4 => ⟨Int.mul_nonneg h1 h3, Int.mul_le_mul h2 h4 h3 hm⟩
  by_cases h1 : 0 ≤ x <;> by_cases h2 : 0 ≤ y
  · have := h x y h1 (by omega) h2 (by omega); constructor <;> omega
  · have := h x (-y) h1 (by omega) (by omega) (by omega); rw [Int.mul_neg] at this; constructor <;> omega
  · have := h (-x) y (by omega) (by omega) h2 (by omega); rw [Int.neg_mul] at this; constructor <;> omega
  · have := h (-x) (-y) (by omega) (by omega) (by omega) (by omega); rw [Int.neg_mul_neg] at this; constructor <;> omega
theorem vcross_eq {a b c d : Int} (ha : bd 1000000000 a) (hb : bd 1000000000 b) (hc : bd 1000000000 c) (hd : bd 1000000000 d) : vcross_0 a b c d = a * d - b * c := by
  have h1 := mul_bd ha hd (by omega) (by omega)
  have h2 := mul_bd hb hc (by omega) (by omega)
  unfold vcross_0
  generalize a * d = p at *
  generalize b * c = q at *
  rw [wrI (x := p) (by omega) (by omega), wrI (x := q) (by omega) (by omega), wrI (by omega) (by omega)]
theorem vinner_eq {a b c d : Int} (ha : bd 1000000000 a) (hb : bd 1000000000 b) (hc : bd 1000000000 c) (hd : bd 1000000000 d) : vinner_0 a b c d = a * c + b * d := by
  have h1 := mul_bd ha hc (by omega) (by omega)
  have h2 := mul_bd hb hd (by omega) (by omega)
  unfold vinner_0
  generalize a * c = p at *
  generalize b * d = q at *
  rw [wrI (x := p) (by omega) (by omega), wrI (x := q) (by omega) (by omega), wrI (by omega) (by omega)]
theorem cmpI_cases (x y : Int) : (x < y ∧ cmpI x y = -1) ∨ (x = y ∧ cmpI x y = 0) ∨ (y < x ∧ cmpI x y = 1) := by
  unfold cmpI
  by_cases h : x < y
  · exact .inl ⟨h, if_pos h⟩
  · by_cases h2 : x = y
    · exact .inr (.inl ⟨h2, by rw [if_neg h, if_pos h2]⟩)
    · exact .inr (.inr ⟨by omega, by rw [if_neg h, if_neg h2]⟩)
theorem csgn {x : Int} (h : isI x) : wcmp_0 x 1 0 1 = cmpI x 0 := by
  rw [wcmp_eq x 1 0 1 h (by decide) (by decide) (by decide), Int.mul_one, Int.mul_one]
/-- The ends lie on both sides: product of the signs, or case by case. -/
theorem parted_eq (a0 a1 a2 a3 b0 b1 b2 b3 : Int) : parted_0 a0 a1 a2 a3 b0 b1 b2 b3 = opposite_0 a0 a1 a2 a3 b0 b1 b2 b3 := by
  unfold parted_0 opposite_0 parted_s0
  have hX : isI (vcross_0 (minus_0 a2 a0) (minus_0 a3 a1) (minus_0 b0 a0) (minus_0 b1 a1)) := wrap_isI _
  have hY : isI (vcross_0 (minus_0 a2 a0) (minus_0 a3 a1) (minus_0 b2 a0) (minus_0 b3 a1)) := wrap_isI _
  rw [csgn hX, csgn hY]
  generalize vcross_0 (minus_0 a2 a0) (minus_0 a3 a1) (minus_0 b0 a0) (minus_0 b1 a1) = X at *
  generalize vcross_0 (minus_0 a2 a0) (minus_0 a3 a1) (minus_0 b2 a0) (minus_0 b3 a1) = Y at *
  rcases cmpI_cases X 0 with ⟨h1, e1⟩ | ⟨h1, e1⟩ | ⟨h1, e1⟩ <;> rcases cmpI_cases Y 0 with ⟨h2, e2⟩ | ⟨h2, e2⟩ | ⟨h2, e2⟩ <;> rw [e1, e2] <;>
    simp [show ∀ x : Int, -1 ≤ x → x ≤ 1 → IntKind.i64.wrap x = x from fun x h h' => wrI (by omega) (by omega)] <;> omega
theorem ccross_eq (a0 a1 a2 a3 a6 b0 b1 b2 b3 b6 : Int) : ccross_0 a0 a1 a2 a3 a6 b0 b1 b2 b3 b6 = rcrosses_0 a0 a1 a2 a3 a6 b0 b1 b2 b3 b6 := by
  unfold ccross_0 rcrosses_0
  rw [parted_eq, parted_eq]
theorem ccross_comm (a0 a1 a2 a3 a6 b0 b1 b2 b3 b6 : Int) : ccross_0 a0 a1 a2 a3 a6 b0 b1 b2 b3 b6 = ccross_0 b0 b1 b2 b3 b6 a0 a1 a2 a3 a6 := by
  unfold ccross_0
  cases a6 == 0 <;> cases b6 == 0 <;> cases parted_0 a0 a1 a2 a3 b0 b1 b2 b3 <;> cases parted_0 b0 b1 b2 b3 a0 a1 a2 a3 <;> rfl
theorem minus_self (a : Int) : minus_0 a a = 0 := by unfold minus_0; rw [Int.sub_self]; rfl
theorem vcross_zero (a b : Int) : vcross_0 a b 0 0 = 0 := by unfold vcross_0; rw [Int.mul_zero, Int.mul_zero]; rfl
theorem ccross_self (a0 a1 a2 a3 a6 : Int) : ccross_0 a0 a1 a2 a3 a6 a0 a1 a2 a3 a6 = false := by
  have : opposite_0 a0 a1 a2 a3 a0 a1 a2 a3 = false := by
    unfold opposite_0
    rw [minus_self, minus_self, vcross_zero]
    simp
  unfold ccross_0
  rw [parted_eq, this]
  simp
theorem minus_move {a c d : Int} (ha : bd 1000 a) (hc : bd 1000 c) (hd : bd 100000 d) : minus_0 (addpt_0 a d) (addpt_0 c d) = minus_0 a c := by
  rw [addpt_eq (by omega) (by omega), addpt_eq (by omega) (by omega), minus_eq (by omega) (by omega), minus_eq (by omega) (by omega)]
  omega
/-- THE LAW OF CROSSINGS. -/
theorem crossing_law {p0 p1 q0 q1 s0 s1 t0 t1 d0 d1 : Int} (hp0 : bd 40 p0) (hp1 : bd 40 p1) (hq0 : bd 40 q0) (hq1 : bd 40 q1) (hs0 : bd 40 s0) (hs1 : bd 40 s1) (ht0 : bd 40 t0) (ht1 : bd 40 t1) (hd0 : bd 9000 d0) (hd1 : bd 9000 d1) :
    (true && ccross_0 (addpt_0 p0 d0) (addpt_0 p1 d1) (addpt_0 q0 d0) (addpt_0 q1 d1) 0 (addpt_0 s0 d0) (addpt_0 s1 d1) (addpt_0 t0 d0) (addpt_0 t1 d1) 0 == ccross_0 p0 p1 q0 q1 0 s0 s1 t0 t1 0 &&
      (!ccross_0 p0 p1 q0 q1 0 s0 s1 t0 t1 0 || vcross_0 (minus_0 q0 p0) (minus_0 q1 p1) (minus_0 t0 s0) (minus_0 t1 s1) != 0) &&
      (!(!!dstC Cl p0 p1 q0 q1 0 0 0 false s0 s1 1 || !!dstC Cl p0 p1 q0 q1 0 0 0 false t0 t1 1) || !dstC Cg p0 p1 q0 q1 0 0 0 false s0 s1 1 || !dstC Cg p0 p1 q0 q1 0 0 0 false t0 t1 1) &&
      !ccross_0 p0 p1 q0 q1 0 p0 p1 q0 q1 0) = true := by
  have e1 : ccross_0 (addpt_0 p0 d0) (addpt_0 p1 d1) (addpt_0 q0 d0) (addpt_0 q1 d1) 0 (addpt_0 s0 d0) (addpt_0 s1 d1) (addpt_0 t0 d0) (addpt_0 t1 d1) 0 = ccross_0 p0 p1 q0 q1 0 s0 s1 t0 t1 0 := by
    unfold ccross_0 parted_0 parted_s0
    rw [minus_move (a := q0) (by omega) (by omega) (by omega), minus_move (a := q1) (by omega) (by omega) (by omega), minus_move (a := s0) (by omega) (by omega) (by omega), minus_move (a := s1) (by omega) (by omega) (by omega),
      minus_move (a := t0) (by omega) (by omega) (by omega), minus_move (a := t1) (by omega) (by omega) (by omega), minus_move (a := t0) (c := s0) (by omega) (by omega) (by omega), minus_move (a := t1) (c := s1) (by omega) (by omega) (by omega),
      minus_move (a := p0) (by omega) (by omega) (by omega), minus_move (a := p1) (by omega) (by omega) (by omega), minus_move (a := q0) (c := s0) (by omega) (by omega) (by omega), minus_move (a := q1) (c := s1) (by omega) (by omega) (by omega)]
  have e2 : (!ccross_0 p0 p1 q0 q1 0 s0 s1 t0 t1 0 || vcross_0 (minus_0 q0 p0) (minus_0 q1 p1) (minus_0 t0 s0) (minus_0 t1 s1) != 0) = true := by
    cases h : ccross_0 p0 p1 q0 q1 0 s0 s1 t0 t1 0
    · rfl
    · have h1 : opposite_0 p0 p1 q0 q1 s0 s1 t0 t1 = true := by
        rw [ccross_eq] at h
        unfold rcrosses_0 at h
        simp only [Bool.and_eq_true] at h
        exact h.1.2
      have hc : vcross_0 (minus_0 q0 p0) (minus_0 q1 p1) (minus_0 t0 s0) (minus_0 t1 s1) = vcross_0 (minus_0 q0 p0) (minus_0 q1 p1) (minus_0 t0 p0) (minus_0 t1 p1) - vcross_0 (minus_0 q0 p0) (minus_0 q1 p1) (minus_0 s0 p0) (minus_0 s1 p1) := by
        rw [minus_eq (a := q0) (by omega) (by omega), minus_eq (a := q1) (by omega) (by omega), minus_eq (a := t0) (by omega) (by omega), minus_eq (a := t1) (by omega) (by omega), minus_eq (a := t0) (c := p0) (by omega) (by omega), minus_eq (a := t1) (c := p1) (by omega) (by omega), minus_eq (a := s0) (by omega) (by omega), minus_eq (a := s1) (by omega) (by omega),
          vcross_eq (by omega) (by omega) (by omega) (by omega), vcross_eq (by omega) (by omega) (by omega) (by omega), vcross_eq (by omega) (by omega) (by omega) (by omega)]
        grind
      unfold opposite_0 at h1
      simp only [Bool.or_eq_true, Bool.and_eq_true, decide_eq_true_eq] at h1
      simp only [Bool.not_true, Bool.false_or, bne_iff_ne, ne_eq]
      omega
  have e3 : ∀ y z : Int, dstC Cl p0 p1 q0 q1 0 0 0 false y z 1 = true → dstC Cg p0 p1 q0 q1 0 0 0 false y z 1 = false := by
    intro y z
    have hB : isB p0 p1 q0 q1 0 0 0 false y z = false := by unfold isB; simp
    unfold dstC
    rw [hB, cond_false, cond_false]
    unfold Cl Cg
    cases isS p0 p1 q0 q1 0 y z <;> simp <;> omega
  rw [e1, e2, ccross_self]
  have e4 := e3 s0 s1
  have e5 := e3 t0 t1
  cases h1 : dstC Cl p0 p1 q0 q1 0 0 0 false s0 s1 1 <;> cases h2 : dstC Cl p0 p1 q0 q1 0 0 0 false t0 t1 1 <;> simp_all
end Go.Proofs.Ythgiaoidekdpfaa
