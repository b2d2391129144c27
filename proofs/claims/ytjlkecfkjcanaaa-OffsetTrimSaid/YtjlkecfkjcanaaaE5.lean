/-
  TRIM, plain laws: the program's and the reference's are the same. Conditions: bounds.
-/
import Derived.Test.YtjlkecfkjcanaaaE3
set_option linter.all false
namespace Go.Proofs.Ytjlkecfkjcanaaa
open Go.SX Go.RowKit
theorem chalf_or (a b c d : Int) : ((0 < vcross_0 a b c d ∨ vcross_0 a b c d = 0 ∧ 0 < vinner_0 a b c d) ∧ chalf_0 a b c d = 0) ∨ (¬ (0 < vcross_0 a b c d ∨ vcross_0 a b c d = 0 ∧ 0 < vinner_0 a b c d) ∧ chalf_0 a b c d = 1) := by
  unfold chalf_0
  by_cases h1 : 0 < vcross_0 a b c d
  · left; exact ⟨.inl h1, by simp [h1]⟩
  · by_cases h2 : vcross_0 a b c d = 0
    · by_cases h3 : 0 < vinner_0 a b c d
      · left; exact ⟨.inr ⟨h2, h3⟩, by simp [h2, h3]⟩
      · right; exact ⟨by omega, by simp [h2, h3]⟩
    · right; exact ⟨by omega, by rw [show decide (vcross_0 a b c d > 0) = false from decide_eq_false h1, show (vcross_0 a b c d == 0) = false by simpa using h2]; rfl⟩
theorem rhalf_or (a b c d e : Int) : ((0 < IntKind.i64.wrap (vcross_0 a b c d * e) ∨ IntKind.i64.wrap (vcross_0 a b c d * e) = 0 ∧ 0 < vinner_0 a b c d) ∧ rhalf_0 a b c d e = 0) ∨ (¬ (0 < IntKind.i64.wrap (vcross_0 a b c d * e) ∨ IntKind.i64.wrap (vcross_0 a b c d * e) = 0 ∧ 0 < vinner_0 a b c d) ∧ rhalf_0 a b c d e = 1) := by
  unfold rhalf_0
  generalize IntKind.i64.wrap (vcross_0 a b c d * e) = w
  by_cases h1 : 0 < w
  · left; exact ⟨.inl h1, by simp [h1]⟩
  · by_cases h2 : w = 0
    · by_cases h3 : 0 < vinner_0 a b c d
      · left; exact ⟨.inr ⟨h2, h3⟩, by simp [h2, h3]⟩
      · right; exact ⟨by omega, by simp [h2, h3]⟩
    · right; exact ⟨by omega, by rw [show decide (w > 0) = false from decide_eq_false h1, show (w == 0) = false by simpa using h2]; rfl⟩
/-- Counterclockwise. -/
theorem sweep_ccw (a0 a1 b0 b1 p0 p1 : Int) : contains_0 a0 a1 b0 b1 p0 p1 = insweep_0 a0 a1 b0 b1 p0 p1 1 false := by
  have e : ∀ x, isI x → IntKind.i64.wrap (x * 1) = x := fun x h => by rw [Int.mul_one]; exact wrI h.1 h.2
  have r : ∀ a b c d, rhalf_0 a b c d 1 = chalf_0 a b c d := fun a b c d => by
    unfold rhalf_0 chalf_0
    rw [e (vcross_0 a b c d) (wrap_isI _)]
  unfold contains_0 insweep_0
  rw [r, r, e (vcross_0 p0 p1 b0 b1) (wrap_isI _)]
  generalize chalf_0 a0 a1 p0 p1 = h
  generalize chalf_0 a0 a1 b0 b1 = k
  generalize vcross_0 p0 p1 b0 b1 = x
  by_cases h1 : h = k
  · subst h1; simp
  · by_cases h2 : h < k
    · rw [decide_eq_true h2, show (h != k) = true by simpa using h1]; rfl
    · rw [decide_eq_false h2, show (h != k) = true by simpa using h1, show (h == k) = false by simpa using h1]; rfl
/-- Clockwise. -/
theorem sweep_cw {a0 a1 b0 b1 p0 p1 : Int} (ha0 : b9 a0) (ha1 : b9 a1) (hb0 : b9 b0) (hb1 : b9 b1) (hp0 : b9 p0) (hp1 : b9 p1) (ha : a0 ≠ 0 ∨ a1 ≠ 0) (hb : b0 ≠ 0 ∨ b1 ≠ 0) (hp : p0 ≠ 0 ∨ p1 ≠ 0) :
    contains_0 b0 b1 a0 a1 p0 p1 = insweep_0 a0 a1 b0 b1 p0 p1 (-1) false := by
  have hN := sq_pos ha
  have bnd : ∀ {a b c d : Int}, b9 a → b9 b → b9 c → b9 d → bd 2000000000000000000 (vcross_0 a b c d) := fun {a b c d} h1 h2 h3 h4 => by
    have q1 := mul_bd h1 h4 (by omega) (by omega)
    have q2 := mul_bd h2 h3 (by omega) (by omega)
    rw [vcross_eq h1 h2 h3 h4]
    generalize a * d = s at *
    generalize b * c = t at *
    omega
  have neg : ∀ x, bd 2000000000000000000 x → IntKind.i64.wrap (x * -1) = -x := fun x h => by rw [show x * -1 = -x by omega]; exact wrI (by omega) (by omega)
  -- seen from A
  have eC : vcross_0 p0 p1 b0 b1 * (a0 * a0 + a1 * a1) = vinner_0 a0 a1 p0 p1 * vcross_0 a0 a1 b0 b1 - vcross_0 a0 a1 p0 p1 * vinner_0 a0 a1 b0 b1 := by
    rw [vcross_eq hp0 hp1 hb0 hb1, vinner_eq ha0 ha1 hp0 hp1, vcross_eq ha0 ha1 hb0 hb1, vcross_eq ha0 ha1 hp0 hp1, vinner_eq ha0 ha1 hb0 hb1]
    grind
  have eD : vinner_0 b0 b1 p0 p1 * (a0 * a0 + a1 * a1) = vinner_0 a0 a1 p0 p1 * vinner_0 a0 a1 b0 b1 + vcross_0 a0 a1 p0 p1 * vcross_0 a0 a1 b0 b1 := by
    rw [vinner_eq hb0 hb1 hp0 hp1, vinner_eq ha0 ha1 hp0 hp1, vcross_eq ha0 ha1 hb0 hb1, vcross_eq ha0 ha1 hp0 hp1, vinner_eq ha0 ha1 hb0 hb1]
    grind
  have e1 : vcross_0 b0 b1 p0 p1 = -vcross_0 p0 p1 b0 b1 := by rw [vcross_eq hb0 hb1 hp0 hp1, vcross_eq hp0 hp1 hb0 hb1]; grind
  have e2 : vcross_0 b0 b1 a0 a1 = -vcross_0 a0 a1 b0 b1 := by rw [vcross_eq hb0 hb1 ha0 ha1, vcross_eq ha0 ha1 hb0 hb1]; grind
  have e3 : vinner_0 b0 b1 a0 a1 = vinner_0 a0 a1 b0 b1 := by rw [vinner_eq hb0 hb1 ha0 ha1, vinner_eq ha0 ha1 hb0 hb1]; grind
  have e4 : vcross_0 p0 p1 a0 a1 = -vcross_0 a0 a1 p0 p1 := by rw [vcross_eq hp0 hp1 ha0 ha1, vcross_eq ha0 ha1 hp0 hp1]; grind
  have nz : ∀ {q0 q1 : Int}, b9 q0 → b9 q1 → (q0 ≠ 0 ∨ q1 ≠ 0) → vinner_0 a0 a1 q0 q1 ≠ 0 ∨ vcross_0 a0 a1 q0 q1 ≠ 0 := fun {q0 q1} h0 h1 hq => by
    have hM := sq_pos hq
    have e : vinner_0 a0 a1 q0 q1 * vinner_0 a0 a1 q0 q1 + vcross_0 a0 a1 q0 q1 * vcross_0 a0 a1 q0 q1 = (a0 * a0 + a1 * a1) * (q0 * q0 + q1 * q1) := by
      rw [vinner_eq ha0 ha1 h0 h1, vcross_eq ha0 ha1 h0 h1]
      grind
    have hpos := Int.mul_pos hN hM
    rw [← e] at hpos
    by_cases q1 : vinner_0 a0 a1 q0 q1 = 0
    · right
      intro q2
      rw [q1, q2] at hpos
      simp at hpos
    · exact .inl q1
  have core := sweep_core (x := vinner_0 a0 a1 p0 p1) (y := vcross_0 a0 a1 p0 p1) (u := vinner_0 a0 a1 b0 b1) (v := vcross_0 a0 a1 b0 b1) (c := vcross_0 p0 p1 b0 b1) (d := vinner_0 b0 b1 p0 p1) (nz hp0 hp1 hp) (nz hb0 hb1 hb)
    ⟨fun h => by rw [← eC]; exact scaled_pos hN h, fun h => by rw [← eC] at h; exact pos_of_scaled hN h⟩ ⟨fun h => by rw [← eC]; exact scaled_neg hN h, fun h => by rw [← eC] at h; exact neg_of_scaled hN h⟩ ⟨fun h => by rw [← eD]; exact scaled_pos hN h, fun h => by rw [← eD] at h; exact pos_of_scaled hN h⟩
  have o1 := chalf_or b0 b1 p0 p1
  have o2 := chalf_or b0 b1 a0 a1
  have o3 := rhalf_or a0 a1 p0 p1 (-1)
  have o4 := rhalf_or a0 a1 b0 b1 (-1)
  rw [neg _ (bnd ha0 ha1 hp0 hp1)] at o3
  rw [neg _ (bnd ha0 ha1 hb0 hb1)] at o4
  rw [e1] at o1
  rw [e2, e3] at o2
  unfold contains_0 insweep_0
  rw [neg _ (bnd hp0 hp1 hb0 hb1), e4]
  clear eC eD e1 e2 e3 e4
  generalize chalf_0 b0 b1 p0 p1 = q at *
  generalize chalf_0 b0 b1 a0 a1 = k at *
  generalize rhalf_0 a0 a1 p0 p1 (-1) = h at *
  generalize rhalf_0 a0 a1 b0 b1 (-1) = k' at *
  generalize vcross_0 p0 p1 b0 b1 = c at *
  generalize vinner_0 b0 b1 p0 p1 = d at *
  generalize vcross_0 a0 a1 p0 p1 = y at *
  generalize vinner_0 a0 a1 p0 p1 = x at *
  generalize vcross_0 a0 a1 b0 b1 = v at *
  generalize vinner_0 a0 a1 b0 b1 = u at *
  clear nz neg bnd ha hb hp hN ha0 ha1 hb0 hb1 hp0 hp1
  have Q1 : ((c < 0 ∨ c = 0 ∧ 0 < d) ∧ q = 0) ∨ (¬ (c < 0 ∨ c = 0 ∧ 0 < d) ∧ q = 1) := by
    rcases o1 with ⟨g1, g2⟩ | ⟨g1, g2⟩
    · exact .inl ⟨by omega, g2⟩
    · exact .inr ⟨by omega, g2⟩
  have Q2 : ((v < 0 ∨ v = 0 ∧ 0 < u) ∧ k = 0 ∧ k' = 0) ∨ (¬ (v < 0 ∨ v = 0 ∧ 0 < u) ∧ k = 1 ∧ k' = 1) := by
    rcases o2 with ⟨g1, g2⟩ | ⟨g1, g2⟩ <;> rcases o4 with ⟨g3, g4⟩ | ⟨g3, g4⟩
    · exact .inl ⟨by omega, g2, g4⟩
    · exfalso; omega
    · exfalso; omega
    · exact .inr ⟨by omega, g2, g4⟩
  have Q3 : ((y < 0 ∨ y = 0 ∧ 0 < x) ∧ h = 0) ∨ (¬ (y < 0 ∨ y = 0 ∧ 0 < x) ∧ h = 1) := by
    rcases o3 with ⟨g1, g2⟩ | ⟨g1, g2⟩
    · exact .inl ⟨by omega, g2⟩
    · exact .inr ⟨by omega, g2⟩
  clear o1 o2 o3 o4
  generalize (c < 0 ∨ c = 0 ∧ 0 < d) = Q at *
  generalize (v < 0 ∨ v = 0 ∧ 0 < u) = K at *
  generalize (y < 0 ∨ y = 0 ∧ 0 < x) = H at *
  rcases Q1 with ⟨A, rfl⟩ | ⟨A, rfl⟩ <;> rcases Q2 with ⟨B, rfl, rfl⟩ | ⟨B, rfl, rfl⟩ <;> rcases Q3 with ⟨D, rfl⟩ | ⟨D, rfl⟩ <;>
    simp only [A, B, D, true_and, false_and, not_true_eq_false, not_false_eq_true, false_or, or_false, true_or, or_true, and_true, iff_true, true_iff, iff_false, false_iff] at core <;>
    rw [Bool.eq_iff_iff] <;> simp <;> omega

theorem vc0 (a b : Int) : vcross_0 a b 0 0 = 0 := by unfold vcross_0; rw [Int.mul_zero, Int.mul_zero]; rfl
theorem vc0' (a b : Int) : vcross_0 0 0 a b = 0 := by unfold vcross_0; rw [Int.zero_mul, Int.zero_mul]; rfl
theorem vi0 (a b : Int) : vinner_0 a b 0 0 = 0 := by unfold vinner_0; rw [Int.mul_zero, Int.mul_zero]; rfl
theorem sweep_cw0 {a0 a1 b0 b1 : Int} (ha0 : b9 a0) (ha1 : b9 a1) (hb0 : b9 b0) (hb1 : b9 b1) : contains_0 b0 b1 a0 a1 0 0 = insweep_0 a0 a1 b0 b1 0 0 (-1) false := by
  have q1 := mul_bd ha0 hb1 (by omega) (by omega)
  have q2 := mul_bd ha1 hb0 (by omega) (by omega)
  have o2 := chalf_or b0 b1 a0 a1
  have o4 := rhalf_or a0 a1 b0 b1 (-1)
  have e2 : vcross_0 b0 b1 a0 a1 = -vcross_0 a0 a1 b0 b1 := by rw [vcross_eq hb0 hb1 ha0 ha1, vcross_eq ha0 ha1 hb0 hb1]; grind
  have e3 : vinner_0 b0 b1 a0 a1 = vinner_0 a0 a1 b0 b1 := by rw [vinner_eq hb0 hb1 ha0 ha1, vinner_eq ha0 ha1 hb0 hb1]; grind
  have e4 : IntKind.i64.wrap (vcross_0 a0 a1 b0 b1 * -1) = -vcross_0 a0 a1 b0 b1 := by
    rw [vcross_eq ha0 ha1 hb0 hb1, show (a0 * b1 - a1 * b0) * -1 = -(a0 * b1 - a1 * b0) by omega]
    generalize a0 * b1 = x at *
    generalize a1 * b0 = y at *
    exact wrI (by omega) (by omega)
  rw [e2, e3] at o2
  rw [e4] at o4
  have c1 : chalf_0 b0 b1 0 0 = 1 := by unfold chalf_0; rw [vc0, vi0]; rfl
  have c2 : rhalf_0 a0 a1 0 0 (-1) = 1 := by unfold rhalf_0; rw [vc0, vi0]; rfl
  unfold contains_0 insweep_0
  rw [c1, c2, vc0', vc0']
  have w : IntKind.i64.wrap (0 * -1) = 0 := rfl
  rw [w]
  generalize chalf_0 b0 b1 a0 a1 = h at *
  generalize rhalf_0 a0 a1 b0 b1 (-1) = k at *
  rcases o2 with ⟨g1, rfl⟩ | ⟨g1, rfl⟩ <;> rcases o4 with ⟨g3, rfl⟩ | ⟨g3, rfl⟩
  · rfl
  · exact absurd g1 g3
  · exact absurd g3 g1
  · rfl
theorem ins_full (a0 a1 b0 b1 u w d : Int) (e7 : Bool) : insweep_0 a0 a1 b0 b1 u w d e7 = (e7 || insweep_0 a0 a1 b0 b1 u w d false) := by cases e7 <;> rfl
theorem ahead_same {e0 e1 e2 e3 e4 e5 e6 : Int} (e7 : Bool) {u w : Int} (y z : Int) (E : EP e0 e1 e2 e3 e4 e5 e6) (hu : bd 1048576 u) (hw : bd 1048576 w) :
    ahead_0 e0 e1 e2 e3 e4 e5 e6 e7 u w y z = bif e6 == 0 then decide (vinner_0 (minus_0 u y) (minus_0 w z) (minus_0 e2 e0) (minus_0 e3 e1) > 0) else
      (insweep_0 (minus_0 e0 e4) (minus_0 e1 e5) (minus_0 e2 e4) (minus_0 e3 e5) (minus_0 u e4) (minus_0 w e5) e6 e7 && !sameway_0 (minus_0 e0 e4) (minus_0 e1 e5) (minus_0 u e4) (minus_0 w e5)) := by
  unfold ahead_0
  cases h6 : e6 == 0
  · rw [cond_false, cond_false]
    have hne : e6 ≠ 0 := by simpa using h6
    have c0 := E.c0
    have c1 := E.c1
    have c2 := E.c2
    have c3 := E.c3
    have c4 := E.c4
    have c5 := E.c5
    have hs : (vcross_0 (minus_0 e0 e4) (minus_0 e1 e5) (minus_0 u e4) (minus_0 w e5) != 0 || decide (vinner_0 (minus_0 e0 e4) (minus_0 e1 e5) (minus_0 u e4) (minus_0 w e5) ≤ 0)) = !sameway_0 (minus_0 e0 e4) (minus_0 e1 e5) (minus_0 u e4) (minus_0 w e5) := by
      unfold sameway_0
      generalize vcross_0 (minus_0 e0 e4) (minus_0 e1 e5) (minus_0 u e4) (minus_0 w e5) = x
      generalize vinner_0 (minus_0 e0 e4) (minus_0 e1 e5) (minus_0 u e4) (minus_0 w e5) = i
      rw [Bool.eq_iff_iff]
      simp only [Bool.or_eq_true, Bool.not_eq_true', Bool.and_eq_false_iff, bne_iff_ne, decide_eq_true_eq, beq_eq_false_iff_ne, decide_eq_false_iff_not]
      omega
    rw [hs, ins_full]
    have m : ∀ {a b : Int}, bd 1048576 a → bd 1000000 b → minus_0 a b = a - b := fun {a b} h1 h2 => minus_eq (by omega) (by omega)
    have z1 := E.s1 hne
    have z2 := E.s2 hne
    rcases E.dir with h | rfl | rfl
    · exact absurd h hne
    · have ei : ainside_0 e0 e1 0 e2 e3 0 17 (oitem_1 e4 1) (oitem_1 e5 1) 0 (oitem_3 1) (oitem_4 1 e7) (minus_0 u e4) (minus_0 w e5) = (e7 || contains_0 (minus_0 e0 e4) (minus_0 e1 e5) (minus_0 e2 e4) (minus_0 e3 e5) (minus_0 u e4) (minus_0 w e5)) := rfl
      rw [ei, sweep_ccw]
    · have ei : ainside_0 e0 e1 0 e2 e3 0 17 (oitem_1 e4 (-1)) (oitem_1 e5 (-1)) 0 (oitem_3 (-1)) (oitem_4 (-1) e7) (minus_0 u e4) (minus_0 w e5) = (e7 || contains_0 (minus_0 e2 e4) (minus_0 e3 e5) (minus_0 e0 e4) (minus_0 e1 e5) (minus_0 u e4) (minus_0 w e5)) := rfl
      rw [ei, m (a := e0) (by omega) c4, m (a := e1) (by omega) c5, m (a := e2) (by omega) c4, m (a := e3) (by omega) c5, m hu c4, m hw c5]
      by_cases hz : u - e4 = 0 ∧ w - e5 = 0
      · rw [hz.1, hz.2, sweep_cw0 (by omega) (by omega) (by omega) (by omega)]
      · rw [sweep_cw (by omega) (by omega) (by omega) (by omega) (by omega) (by omega) z1 z2 (by omega)]
  · rw [cond_true, cond_true]
theorem md_zero (d k : Int) : muldiv_0 d k 0 2 = 0 := by
  unfold muldiv_0
  have : ((0 : Int) == 0 || !((2 : Int) == 0 || (2 : Int) == 1 || (2 : Int) == 2)) = true := rfl
  rw [this, cond_true]
theorem found_same {e0 e1 e2 e3 e4 e5 e6 f0 f1 f2 f3 f4 f5 f6 l0 l1 h0 h1 r : Int} (e7 f7 : Bool) (hd : dir1 e6) (F : EP f0 f1 f2 f3 f4 f5 f6) (hr : bd 1000000000 r) (b0 : bd 1048576 l0) (b1 : bd 1048576 l1) (b2 : bd 1048576 h0) (b3 : bd 1048576 h1) :
    (bif f6 == 0 then straight_0 l0 l1 h0 h1 e0 e1 e2 e3 e4 e5 e6 e7 r else curved_0 f0 f1 f2 f3 f4 f5 f6 f7 l0 l1 h0 h1 r e0 e1 e2 e3 e4 e5 e6 e7 r) = found_0 e0 e1 e2 e3 e4 e5 e6 e7 f0 f1 f2 f3 f4 f5 f6 f7 l0 l1 h0 h1 r ∧
    (bif f6 == 0 then straight_1 l0 l1 h0 h1 e0 e1 e2 e3 e4 e5 e6 e7 r else curved_1 f0 f1 f2 f3 f4 f5 f6 f7 l0 l1 h0 h1 r e0 e1 e2 e3 e4 e5 e6 e7 r) = found_1 e0 e1 e2 e3 e4 e5 e6 e7 f0 f1 f2 f3 f4 f5 f6 f7 l0 l1 h0 h1 r := by
  unfold found_0 found_1
  cases h6 : f6 == 0
  · simp only [cond_false]
    have sp' : ∀ a b c : Int, rspoke_0 a b c false = minus_0 a c := fun _ _ _ => rfl
    have c0 := F.c0
    have c1 := F.c1
    have c4 := F.c4
    have c5 := F.c5
    have m0 : minus_0 f0 f4 = f0 - f4 := minus_eq (by omega) (by omega)
    have m1 : minus_0 f1 f5 = f1 - f5 := minus_eq (by omega) (by omega)
    have hv : vinner_0 (minus_0 f0 f4) (minus_0 f1 f5) (minus_0 f0 f4) (minus_0 f1 f5) = (f0 - f4) * (f0 - f4) + (f1 - f5) * (f1 - f5) := by rw [m0, m1, vinner_eq (by omega) (by omega) (by omega) (by omega)]
    have hz := (sqrt_same (n := vinner_0 (minus_0 f0 f4) (minus_0 f1 f5) (minus_0 f0 f4) (minus_0 f1 f5)) (m := 2) (by rw [hv]; exact sq_nn _ _) (v_isI _ _ _ _) (.inr (.inr rfl))).1
    simp only [sp']
    rw [← hz]
    unfold curved_0 curved_1
    have key : ∀ {Z : Int}, isI Z → (crF Z f0 f1 f2 f3 f4 f5 f6 f7 e0 e1 e2 e3 e4 e5 e6 e7 r).fin (cv0 (minus_0 l0 f4) (minus_0 l1 f5) (minus_0 h0 f4) (minus_0 h1 f5)) = (faF Z f0 f1 f2 f3 f4 f5 f6 f7 e0 e1 e2 e3 e4 e5 e6 e7 r).fin (cv0 (minus_0 l0 f4) (minus_0 l1 f5) (minus_0 h0 f4) (minus_0 h1 f5)) := fun {Z} hZ =>
      cv_same hZ (fun u w => clear_same _ _ hd hr) _ _
    rw [key (wrap_isI _)]
    exact ⟨rfl, rfl⟩
  · simp only [cond_true]
    obtain ⟨en, n0, n1, n2, n3⟩ := found_n b0 b1 b2 b3
    have en' : found_s2 l0 l1 h0 h1 = found_n_ l0 l1 h0 h1 := by
      unfold found_s2 found_s1 found_s0 found_n_
      rw [wrI (x := l0 - h0) (by omega) (by omega), wrI (x := h0 - l0) (by omega) (by omega), wrI (x := h1 - l1) (by omega) (by omega), wrI (x := l1 - h1) (by omega) (by omega), show l0 - h0 = 0 - (h0 - l0) by omega, show l1 - h1 = 0 - (h1 - l1) by omega]
    have d0 : minus_0 h0 l0 = h0 - l0 := minus_eq (by omega) (by omega)
    have d1 : minus_0 h1 l1 = h1 - l1 := minus_eq (by omega) (by omega)
    unfold straight_0 straight_1
    rw [en, en', d0, d1]
    generalize found_n_ l0 l1 h0 h1 = n at *
    by_cases hn : n = 0
    · have e1 : l0 = h0 := by omega
      have e2 : l1 = h1 := by omega
      rw [hn, md_zero, md_zero, addpt_eq (by omega) (by omega), addpt_eq (by omega) (by omega)]
      exact ⟨show l0 + 0 = h0 by omega, show l1 + 0 = h1 by omega⟩
    · have hn' : (n == 0) = false := by simpa using hn
      have hn1 : 1 ≤ n ∧ n ≤ 4194304 := by omega
      have hB : (stF l0 l1 (h0 - l0) (h1 - l1) n e0 e1 e2 e3 e4 e5 e6 e7 r).fin (bs0 n) = (fdF l0 l1 h0 h1 n e0 e1 e2 e3 e4 e5 e6 e7 r).fin (bs0 n) := by
        refine bsF_congr fun k k0 k1 => ?_
        show oclear_0 e0 e1 e2 e3 e4 e5 e6 (addpt_0 l0 (muldiv_0 (h0 - l0) k n 2)) (addpt_0 l1 (muldiv_0 (h1 - l1) k n 2)) r = rclear_0 e0 e1 e2 e3 e4 e5 e6 (rbetween_0 l0 h0 k n) (rbetween_0 l1 h1 k n) r
        rw [(pt_same b0 n2 ⟨k0, k1⟩ hn1).1, (pt_same b1 n3 ⟨k0, k1⟩ hn1).1, clear_same _ _ hd hr]
      have hR : 0 ≤ (fdF l0 l1 h0 h1 n e0 e1 e2 e3 e4 e5 e6 e7 r).fin (bs0 n) ∧ (fdF l0 l1 h0 h1 n e0 e1 e2 e3 e4 e5 e6 e7 r).fin (bs0 n) ≤ n := bsF_rng _ n0
      rw [hB, hn', cond_false, cond_false]
      exact ⟨(pt_same b0 n2 hR hn1).1, (pt_same b1 n3 hR hn1).1⟩
theorem trim_same {e0 e1 e2 e3 e4 e5 e6 f0 f1 f2 f3 f4 f5 f6 r : Int} (e7 f7 : Bool) (E : EP e0 e1 e2 e3 e4 e5 e6) (F : EP f0 f1 f2 f3 f4 f5 f6) (hr : bd 1000000000 r) :
    trim_0 e0 e1 e2 e3 e4 e5 e6 e7 f0 f1 f2 f3 f4 f5 f6 f7 r = rtrim_0 e0 e1 e2 e3 e4 e5 e6 e7 f0 f1 f2 f3 f4 f5 f6 f7 r ∧ trim_1 e0 e1 e2 e3 e4 e5 e6 e7 f0 f1 f2 f3 f4 f5 f6 f7 r = rtrim_1 e0 e1 e2 e3 e4 e5 e6 e7 f0 f1 f2 f3 f4 f5 f6 f7 r ∧ trim_2 e0 e1 e2 e3 e4 e5 e6 e7 f0 f1 f2 f3 f4 f5 f6 f7 r = rtrim_2 e0 e1 e2 e3 e4 e5 e6 e7 f0 f1 f2 f3 f4 f5 f6 f7 r := by
  obtain ⟨x0, x1, x2, x3, x4⟩ := ends_same r E
  obtain ⟨y0, y1, y2, y3, y4⟩ := ends_same r F
  obtain ⟨b0, b1, b2, b3⟩ := oends_bd f0 f1 f2 f3 f4 f5 f6 r
  have fs := found_same (e0 := e0) (e1 := e1) (e2 := e2) (e3 := e3) (e4 := e4) (e5 := e5) e7 f7 E.dir F hr b0 b1 b2 b3
  have s0 : trim_s0 e0 e1 e2 e3 e4 e5 e6 e7 f0 f1 f2 f3 f4 f5 f6 f7 r = rtrim_s0 e0 e1 e2 e3 e4 e5 e6 e7 f0 f1 f2 f3 f4 f5 f6 f7 r := by
    unfold trim_s0 rtrim_s0
    rw [fs.1, y0, y1, y2, y3]
  have s1 : trim_s1 e0 e1 e2 e3 e4 e5 e6 e7 f0 f1 f2 f3 f4 f5 f6 f7 r = rtrim_s1 e0 e1 e2 e3 e4 e5 e6 e7 f0 f1 f2 f3 f4 f5 f6 f7 r := by
    unfold trim_s1 rtrim_s1
    rw [fs.2, y0, y1, y2, y3]
  have hw : ∀ a b, rwithin_0 a b = (oin_0 a 1048576 && oin_0 b 1048576) := fun _ _ => rfl
  have sp : ∀ a b c : Int, rspoke_0 a b c true = minus_0 b c := fun _ _ _ => rfl
  have sp' : ∀ a b c : Int, rspoke_0 a b c false = minus_0 a c := fun _ _ _ => rfl
  unfold trim_0 trim_1 trim_2 rtrim_0 rtrim_1 rtrim_2 rtrim_s2
  rw [s0, s1, x0, x1, x4, y2, y3, y4, clear_same _ _ E.dir hr]
  simp only [hw, sp, sp']
  generalize rtrim_s0 e0 e1 e2 e3 e4 e5 e6 e7 f0 f1 f2 f3 f4 f5 f6 f7 r = u at *
  generalize rtrim_s1 e0 e1 e2 e3 e4 e5 e6 e7 f0 f1 f2 f3 f4 f5 f6 f7 r = w at *
  cases (rends_4 e0 e1 e2 e3 e4 e5 e6 r != 0)
  · cases (rends_4 f0 f1 f2 f3 f4 f5 f6 r != 0)
    · cases (!rclear_0 e0 e1 e2 e3 e4 e5 e6 (rends_2 f0 f1 f2 f3 f4 f5 f6 r) (rends_3 f0 f1 f2 f3 f4 f5 f6 r) r)
      · simp only [cond_false]
        cases hu : oin_0 u 1048576
        · exact ⟨rfl, rfl, rfl⟩
        · cases hv : oin_0 w 1048576
          · exact ⟨rfl, rfl, rfl⟩
          · have h1 := (oin_iff (by omega) (by omega)).1 hu
            have h2 := (oin_iff (by omega) (by omega)).1 hv
            rw [ahead_same e7 _ _ E h1 h2]
            simp only [Bool.not_true, Bool.or_self, Bool.and_self, cond_false]
            cases e6 == 0
            · simp only [cond_false, Bool.not_and, Bool.not_not]
              exact ⟨trivial, trivial, trivial⟩
            · simp only [cond_true]
              have : ∀ x : Int, (!decide (x > 0)) = decide (x ≤ 0) := fun x => by
                by_cases h : x > 0
                · rw [decide_eq_true h, decide_eq_false (by omega)]; rfl
                · rw [decide_eq_false h, decide_eq_true (by omega)]; rfl
              simp only [this]
              exact ⟨trivial, trivial, trivial⟩
      · exact ⟨rfl, rfl, rfl⟩
    · exact ⟨rfl, rfl, rfl⟩
  · exact ⟨rfl, rfl, rfl⟩
end Go.Proofs.Ytjlkecfkjcanaaa
