/-
  DIRECTIONS, plain laws: the program's sectors and the reference's sweeps are the same; a sector and the other one. Conditions: bounds; spokes and directions are not zero.
-/
import Derived.Test.YtkggdhnliiagjaaP0
import Derived.Test.YtkggdhnliiagjaaV1
set_option linter.all false
namespace Go.Proofs.Ytkggdhnliiagjaa
open Go.SX Go.RowKit
/-! ### The program's and the reference's words -/
theorem chalf_or (a b c d : Int) : ((0 < vcross_0 a b c d ∨ vcross_0 a b c d = 0 ∧ 0 < vinner_0 a b c d) ∧ chalf_0 a b c d = 0) ∨ (¬ (0 < vcross_0 a b c d ∨ vcross_0 a b c d = 0 ∧ 0 < vinner_0 a b c d) ∧ chalf_0 a b c d = 1) := by
  unfold chalf_0
  by_cases h1 : 0 < vcross_0 a b c d
  · left; exact ⟨.inl h1, by simp [h1]⟩
  · by_cases h2 : vcross_0 a b c d = 0
    · by_cases h3 : 0 < vinner_0 a b c d
      · left; exact ⟨.inr ⟨h2, h3⟩, by simp [h2, h3]⟩
      · right; exact ⟨by omega, by simp [h2, h3]⟩
    · right; exact ⟨by omega, by rw [show decide (vcross_0 a b c d > 0) = false from decide_eq_false h1, show (vcross_0 a b c d == 0) = false by simpa using h2]; rfl⟩
theorem rhalf_or (a b c d e : Int) : ((0 < IntKind.i64.wrap (vcross_0 a b c d * e) ∨ IntKind.i64.wrap (vcross_0 a b c d * e) = 0 ∧ 0 < vinner_0 a b c d) ∧ rhalf_0 a b c d e = 0) ∨ (¬ (0 < IntKind.i64.wrap (vcross_0 a b c d * e) ∨ IntKind.i64.wrap (vcross_0 a b c d * e) = 0 ∧ 0 < vinner_0 a b c d) ∧ rhalf_0 a b c d e = 1) := by
  unfold rhalf_0
  generalize IntKind.i64.wrap (vcross_0 a b c d * e) = w
  by_cases h1 : 0 < w
  · left; exact ⟨.inl h1, by simp [h1]⟩
  · by_cases h2 : w = 0
    · by_cases h3 : 0 < vinner_0 a b c d
      · left; exact ⟨.inr ⟨h2, h3⟩, by simp [h2, h3]⟩
      · right; exact ⟨by omega, by simp [h2, h3]⟩
    · right; exact ⟨by omega, by rw [show decide (w > 0) = false from decide_eq_false h1, show (w == 0) = false by simpa using h2]; rfl⟩
abbrev b9 (x : Int) : Prop := bd 1000000000 x
/-- Counterclockwise. -/
theorem sweep_ccw (a0 a1 b0 b1 p0 p1 : Int) : contains_0 a0 a1 b0 b1 p0 p1 = insweep_0 a0 a1 b0 b1 p0 p1 1 false := by
  have e : ∀ x, isI x → IntKind.i64.wrap (x * 1) = x := fun x h => by rw [Int.mul_one]; exact wrI h.1 h.2
  have r : ∀ a b c d, rhalf_0 a b c d 1 = chalf_0 a b c d := fun a b c d => by
    unfold rhalf_0 chalf_0
    rw [e (vcross_0 a b c d) (wrap_isI _)]
  unfold contains_0 insweep_0
  rw [r, r, e (vcross_0 p0 p1 b0 b1) (wrap_isI _)]
  generalize chalf_0 a0 a1 p0 p1 = h
  generalize chalf_0 a0 a1 b0 b1 = k
  generalize vcross_0 p0 p1 b0 b1 = x
  by_cases h1 : h = k
  · subst h1; simp
  · by_cases h2 : h < k
    · rw [decide_eq_true h2, show (h != k) = true by simpa using h1]; rfl
    · rw [decide_eq_false h2, show (h != k) = true by simpa using h1, show (h == k) = false by simpa using h1]; rfl
/-- Clockwise. -/
theorem sweep_cw {a0 a1 b0 b1 p0 p1 : Int} (ha0 : b9 a0) (ha1 : b9 a1) (hb0 : b9 b0) (hb1 : b9 b1) (hp0 : b9 p0) (hp1 : b9 p1) (ha : a0 ≠ 0 ∨ a1 ≠ 0) (hb : b0 ≠ 0 ∨ b1 ≠ 0) (hp : p0 ≠ 0 ∨ p1 ≠ 0) :
    contains_0 b0 b1 a0 a1 p0 p1 = insweep_0 a0 a1 b0 b1 p0 p1 (-1) false := by
  have hN := sq_pos ha
  have bnd : ∀ {a b c d : Int}, b9 a → b9 b → b9 c → b9 d → bd 2000000000000000000 (vcross_0 a b c d) := fun {a b c d} h1 h2 h3 h4 => by
    have q1 := mul_bd h1 h4 (by omega) (by omega)
    have q2 := mul_bd h2 h3 (by omega) (by omega)
    rw [vcross_eq h1 h2 h3 h4]
    generalize a * d = s at *
    generalize b * c = t at *
    omega
  have neg : ∀ x, bd 2000000000000000000 x → IntKind.i64.wrap (x * -1) = -x := fun x h => by rw [show x * -1 = -x by omega]; exact wrI (by omega) (by omega)
  -- seen from A
  have eC : vcross_0 p0 p1 b0 b1 * (a0 * a0 + a1 * a1) = vinner_0 a0 a1 p0 p1 * vcross_0 a0 a1 b0 b1 - vcross_0 a0 a1 p0 p1 * vinner_0 a0 a1 b0 b1 := by
    rw [vcross_eq hp0 hp1 hb0 hb1, vinner_eq ha0 ha1 hp0 hp1, vcross_eq ha0 ha1 hb0 hb1, vcross_eq ha0 ha1 hp0 hp1, vinner_eq ha0 ha1 hb0 hb1]
    grind
  have eD : vinner_0 b0 b1 p0 p1 * (a0 * a0 + a1 * a1) = vinner_0 a0 a1 p0 p1 * vinner_0 a0 a1 b0 b1 + vcross_0 a0 a1 p0 p1 * vcross_0 a0 a1 b0 b1 := by
    rw [vinner_eq hb0 hb1 hp0 hp1, vinner_eq ha0 ha1 hp0 hp1, vcross_eq ha0 ha1 hb0 hb1, vcross_eq ha0 ha1 hp0 hp1, vinner_eq ha0 ha1 hb0 hb1]
    grind
  have e1 : vcross_0 b0 b1 p0 p1 = -vcross_0 p0 p1 b0 b1 := by rw [vcross_eq hb0 hb1 hp0 hp1, vcross_eq hp0 hp1 hb0 hb1]; grind
  have e2 : vcross_0 b0 b1 a0 a1 = -vcross_0 a0 a1 b0 b1 := by rw [vcross_eq hb0 hb1 ha0 ha1, vcross_eq ha0 ha1 hb0 hb1]; grind
  have e3 : vinner_0 b0 b1 a0 a1 = vinner_0 a0 a1 b0 b1 := by rw [vinner_eq hb0 hb1 ha0 ha1, vinner_eq ha0 ha1 hb0 hb1]; grind
  have e4 : vcross_0 p0 p1 a0 a1 = -vcross_0 a0 a1 p0 p1 := by rw [vcross_eq hp0 hp1 ha0 ha1, vcross_eq ha0 ha1 hp0 hp1]; grind
  have nz : ∀ {q0 q1 : Int}, b9 q0 → b9 q1 → (q0 ≠ 0 ∨ q1 ≠ 0) → vinner_0 a0 a1 q0 q1 ≠ 0 ∨ vcross_0 a0 a1 q0 q1 ≠ 0 := fun {q0 q1} h0 h1 hq => by
    have hM := sq_pos hq
    have e : vinner_0 a0 a1 q0 q1 * vinner_0 a0 a1 q0 q1 + vcross_0 a0 a1 q0 q1 * vcross_0 a0 a1 q0 q1 = (a0 * a0 + a1 * a1) * (q0 * q0 + q1 * q1) := by
      rw [vinner_eq ha0 ha1 h0 h1, vcross_eq ha0 ha1 h0 h1]
      grind
    have hpos := Int.mul_pos hN hM
    rw [← e] at hpos
    by_cases q1 : vinner_0 a0 a1 q0 q1 = 0
    · right
      intro q2
      rw [q1, q2] at hpos
      simp at hpos
    · exact .inl q1
  have core := sweep_core (x := vinner_0 a0 a1 p0 p1) (y := vcross_0 a0 a1 p0 p1) (u := vinner_0 a0 a1 b0 b1) (v := vcross_0 a0 a1 b0 b1) (c := vcross_0 p0 p1 b0 b1) (d := vinner_0 b0 b1 p0 p1) (nz hp0 hp1 hp) (nz hb0 hb1 hb)
    ⟨fun h => by rw [← eC]; exact scaled_pos hN h, fun h => by rw [← eC] at h; exact pos_of_scaled hN h⟩ ⟨fun h => by rw [← eC]; exact scaled_neg hN h, fun h => by rw [← eC] at h; exact neg_of_scaled hN h⟩ ⟨fun h => by rw [← eD]; exact scaled_pos hN h, fun h => by rw [← eD] at h; exact pos_of_scaled hN h⟩
  have o1 := chalf_or b0 b1 p0 p1
  have o2 := chalf_or b0 b1 a0 a1
  have o3 := rhalf_or a0 a1 p0 p1 (-1)
  have o4 := rhalf_or a0 a1 b0 b1 (-1)
  rw [neg _ (bnd ha0 ha1 hp0 hp1)] at o3
  rw [neg _ (bnd ha0 ha1 hb0 hb1)] at o4
  rw [e1] at o1
  rw [e2, e3] at o2
  unfold contains_0 insweep_0
  rw [neg _ (bnd hp0 hp1 hb0 hb1), e4]
  clear eC eD e1 e2 e3 e4
  generalize chalf_0 b0 b1 p0 p1 = q at *
  generalize chalf_0 b0 b1 a0 a1 = k at *
  generalize rhalf_0 a0 a1 p0 p1 (-1) = h at *
  generalize rhalf_0 a0 a1 b0 b1 (-1) = k' at *
  generalize vcross_0 p0 p1 b0 b1 = c at *
  generalize vinner_0 b0 b1 p0 p1 = d at *
  generalize vcross_0 a0 a1 p0 p1 = y at *
  generalize vinner_0 a0 a1 p0 p1 = x at *
  generalize vcross_0 a0 a1 b0 b1 = v at *
  generalize vinner_0 a0 a1 b0 b1 = u at *
  clear nz neg bnd ha hb hp hN ha0 ha1 hb0 hb1 hp0 hp1
  have Q1 : ((c < 0 ∨ c = 0 ∧ 0 < d) ∧ q = 0) ∨ (¬ (c < 0 ∨ c = 0 ∧ 0 < d) ∧ q = 1) := by
    rcases o1 with ⟨g1, g2⟩ | ⟨g1, g2⟩
    · exact .inl ⟨by omega, g2⟩
    · exact .inr ⟨by omega, g2⟩
  have Q2 : ((v < 0 ∨ v = 0 ∧ 0 < u) ∧ k = 0 ∧ k' = 0) ∨ (¬ (v < 0 ∨ v = 0 ∧ 0 < u) ∧ k = 1 ∧ k' = 1) := by
    rcases o2 with ⟨g1, g2⟩ | ⟨g1, g2⟩ <;> rcases o4 with ⟨g3, g4⟩ | ⟨g3, g4⟩
    · exact .inl ⟨by omega, g2, g4⟩
    · exfalso; omega
    · exfalso; omega
    · exact .inr ⟨by omega, g2, g4⟩
  have Q3 : ((y < 0 ∨ y = 0 ∧ 0 < x) ∧ h = 0) ∨ (¬ (y < 0 ∨ y = 0 ∧ 0 < x) ∧ h = 1) := by
    rcases o3 with ⟨g1, g2⟩ | ⟨g1, g2⟩
    · exact .inl ⟨by omega, g2⟩
    · exact .inr ⟨by omega, g2⟩
  clear o1 o2 o3 o4
  generalize (c < 0 ∨ c = 0 ∧ 0 < d) = Q at *
  generalize (v < 0 ∨ v = 0 ∧ 0 < u) = K at *
  generalize (y < 0 ∨ y = 0 ∧ 0 < x) = H at *
  rcases Q1 with ⟨A, rfl⟩ | ⟨A, rfl⟩ <;> rcases Q2 with ⟨B, rfl, rfl⟩ | ⟨B, rfl, rfl⟩ <;> rcases Q3 with ⟨D, rfl⟩ | ⟨D, rfl⟩ <;>
    simp only [A, B, D, true_and, false_and, not_true_eq_false, not_false_eq_true, false_or, or_false, true_or, or_true, and_true, iff_true, true_iff, iff_false, false_iff] at core <;>
    rw [Bool.eq_iff_iff] <;> simp <;> omega
/-! ### A sector and the other one -/
/-- Both have the same direction. -/
noncomputable def algn (a b c d : Int) : Bool := vcross_0 a b c d == 0 && decide (vinner_0 a b c d > 0)
/-- The signs that make a sector: (x, y): the direction, (u, v): B, both seen from A; c: the cross product of the direction and B; d: their inner product. -/
theorem sec_core {x y u v c d : Int} (hp : x ≠ 0 ∨ y ≠ 0) (hb : u ≠ 0 ∨ v ≠ 0) (hna : ¬ (v = 0 ∧ 0 < u)) (hc1 : 0 < c ↔ 0 < x * v - y * u) (hc2 : c < 0 ↔ x * v - y * u < 0) (hd : 0 < d ↔ 0 < x * u + y * v) :
    ((((0 < y ∨ y = 0 ∧ 0 < x) ∧ (¬ (0 < v ∨ v = 0 ∧ 0 < u) ∨ 0 ≤ c)) ∨ (¬ (0 < y ∨ y = 0 ∧ 0 < x) ∧ ¬ (0 < v ∨ v = 0 ∧ 0 < u) ∧ 0 ≤ c)) ∨
     (((y < 0 ∨ y = 0 ∧ 0 < x) ∧ (¬ (v < 0 ∨ v = 0 ∧ 0 < u) ∨ c ≤ 0)) ∨ (¬ (y < 0 ∨ y = 0 ∧ 0 < x) ∧ ¬ (v < 0 ∨ v = 0 ∧ 0 < u) ∧ c ≤ 0))) ∧
    (((((0 < y ∨ y = 0 ∧ 0 < x) ∧ (¬ (0 < v ∨ v = 0 ∧ 0 < u) ∨ 0 ≤ c)) ∨ (¬ (0 < y ∨ y = 0 ∧ 0 < x) ∧ ¬ (0 < v ∨ v = 0 ∧ 0 < u) ∧ 0 ≤ c)) ∧
     (((y < 0 ∨ y = 0 ∧ 0 < x) ∧ (¬ (v < 0 ∨ v = 0 ∧ 0 < u) ∨ c ≤ 0)) ∨ (¬ (y < 0 ∨ y = 0 ∧ 0 < x) ∧ ¬ (v < 0 ∨ v = 0 ∧ 0 < u) ∧ c ≤ 0))) ↔
     ((y = 0 ∧ 0 < x) ∨ (c = 0 ∧ 0 < d))) := by
  have key : c = 0 → 0 < y * v → 0 < d := fun h1 h2 => hd.2 (same_way (by omega) h2)
  have key2 : c = 0 → y * v < 0 → ¬ 0 < d := fun h1 h2 h3 => by
    have h4 := hd.1 h3
    have hv : v ≠ 0 := fun h => by rw [h, Int.mul_zero] at h2; omega
    have e : x * v = y * u := by omega
    have h5 : (x * u + y * v) * (v * v) = (y * v) * (u * u + v * v) := by grind
    have h6 : 0 < v * v := by have := sq_pos (x := 0) (y := v) (.inr hv); simpa using this
    have h7 := Int.mul_pos h4 h6
    have h8 : 0 < u * u + v * v := sq_pos (.inr hv)
    have h9 := Int.mul_neg_of_neg_of_pos h2 h8
    omega
  have zl : ∀ {s : Int} (r : Int), s = 0 → s * r = 0 := fun r h => by rw [h, Int.zero_mul]
  have zr : ∀ {s : Int} (r : Int), s = 0 → r * s = 0 := fun r h => by rw [h, Int.mul_zero]
  rcases Int.lt_trichotomy y 0 with hy | hy | hy <;> rcases Int.lt_trichotomy v 0 with hv | hv | hv
  · have := Int.mul_pos_of_neg_of_neg hy hv; have := key; omega
  · have := zr x hv; have := zr y hv
    rcases Int.lt_trichotomy u 0 with hu | hu | hu
    · have := Int.mul_pos_of_neg_of_neg hy hu; omega
    · omega
    · have := Int.mul_neg_of_neg_of_pos hy hu; omega
  · have := Int.mul_neg_of_neg_of_pos hy hv; have := key2; omega
  · have := zl u hy; have := zl v hy
    rcases Int.lt_trichotomy x 0 with hx | hx | hx
    · have := Int.mul_pos_of_neg_of_neg hx hv; omega
    · omega
    · have := Int.mul_neg_of_pos_of_neg hx hv; omega
  · have := zl u hy; have := zl v hy; have := zr x hv
    rcases Int.lt_trichotomy x 0 with hx | hx | hx <;> rcases Int.lt_trichotomy u 0 with hu | hu | hu
    · have := Int.mul_pos_of_neg_of_neg hx hu; omega
    · omega
    · have := Int.mul_neg_of_neg_of_pos hx hu; omega
    · omega
    · omega
    · omega
    · have := Int.mul_neg_of_pos_of_neg hx hu; omega
    · omega
    · have := Int.mul_pos hx hu; omega
  · have := zl u hy; have := zl v hy
    rcases Int.lt_trichotomy x 0 with hx | hx | hx
    · have := Int.mul_neg_of_neg_of_pos hx hv; omega
    · omega
    · have := Int.mul_pos hx hv; omega
  · have := Int.mul_neg_of_pos_of_neg hy hv; have := key2; omega
  · have := zr x hv; have := zr y hv
    rcases Int.lt_trichotomy u 0 with hu | hu | hu
    · have := Int.mul_neg_of_pos_of_neg hy hu; omega
    · omega
    · have := Int.mul_pos hy hu; omega
  · have := Int.mul_pos hy hv; have := key; omega
end Go.Proofs.Ytkggdhnliiagjaa
