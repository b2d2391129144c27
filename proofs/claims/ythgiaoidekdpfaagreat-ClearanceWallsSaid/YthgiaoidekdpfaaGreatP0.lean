/-
  PLAIN LAWS: bounds, signs, comparisons. Conditions: bounds of the coordinates.
-/
import Derived.Test.YthgiaoidekdpfaaGreatW8
import Derived.Test.YthgiaoidekdpfaaGreatW4
set_option linter.all false
namespace Go.Proofs.YthgiaoidekdpfaaGreat
open Go.SX Go.RowKit
theorem wrap_isI (x : Int) : isI (IntKind.i64.wrap x) := by
  unfold IntKind.wrap isI
  simp only [IntKind.bits, IntKind.signed]
  simp
  omega
theorem mod_rng (a b : Int) (h : 1 ≤ b) (hb : b ≤ 4611686018427387904) : 0 ≤ mod_0 a b ∧ mod_0 a b < b := by
  unfold mod_0
  have h1 := Int.tmod_lt_of_pos a (b := b) (by omega)
  have h2 : -b < a.tmod b := by
    have := Int.tmod_lt_of_pos (-a) (b := b) (by omega)
    rw [Int.neg_tmod] at this
    omega
  by_cases h3 : a.tmod b < 0
  · simp only [h3, decide_true, cond_true]
    rw [wrI (by omega) (by omega)]
    omega
  · simp only [h3, decide_false, cond_false]
    omega
theorem between_rng (a b c : Int) (h1 : -1000000000 ≤ b) (h2 : b ≤ c) (h3 : c ≤ 1000000000) : b ≤ between_0 a b c ∧ between_0 a b c ≤ c := by
  unfold between_0
  rw [wrI (x := c - b) (by omega) (by omega), wrI (x := c - b + 1) (by omega) (by omega)]
  have := mod_rng a (c - b + 1) (by omega) (by omega)
  rw [wrI (by omega) (by omega)]
  omega
abbrev bd (m x : Int) : Prop := -m ≤ x ∧ x ≤ m
theorem minus_eq {a c : Int} (ha : bd 1000000000 a) (hc : bd 1000000000 c) : minus_0 a c = a - c := by unfold minus_0; rw [wrI (by omega) (by omega)]
theorem addpt_eq {a c : Int} (ha : bd 1000000000 a) (hc : bd 1000000000 c) : addpt_0 a c = a + c := by unfold addpt_0; rw [wrI (by omega) (by omega)]
theorem mul_bd {m n x y : Int} (hx : bd m x) (hy : bd n y) (hm : 0 ≤ m) (hn : 0 ≤ n) : bd (m * n) (x * y) := by
  have h : ∀ u v : Int, 0 ≤ u → u ≤ m → 0 ≤ v → v ≤ n → 0 ≤ u * v ∧ u * v ≤ m * n := fun u v h1 h2 h3 h4 => ⟨Int.mul_nonneg h1 h3, Int.mul_le_mul h2 h4 h3 hm⟩
  by_cases h1 : 0 ≤ x <;> by_cases h2 : 0 ≤ y
  · have := h x y h1 (by omega) h2 (by omega); constructor <;> omega
  · have := h x (-y) h1 (by omega) (by omega) (by omega); rw [Int.mul_neg] at this; constructor <;> omega
  · have := h (-x) y (by omega) (by omega) h2 (by omega); rw [Int.neg_mul] at this; constructor <;> omega
  · have := h (-x) (-y) (by omega) (by omega) (by omega) (by omega); rw [Int.neg_mul_neg] at this; constructor <;> omega
theorem vcross_eq {a b c d : Int} (ha : bd 1000000000 a) (hb : bd 1000000000 b) (hc : bd 1000000000 c) (hd : bd 1000000000 d) : vcross_0 a b c d = a * d - b * c := by
  have h1 := mul_bd ha hd (by omega) (by omega)
  have h2 := mul_bd hb hc (by omega) (by omega)
  unfold vcross_0
  generalize a * d = p at *
  generalize b * c = q at *
  rw [wrI (x := p) (by omega) (by omega), wrI (x := q) (by omega) (by omega), wrI (by omega) (by omega)]
theorem vinner_eq {a b c d : Int} (ha : bd 1000000000 a) (hb : bd 1000000000 b) (hc : bd 1000000000 c) (hd : bd 1000000000 d) : vinner_0 a b c d = a * c + b * d := by
  have h1 := mul_bd ha hc (by omega) (by omega)
  have h2 := mul_bd hb hd (by omega) (by omega)
  unfold vinner_0
  generalize a * c = p at *
  generalize b * d = q at *
  rw [wrI (x := p) (by omega) (by omega), wrI (x := q) (by omega) (by omega), wrI (by omega) (by omega)]
theorem cmpI_cases (x y : Int) : (x < y ∧ cmpI x y = -1) ∨ (x = y ∧ cmpI x y = 0) ∨ (y < x ∧ cmpI x y = 1) := by
  unfold cmpI
  by_cases h : x < y
  · exact .inl ⟨h, if_pos h⟩
  · by_cases h2 : x = y
    · exact .inr (.inl ⟨h2, by rw [if_neg h, if_pos h2]⟩)
    · exact .inr (.inr ⟨by omega, by rw [if_neg h, if_neg h2]⟩)
theorem csgn {x : Int} (h : isI x) : wcmp_0 x 1 0 1 = cmpI x 0 := by
  rw [wcmp_eq x 1 0 1 h (by decide) (by decide) (by decide), Int.mul_one, Int.mul_one]
theorem minus_self (a : Int) : minus_0 a a = 0 := by unfold minus_0; rw [Int.sub_self]; rfl
theorem sq_pos {x y : Int} (h : x ≠ 0 ∨ y ≠ 0) : 0 < x * x + y * y := by
  have h1 : ∀ z : Int, 0 ≤ z * z := fun z => by
    rcases Int.le_total 0 z with h | h
    · exact Int.mul_nonneg h h
    · have := Int.mul_nonneg (show 0 ≤ -z by omega) (show 0 ≤ -z by omega)
      rwa [Int.neg_mul_neg] at this
  have h2 : ∀ z : Int, z ≠ 0 → 0 < z * z := fun z hz => by
    have := h1 z
    have : z * z ≠ 0 := Int.mul_ne_zero hz hz
    omega
  rcases h with h | h
  · have := h2 x h; have := h1 y; omega
  · have := h2 y h; have := h1 x; omega
theorem pos_of_scaled {c n : Int} (hn : 0 < n) (h : 0 < c * n) : 0 < c := by
  rcases Int.lt_or_le 0 c with h1 | h1
  · exact h1
  · have := Int.mul_nonneg (show 0 ≤ -c by omega) (show 0 ≤ n by omega)
    rw [Int.neg_mul] at this
    omega
theorem neg_of_scaled {c n : Int} (hn : 0 < n) (h : c * n < 0) : c < 0 := by
  have := pos_of_scaled (c := -c) hn (by rw [Int.neg_mul]; omega)
  omega
theorem scaled_pos {c n : Int} (hn : 0 < n) (h : 0 < c) : 0 < c * n := Int.mul_pos h hn
theorem scaled_neg {c n : Int} (hn : 0 < n) (h : c < 0) : c * n < 0 := by
  have := Int.mul_pos (show 0 < -c by omega) hn
  rw [Int.neg_mul] at this
  omega
/-- Two that are parallel and lie on one side point the same way. -/
theorem same_way {x y u v : Int} (hc : x * v = y * u) (hs : 0 < y * v) : 0 < x * u + y * v := by
  have hv : v ≠ 0 := fun h => by rw [h, Int.mul_zero] at hs; omega
  have h1 := sq_pos (x := u) (y := v) (.inr hv)
  have h2 : (x * u + y * v) * (v * v) = (y * v) * (u * u + v * v) := by grind
  have h3 : 0 < v * v := by have := sq_pos (x := 0) (y := v) (.inr hv); simpa using this
  exact pos_of_scaled h3 (by rw [h2]; exact Int.mul_pos hs h1)
/-- CLOCKWISE from A to B, or counterclockwise from B to A. (x, y): the direction; (u, v): B; both seen from A. -/
theorem sweep_core {x y u v c d : Int} (hp : x ≠ 0 ∨ y ≠ 0) (hb : u ≠ 0 ∨ v ≠ 0) (hc1 : 0 < c ↔ 0 < x * v - y * u) (hc2 : c < 0 ↔ x * v - y * u < 0) (hd : 0 < d ↔ 0 < x * u + y * v) :
    (((c < 0 ∨ c = 0 ∧ 0 < d) ∧ (¬ (v < 0 ∨ v = 0 ∧ 0 < u) ∨ y ≤ 0)) ∨ (¬ (c < 0 ∨ c = 0 ∧ 0 < d) ∧ ¬ (v < 0 ∨ v = 0 ∧ 0 < u) ∧ y ≤ 0)) ↔
    (((y < 0 ∨ y = 0 ∧ 0 < x) ∧ (¬ (v < 0 ∨ v = 0 ∧ 0 < u) ∨ c ≤ 0)) ∨ (¬ (y < 0 ∨ y = 0 ∧ 0 < x) ∧ ¬ (v < 0 ∨ v = 0 ∧ 0 < u) ∧ c ≤ 0)) := by
  have key : c = 0 → 0 < y * v → 0 < d := fun h1 h2 => hd.2 (same_way (by omega) h2)
  have zl : ∀ {s : Int} (r : Int), s = 0 → s * r = 0 := fun r h => by rw [h, Int.zero_mul]
  have zr : ∀ {s : Int} (r : Int), s = 0 → r * s = 0 := fun r h => by rw [h, Int.mul_zero]
  rcases Int.lt_trichotomy y 0 with hy | hy | hy <;> rcases Int.lt_trichotomy v 0 with hv | hv | hv
  · have := Int.mul_pos_of_neg_of_neg hy hv; have := key; omega
  · have := zr x hv; have := zr y hv
    rcases Int.lt_trichotomy u 0 with hu | hu | hu
    · have := Int.mul_pos_of_neg_of_neg hy hu; omega
    · omega
    · have := Int.mul_neg_of_neg_of_pos hy hu; omega
  · omega
  · have := zl u hy; have := zl v hy
    rcases Int.lt_trichotomy x 0 with hx | hx | hx
    · have := Int.mul_pos_of_neg_of_neg hx hv; omega
    · omega
    · have := Int.mul_neg_of_pos_of_neg hx hv; omega
  · have := zl u hy; have := zl v hy; have := zr x hv
    rcases Int.lt_trichotomy x 0 with hx | hx | hx <;> rcases Int.lt_trichotomy u 0 with hu | hu | hu
    · have := Int.mul_pos_of_neg_of_neg hx hu; omega
    · omega
    · have := Int.mul_neg_of_neg_of_pos hx hu; omega
    · omega
    · omega
    · omega
    · have := Int.mul_neg_of_pos_of_neg hx hu; omega
    · omega
    · have := Int.mul_pos hx hu; omega
  · have := zl u hy; have := zl v hy
    rcases Int.lt_trichotomy x 0 with hx | hx | hx
    · have := Int.mul_neg_of_neg_of_pos hx hv; omega
    · omega
    · have := Int.mul_pos hx hv; omega
  · omega
  · have := zr x hv; have := zr y hv
    rcases Int.lt_trichotomy u 0 with hu | hu | hu
    · have := Int.mul_neg_of_pos_of_neg hy hu; omega
    · omega
    · have := Int.mul_pos hy hu; omega
  · have := Int.mul_pos hy hv; have := key; omega
theorem sq_nn (x y : Int) : 0 ≤ x * x + y * y := by
  by_cases h : x ≠ 0 ∨ y ≠ 0
  · have := sq_pos h; omega
  · have h1 : x = 0 := by omega
    have h2 : y = 0 := by omega
    subst h1; subst h2; decide
theorem cmpI_ge (x y : Int) : decide (cmpI x y ≥ 0) = decide (y ≤ x) := by
  rcases cmpI_cases x y with ⟨h1, h2⟩ | ⟨h1, h2⟩ | ⟨h1, h2⟩ <;> rw [h2] <;> simp <;> omega
theorem cmpI_le (x y : Int) : decide (cmpI x y ≤ 0) = decide (x ≤ y) := by
  rcases cmpI_cases x y with ⟨h1, h2⟩ | ⟨h1, h2⟩ | ⟨h1, h2⟩ <;> rw [h2] <;> simp <;> omega
end Go.Proofs.YthgiaoidekdpfaaGreat
