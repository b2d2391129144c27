/-
  WIDE.CMP, the plain law: it compares the two products. Conditions: the factors are ints.
-/
import Derived.Test.YthgiaoidekdpfaaGreatW3
set_option linter.all false
namespace Go.Proofs.YthgiaoidekdpfaaGreat
open Go.SX Go.RowKit
/-- The comparison of two numbers. -/
noncomputable def cmpI (x y : Int) : Int := if x < y then -1 else if x = y then 0 else 1
abbrev isI (x : Int) : Prop := -9223372036854775808 ≤ x ∧ x < 9223372036854775808
theorem wrI {x : Int} (h1 : -9223372036854775808 ≤ x) (h2 : x < 9223372036854775808) : IntKind.i64.wrap x = x := by
  unfold IntKind.wrap
  simp only [IntKind.bits, IntKind.signed]
  simp
  omega
theorem wsize_eq (a : Int) (h : isI a) : wsize_0 a = if a < 0 then -a else a := by
  obtain ⟨h1, h2⟩ := h
  unfold wsize_0
  by_cases hn : a < 0
  · rw [decide_eq_true hn, cond_true, if_pos hn, wrI (x := a + 1) (by omega) (by omega), wrI (x := 0 - (a + 1)) (by omega) (by omega), wrU (x := 0 - (a + 1)) (by omega) (by omega), wrU (by omega) (by omega)]
    omega
  · rw [decide_eq_false hn, cond_false, if_neg hn, wrU (by omega) (by omega)]
theorem wsign_or (a b : Int) : (wsign_0 a b = 0 ∧ a * b = 0) ∨ (wsign_0 a b = 1 ∧ 0 < a * b ∧ (if a < 0 then -a else a) * (if b < 0 then -b else b) = a * b) ∨ (wsign_0 a b = -1 ∧ a * b < 0 ∧ (if a < 0 then -a else a) * (if b < 0 then -b else b) = -(a * b)) := by
  unfold wsign_0
  by_cases ha : a = 0
  · subst ha; exact .inl ⟨rfl, Int.zero_mul _⟩
  by_cases hb : b = 0
  · subst hb; exact .inl ⟨by simp, Int.mul_zero _⟩
  have e : (a == 0 || b == 0) = false := by simp [ha, hb]
  rw [e, cond_false]
  right
  by_cases h1 : a < 0 <;> by_cases h2 : b < 0
  · refine .inl ⟨by simp [h1, h2], ?_, ?_⟩
    · exact Int.mul_pos_of_neg_of_neg h1 h2
    · rw [if_pos h1, if_pos h2, Int.neg_mul_neg]
  · refine .inr ⟨by simp [h1, h2], ?_, ?_⟩
    · exact Int.mul_neg_of_neg_of_pos h1 (by omega)
    · rw [if_pos h1, if_neg h2, Int.neg_mul]
  · refine .inr ⟨by simp [h1, h2], ?_, ?_⟩
    · exact Int.mul_neg_of_pos_of_neg (by omega) h2
    · rw [if_neg h1, if_pos h2, Int.mul_neg]
  · refine .inl ⟨by simp [h1, h2], ?_, ?_⟩
    · exact Int.mul_pos (by omega) (by omega)
    · rw [if_neg h1, if_neg h2]
theorem wcomp_eq (x y : Int) (hx : 0 ≤ x) (hy : 0 ≤ y) : wcomp_0 (x / 18446744073709551616) (x % 18446744073709551616) (y / 18446744073709551616) (y % 18446744073709551616) = cmpI x y := by
  unfold wcomp_0 cmpI
  by_cases h : x < y
  · rw [if_pos h]
    have : (decide (x / 18446744073709551616 < y / 18446744073709551616) || x / 18446744073709551616 == y / 18446744073709551616 && decide (x % 18446744073709551616 < y % 18446744073709551616)) = true := by
      simp only [Bool.or_eq_true, Bool.and_eq_true, decide_eq_true_eq, beq_iff_eq]; omega
    rw [this]; rfl
  · rw [if_neg h]
    have : (decide (x / 18446744073709551616 < y / 18446744073709551616) || x / 18446744073709551616 == y / 18446744073709551616 && decide (x % 18446744073709551616 < y % 18446744073709551616)) = false := by
      rw [Bool.eq_false_iff]
      simp only [ne_eq, Bool.or_eq_true, Bool.and_eq_true, decide_eq_true_eq, beq_iff_eq]; omega
    rw [this, cond_false]
    by_cases h2 : x = y
    · subst h2; simp
    · rw [if_neg h2]
      have : (x / 18446744073709551616 == y / 18446744073709551616 && x % 18446744073709551616 == y % 18446744073709551616) = false := by
        rw [Bool.eq_false_iff]
        simp only [ne_eq, Bool.and_eq_true, beq_iff_eq]; omega
      rw [this]; rfl
theorem wcmp_eq (a b c d : Int) (ha : isI a) (hb : isI b) (hc : isI c) (hd : isI d) : wcmp_0 a b c d = cmpI (a * b) (c * d) := by
  unfold wcmp_0
  rw [wsize_eq a ha, wsize_eq b hb, wsize_eq c hc, wsize_eq d hd]
  have r : ∀ x : Int, isI x → 0 ≤ (if x < 0 then -x else x) ∧ (if x < 0 then -x else x) < 18446744073709551616 := fun x hx => by
    obtain ⟨h1, h2⟩ := hx
    split <;> omega
  rw [mul64_hi _ _ (r a ha) (r b hb), mul64_lo, mul64_hi _ _ (r c hc) (r d hd), mul64_lo]
  have x0 := Int.mul_nonneg (r a ha).1 (r b hb).1
  have y0 := Int.mul_nonneg (r c hc).1 (r d hd).1
  rw [wcomp_eq _ _ x0 y0]
  have s1 := wsign_or a b
  have s2 := wsign_or c d
  generalize (if a < 0 then -a else a) * (if b < 0 then -b else b) = X at *
  generalize (if c < 0 then -c else c) * (if d < 0 then -d else d) = Y at *
  generalize a * b = P at *
  generalize c * d = Q at *
  have w : ∀ x : Int, -1 ≤ x ∧ x ≤ 1 → IntKind.i64.wrap x = x := fun x h => wrI (by omega) (by omega)
  have hcm : cmpI X Y = -1 ∧ X < Y ∨ cmpI X Y = 0 ∧ X = Y ∨ cmpI X Y = 1 ∧ Y < X := by unfold cmpI; (repeat' split) <;> omega
  have hcp : cmpI P Q = -1 ∧ P < Q ∨ cmpI P Q = 0 ∧ P = Q ∨ cmpI P Q = 1 ∧ Q < P := by unfold cmpI; (repeat' split) <;> omega
  generalize cmpI X Y = m at *
  generalize cmpI P Q = n at *
  rcases s1 with ⟨e1, p1⟩ | ⟨e1, p1, q1⟩ | ⟨e1, p1, q1⟩ <;> rcases s2 with ⟨e2, p2⟩ | ⟨e2, p2, q2⟩ | ⟨e2, p2, q2⟩ <;> rw [e1, e2]
  · show IntKind.i64.wrap (0 * m) = n; rw [w _ (by omega)]; omega
  · show (-1 : Int) = n; omega
  · show (1 : Int) = n; omega
  · show (1 : Int) = n; omega
  · show IntKind.i64.wrap (1 * m) = n; rw [w _ (by omega)]; omega
  · show (1 : Int) = n; omega
  · show (-1 : Int) = n; omega
  · show (-1 : Int) = n; omega
  · show IntKind.i64.wrap (-1 * m) = n; rw [w _ (by omega)]; omega
end Go.Proofs.YthgiaoidekdpfaaGreat
