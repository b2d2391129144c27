/-
  DIGITS, the plain law: numbers as lists of digits to the base 65536: their values, products, ends and comparison. Conditions: none.
-/
import Derived.Test.YthgiaoidekdpfaaGreatW4
set_option linter.all false
namespace Go.Proofs.YthgiaoidekdpfaaGreat
open Go.SX Go.RowKit
abbrev Dg := List (List Int)
noncomputable def dg (xs : Dg) (i : Nat) : Int := (xs.getD i []).getD 0 0
noncomputable def val : Dg → Int
  | [] => 0
  | r :: rs => r.getD 0 0 + 65536 * val rs
abbrev isD (x : Int) : Prop := 0 ≤ x ∧ x < 65536
def rng (xs : Dg) : Prop := ∀ i, isD (dg xs i)
theorem dg_def (xs : Dg) (i : Nat) : dg xs i = (xs[i]?.getD []).getD 0 0 := rfl
theorem dg_nil (i : Nat) : dg [] i = 0 := by simp [dg]
theorem dg_zero (r : List Int) (rs : Dg) : dg (r :: rs) 0 = r.getD 0 0 := rfl
theorem dg_succ (r : List Int) (rs : Dg) (i : Nat) : dg (r :: rs) (i + 1) = dg rs i := rfl
theorem dg_big {xs : Dg} {i : Nat} (h : xs.length ≤ i) : dg xs i = 0 := by
  rw [dg_def, List.getElem?_eq_none h]
  rfl
theorem dg_set (v : Int) : ∀ (xs : Dg) (j i : Nat), j < xs.length → dg (xs.set j [v]) i = if i = j then v else dg xs i
  | [], _, _, h => by simp at h
  | r :: rs, 0, 0, _ => by simp [dg]
  | r :: rs, 0, i + 1, _ => by simp [dg]
  | r :: rs, j + 1, 0, _ => by simp [dg]
  | r :: rs, j + 1, i + 1, h => by
    have := dg_set v rs j i (by simpa using h)
    rw [List.set_cons_succ, dg_succ, dg_succ, this]
    by_cases e : i = j
    · rw [if_pos e, if_pos (by omega)]
    · rw [if_neg e, if_neg (by omega)]
theorem val_set (v : Int) : ∀ (xs : Dg) (j : Nat), j < xs.length → val (xs.set j [v]) = val xs + (v - dg xs j) * 65536 ^ j
  | [], _, h => by simp at h
  | r :: rs, 0, _ => by simp [dg, val]; omega
  | r :: rs, j + 1, h => by
    have := val_set v rs j (by simpa using h)
    rw [List.set_cons_succ, val, val, this, dg_succ, Int.pow_succ]
    generalize (65536 : Int) ^ j = p
    generalize dg rs j = d
    grind
theorem val_take : ∀ (xs : Dg) (k : Nat), val (xs.take (k + 1)) = val (xs.take k) + dg xs k * 65536 ^ k
  | [], k => by simp [val, dg]
  | r :: rs, 0 => by simp [val, dg]
  | r :: rs, k + 1 => by
    have := val_take rs k
    rw [List.take_succ_cons, val, this, List.take_succ_cons, val, dg_succ, Int.pow_succ]
    generalize (65536 : Int) ^ k = p
    grind
theorem pow_pos' (k : Nat) : (0 : Int) < 65536 ^ k := Int.pow_pos (by omega)
theorem val_lt {xs : Dg} (h : rng xs) : ∀ k, 0 ≤ val (xs.take k) ∧ val (xs.take k) < 65536 ^ k
  | 0 => by simp [val]
  | k + 1 => by
    obtain ⟨h1, h2⟩ := val_lt h k
    obtain ⟨h3, h4⟩ := h k
    have hp := pow_pos' k
    rw [val_take, Int.pow_succ]
    have h5 : 0 ≤ dg xs k * 65536 ^ k := Int.mul_nonneg h3 (by omega)
    have h6 : dg xs k * 65536 ^ k ≤ 65535 * 65536 ^ k := Int.mul_le_mul_of_nonneg_right (by omega) (by omega)
    generalize dg xs k * 65536 ^ k = q at *
    generalize (65536 : Int) ^ k = p at *
    omega
theorem val_all (xs : Dg) : val (xs.take xs.length) = val xs := by rw [List.take_length]

/-! ### The product -/
/-- A row's product with one digit, laid onto a number. -/
noncomputable def inn (x : Int) (B O : Dg) (i : Nat) : Nat → Dg × Int
  | 0 => (O, 0)
  | k + 1 => ((inn x B O i k).1.set (i + k) [(dg (inn x B O i k).1 (i + k) + x * dg B k + (inn x B O i k).2) % 65536], (dg (inn x B O i k).1 (i + k) + x * dg B k + (inn x B O i k).2) / 65536)
theorem inn_len (x : Int) (B O : Dg) (i : Nat) : ∀ k, (inn x B O i k).1.length = O.length
  | 0 => rfl
  | k + 1 => by rw [inn, List.length_set, inn_len x B O i k]
theorem dig_prod {x y : Int} (hx : isD x) (hy : isD y) : 0 ≤ x * y ∧ x * y ≤ 4294836225 := ⟨Int.mul_nonneg hx.1 hy.1, by
  have := Int.mul_le_mul (show x ≤ 65535 by omega) (show y ≤ 65535 by omega) hy.1 (by omega)
  omega⟩
theorem inn_rng {x : Int} {B O : Dg} {i : Nat} (hx : isD x) (hB : rng B) (hO : rng O) : ∀ k, i + k ≤ O.length → rng (inn x B O i k).1 ∧ isD (inn x B O i k).2
  | 0, _ => ⟨hO, by show isD 0; decide⟩
  | k + 1, h => by
    obtain ⟨h1, h2, h3⟩ := inn_rng (i := i) hx hB hO k (by omega)
    obtain ⟨h4, h5⟩ := h1 (i + k)
    obtain ⟨h6, h7⟩ := dig_prod hx (hB k)
    refine ⟨fun j => ?_, ?_⟩
    · rw [inn, dg_set _ _ _ _ (by rw [inn_len]; omega)]
      split
      · constructor <;> omega
      · exact h1 j
    · rw [inn]
      constructor <;> simp only <;> omega
theorem inn_same (x : Int) (B O : Dg) (i : Nat) : ∀ k j, i + k ≤ O.length → i + k ≤ j → dg (inn x B O i k).1 j = dg O j
  | 0, _, _, _ => rfl
  | k + 1, j, h1, h2 => by rw [inn, dg_set _ _ _ _ (by rw [inn_len]; omega), if_neg (by omega), inn_same x B O i k j (by omega) (by omega)]
theorem inn_val (x : Int) (B O : Dg) (i : Nat) : ∀ k, i + k ≤ O.length → val (inn x B O i k).1 + (inn x B O i k).2 * 65536 ^ (i + k) = val O + x * val (B.take k) * 65536 ^ i
  | 0, _ => by simp [inn, val]
  | k + 1, h => by
    have ih := inn_val x B O i k (by omega)
    rw [inn, val_take, val_set _ _ _ (by rw [inn_len]; omega)]
    rw [← Nat.add_assoc, Int.pow_succ]
    have e : (65536 : Int) ^ (i + k) = 65536 ^ i * 65536 ^ k := Int.pow_add _ _ _
    have dm := Int.mul_ediv_add_emod (dg (inn x B O i k).1 (i + k) + x * dg B k + (inn x B O i k).2) 65536
    generalize (dg (inn x B O i k).1 (i + k) + x * dg B k + (inn x B O i k).2) % 65536 = m at *
    generalize (dg (inn x B O i k).1 (i + k) + x * dg B k + (inn x B O i k).2) / 65536 = q at *
    generalize dg (inn x B O i k).1 (i + k) = d at *
    generalize (inn x B O i k).2 = c at *
    generalize val (inn x B O i k).1 = v at *
    generalize dg B k = b at *
    generalize val (B.take k) = t at *
    rw [e] at ih ⊢
    generalize (65536 : Int) ^ i = p at *
    generalize (65536 : Int) ^ k = r at *
    simp only
    grind
/-- The product. -/
noncomputable def mulO (A B : Dg) : Nat → Dg
  | 0 => List.replicate (A.length + B.length) [0]
  | i + 1 => (inn (dg A i) B (mulO A B i) i B.length).1.set (i + B.length) [dg (inn (dg A i) B (mulO A B i) i B.length).1 (i + B.length) + (inn (dg A i) B (mulO A B i) i B.length).2]
theorem mulO_len (A B : Dg) : ∀ i, (mulO A B i).length = A.length + B.length
  | 0 => by simp [mulO]
  | i + 1 => by rw [mulO, List.length_set, inn_len, mulO_len A B i]
theorem dg_rep (n i : Nat) : dg (List.replicate n [0]) i = 0 := by
  rw [dg_def, List.getElem?_replicate]
  split <;> rfl
theorem val_rep : ∀ n, val (List.replicate n [0]) = 0
  | 0 => rfl
  | n + 1 => by rw [List.replicate_succ, val, val_rep n]; rfl
theorem mulO_top {A B : Dg} : ∀ i j, i ≤ A.length → i + B.length ≤ j → dg (mulO A B i) j = 0
  | 0, j, _, _ => dg_rep _ _
  | i + 1, j, h1, h2 => by
    rw [mulO, dg_set _ _ _ _ (by rw [inn_len, mulO_len]; omega), if_neg (by omega), inn_same _ _ _ _ _ _ (by rw [mulO_len]; omega) (by omega), mulO_top i j (by omega) (by omega)]
theorem mulO_rng {A B : Dg} (hA : rng A) (hB : rng B) : ∀ i, i ≤ A.length → rng (mulO A B i)
  | 0, _ => fun j => by rw [mulO, dg_rep]; decide
  | i + 1, h => by
    have ih := mulO_rng hA hB i (by omega)
    have hl := mulO_len A B i
    obtain ⟨h1, h2⟩ := inn_rng (hA i) hB ih B.length (i := i) (by omega)
    intro j
    rw [mulO, dg_set _ _ _ _ (by rw [inn_len]; omega)]
    split
    · rw [inn_same _ _ _ _ _ _ (by omega) (by omega), mulO_top i _ (by omega) (by omega), Int.zero_add]; exact h2
    · exact h1 j
theorem mulO_val {A B : Dg} : ∀ i, i ≤ A.length → val (mulO A B i) = val (A.take i) * val B
  | 0, _ => by simp [mulO, val_rep, val]
  | i + 1, h => by
    have ih := mulO_val (A := A) (B := B) i (by omega)
    have hl := mulO_len A B i
    have hv := inn_val (dg A i) B (mulO A B i) i B.length (by omega)
    rw [mulO, val_set _ _ _ (by rw [inn_len]; omega), val_take]
    rw [val_all, ih] at hv
    generalize dg (inn (dg A i) B (mulO A B i) i B.length).1 (i + B.length) = d at *
    generalize (inn (dg A i) B (mulO A B i) i B.length).2 = c at *
    generalize val (inn (dg A i) B (mulO A B i) i B.length).1 = v at *
    generalize (65536 : Int) ^ (i + B.length) = q at *
    generalize (65536 : Int) ^ i = p at *
    generalize val (A.take i) = t at *
    generalize val B = s at *
    generalize dg A i = x at *
    grind

/-! ### The end -/
noncomputable def cutN (xs : Dg) : Nat → Nat
  | 0 => 0
  | j + 1 => bif dg xs j == 0 then cutN xs j else j + 1
theorem cutN_le (xs : Dg) : ∀ n, cutN xs n ≤ n
  | 0 => Nat.le_refl _
  | n + 1 => by
    have := cutN_le xs n
    unfold cutN
    cases dg xs n == 0
    · exact Nat.le_refl _
    · exact Nat.le_succ_of_le this
theorem cutN_val (xs : Dg) : ∀ n, val (xs.take (cutN xs n)) = val (xs.take n)
  | 0 => rfl
  | n + 1 => by
    rw [cutN, val_take]
    cases h : dg xs n == 0
    · rw [cond_false, val_take]
    · rw [cond_true, cutN_val xs n, beq_iff_eq.1 h]; simp
theorem cutN_top (xs : Dg) : ∀ n, cutN xs n ≠ 0 → dg xs (cutN xs n - 1) ≠ 0
  | 0, h => absurd rfl h
  | n + 1, h => by
    rw [cutN] at h ⊢
    cases h1 : dg xs n == 0
    · rw [cond_false]
      simpa using h1
    · rw [h1, cond_true] at h
      rw [cond_true]; exact cutN_top xs n h
noncomputable def cutL (xs : Dg) : Dg := xs.take (cutN xs xs.length)
theorem cutL_len (xs : Dg) : (cutL xs).length = cutN xs xs.length := by
  have := cutN_le xs xs.length
  simp [cutL]; omega
theorem cutL_val (xs : Dg) : val (cutL xs) = val xs := by rw [cutL, cutN_val, val_all]
theorem dg_take (xs : Dg) (n i : Nat) : dg (xs.take n) i = if i < n then dg xs i else 0 := by
  rw [dg_def, dg_def, List.getElem?_take]
  split
  · rfl
  · rfl
theorem cutL_rng {xs : Dg} (h : rng xs) : rng (cutL xs) := fun i => by
  rw [cutL, dg_take]
  split
  · exact h i
  · decide
def norm (xs : Dg) : Prop := xs.length ≠ 0 → dg xs (xs.length - 1) ≠ 0
theorem cutL_norm (xs : Dg) : norm (cutL xs) := fun h => by
  rw [cutL_len] at h ⊢
  rw [cutL, dg_take, if_pos (by omega)]
  exact cutN_top xs _ h

/-! ### The comparison -/
noncomputable def cmpR (A B : Dg) : Nat → Int
  | 0 => 0
  | j + 1 => bif decide (dg A j < dg B j) then -1 else bif decide (dg B j < dg A j) then 1 else cmpR A B j
theorem cmpI_lt {x y : Int} (h : x < y) : cmpI x y = -1 := by unfold cmpI; rw [if_pos h]
theorem cmpI_gt {x y : Int} (h : y < x) : cmpI x y = 1 := by unfold cmpI; rw [if_neg (by omega), if_neg (by omega)]
theorem cmpI_self (x : Int) : cmpI x x = 0 := by unfold cmpI; rw [if_neg (by omega), if_pos rfl]
theorem step_lt {a b p x y : Int} (h : a < b) (hp : 0 < p) (hx : x < p) (hy : 0 ≤ y) : x + a * p < y + b * p := by
  have := Int.mul_le_mul_of_nonneg_right (show a + 1 ≤ b by omega) (show 0 ≤ p by omega)
  rw [Int.add_mul] at this
  omega
theorem cmpI_add (x y z : Int) : cmpI (x + z) (y + z) = cmpI x y := by
  unfold cmpI
  by_cases h : x < y
  · rw [if_pos h, if_pos (by omega)]
  · rw [if_neg h, if_neg (by omega)]
    by_cases h : x = y
    · rw [if_pos h, if_pos (by omega)]
    · rw [if_neg h, if_neg (by omega)]
theorem cmpR_eq {A B : Dg} (hA : rng A) (hB : rng B) : ∀ n, cmpR A B n = cmpI (val (A.take n)) (val (B.take n))
  | 0 => by simp [cmpR, val, cmpI]
  | n + 1 => by
    obtain ⟨a1, a2⟩ := val_lt hA n
    obtain ⟨b1, b2⟩ := val_lt hB n
    have hp := pow_pos' n
    rw [cmpR, val_take, val_take]
    by_cases h1 : dg A n < dg B n
    · rw [decide_eq_true h1, cond_true, cmpI_lt (step_lt h1 hp a2 b1)]
    · rw [decide_eq_false h1, cond_false]
      by_cases h2 : dg B n < dg A n
      · rw [decide_eq_true h2, cond_true, cmpI_gt (step_lt h2 hp b2 a1)]
      · rw [decide_eq_false h2, cond_false, show dg A n = dg B n by omega, cmpI_add, cmpR_eq hA hB n]
theorem val_ge {xs : Dg} (h : rng xs) (hn : norm xs) {k : Nat} (hk : k < xs.length) : 65536 ^ k ≤ val xs := by
  obtain ⟨m, hm⟩ : ∃ m, xs.length = m + 1 := ⟨xs.length - 1, by omega⟩
  rw [← val_all xs, hm, val_take]
  obtain ⟨a1, _⟩ := val_lt h m
  have h1 := hn (by omega)
  rw [hm, Nat.add_sub_cancel] at h1
  have h2 := (h m).1
  have hp : (65536 : Int) ^ k ≤ 65536 ^ m := by
    obtain ⟨d, hd⟩ : ∃ d, m = k + d := ⟨m - k, by omega⟩
    rw [hd, Int.pow_add]
    have h3 : (1 : Int) ≤ 65536 ^ d := by have := pow_pos' d; omega
    have := Int.mul_le_mul_of_nonneg_left h3 (show (0 : Int) ≤ 65536 ^ k from Int.le_of_lt (pow_pos' k))
    omega
  have h4 := Int.mul_le_mul_of_nonneg_right (show 1 ≤ dg xs m by omega) (show (0 : Int) ≤ 65536 ^ m from Int.le_of_lt (pow_pos' m))
  omega
theorem val_len {xs : Dg} (h : rng xs) : 0 ≤ val xs ∧ val xs < 65536 ^ xs.length := by rw [← val_all xs]; simpa using val_lt h xs.length
/-- The comparison of two numbers without leading zeros. -/
noncomputable def cmpD (A B : Dg) : Int := bif Int.ofNat A.length != Int.ofNat B.length then (bif decide (Int.ofNat A.length < Int.ofNat B.length) then -1 else 1) else cmpR A B A.length
theorem cmpD_eq {A B : Dg} (hA : rng A) (hB : rng B) (nA : norm A) (nB : norm B) : cmpD A B = cmpI (val A) (val B) := by
  unfold cmpD
  obtain ⟨_, a2⟩ := val_len hA
  obtain ⟨_, b2⟩ := val_len hB
  by_cases h : A.length = B.length
  · rw [h]
    simp only [bne_self_eq_false, cond_false]
    rw [cmpR_eq hA hB]
    have := val_all A
    rw [h] at this
    rw [this, val_all]
  · have : (Int.ofNat A.length != Int.ofNat B.length) = true := by simp; omega
    rw [this, cond_true]
    by_cases h2 : A.length < B.length
    · rw [decide_eq_true (by simpa using h2), cond_true]
      have := val_ge hB nB h2
      rw [cmpI_lt (by omega)]
    · rw [decide_eq_false (by simpa using h2), cond_false]
      have := val_ge hA nA (show B.length < A.length by omega)
      rw [cmpI_gt (by omega)]

/-! ### The digits of a number -/
noncomputable def limb (n : Int) (j : Nat) : Dg := (List.range j).map fun i => [n / 65536 ^ i % 65536]
theorem limb_len (n : Int) (j : Nat) : (limb n j).length = j := by simp [limb]
theorem limb_succ (n : Int) (j : Nat) : limb n (j + 1) = limb n j ++ [[n / 65536 ^ j % 65536]] := by
  unfold limb
  rw [List.range_succ, List.map_append]
  rfl
theorem limb_dg (n : Int) (j i : Nat) : dg (limb n j) i = if i < j then n / 65536 ^ i % 65536 else 0 := by
  rw [dg_def]
  unfold limb
  rw [List.getElem?_map]
  by_cases h : i < j
  · rw [List.getElem?_range h, if_pos h]; rfl
  · rw [List.getElem?_eq_none (by simp; omega), if_neg h]; rfl
theorem limb_rng (n : Int) (j : Nat) : rng (limb n j) := fun i => by
  rw [limb_dg]
  split
  · constructor <;> omega
  · decide
theorem div_pow (n : Int) (j : Nat) : n / 65536 ^ (j + 1) = n / 65536 ^ j / 65536 := by
  rw [Int.pow_succ, Int.ediv_ediv_of_nonneg (Int.le_of_lt (pow_pos' j))]
theorem limb_val (n : Int) : ∀ j, val (limb n j) + n / 65536 ^ j * 65536 ^ j = n
  | 0 => by simp [limb, val]
  | j + 1 => by
    have ih := limb_val n j
    have e : val (limb n (j + 1)) = val (limb n j) + n / 65536 ^ j % 65536 * 65536 ^ j := by
      have := val_take (limb n (j + 1)) j
      rw [limb_dg, if_pos (by omega)] at this
      have h1 : (limb n (j + 1)).take (j + 1) = limb n (j + 1) := List.take_of_length_le (by rw [limb_len]; omega)
      have h2 : (limb n (j + 1)).take j = limb n j := by
        rw [limb_succ, List.take_append_of_le_length (by rw [limb_len]; omega), List.take_of_length_le (by rw [limb_len]; omega)]
      rw [h1, h2] at this
      exact this
    rw [e, div_pow, Int.pow_succ]
    have dm := Int.mul_ediv_add_emod (n / 65536 ^ j) 65536
    generalize n / 65536 ^ j / 65536 = q at *
    generalize n / 65536 ^ j % 65536 = m at *
    generalize n / 65536 ^ j = s at *
    generalize val (limb n j) = v at *
    generalize (65536 : Int) ^ j = p at *
    grind
/-- How many digits. -/
noncomputable def nd (n : Int) : Nat := bif decide (0 < n) then (bif decide (0 < n / 65536 ^ 1) then (bif decide (0 < n / 65536 ^ 2) then (bif decide (0 < n / 65536 ^ 3) then 4 else 3) else 2) else 1) else 0
theorem nd_cases {n : Int} (h : 0 ≤ n) (h2 : n < 18446744073709551616) : (nd n = 0 ∧ n = 0) ∨ (nd n = 1 ∧ 0 < n ∧ n < 65536) ∨ (nd n = 2 ∧ 65536 ≤ n ∧ n < 4294967296) ∨ (nd n = 3 ∧ 4294967296 ≤ n ∧ n < 281474976710656) ∨ (nd n = 4 ∧ 281474976710656 ≤ n) := by
  unfold nd
  have e1 : (65536 : Int) ^ 1 = 65536 := rfl
  have e2 : (65536 : Int) ^ 2 = 4294967296 := rfl
  have e3 : (65536 : Int) ^ 3 = 281474976710656 := rfl
  rw [e1, e2, e3]
  by_cases k0 : 0 < n
  · by_cases k1 : 0 < n / 65536
    · by_cases k2 : 0 < n / 4294967296
      · by_cases k3 : 0 < n / 281474976710656
        · rw [decide_eq_true k0, decide_eq_true k1, decide_eq_true k2, decide_eq_true k3]; exact .inr (.inr (.inr (.inr ⟨rfl, by omega⟩)))
        · rw [decide_eq_true k0, decide_eq_true k1, decide_eq_true k2, decide_eq_false k3]; exact .inr (.inr (.inr (.inl ⟨rfl, by omega, by omega⟩)))
      · rw [decide_eq_true k0, decide_eq_true k1, decide_eq_false k2]; exact .inr (.inr (.inl ⟨rfl, by omega, by omega⟩))
    · rw [decide_eq_true k0, decide_eq_false k1]; exact .inr (.inl ⟨rfl, by omega, by omega⟩)
  · rw [decide_eq_false k0]; exact .inl ⟨rfl, by omega⟩
theorem nd_spec {n : Int} (h : 0 ≤ n) (h2 : n < 18446744073709551616) {j : Nat} (hj : j ≤ 4) : (0 < n / 65536 ^ j ↔ j < nd n) ∧ nd n ≤ 4 := by
  have e0 : (65536 : Int) ^ 0 = 1 := rfl
  have e1 : (65536 : Int) ^ 1 = 65536 := rfl
  have e2 : (65536 : Int) ^ 2 = 4294967296 := rfl
  have e3 : (65536 : Int) ^ 3 = 281474976710656 := rfl
  have e4 : (65536 : Int) ^ 4 = 18446744073709551616 := rfl
  have hc := nd_cases h h2
  generalize nd n = k at *
  have : j = 0 ∨ j = 1 ∨ j = 2 ∨ j = 3 ∨ j = 4 := by omega
  rcases this with rfl | rfl | rfl | rfl | rfl <;> simp only [e0, e1, e2, e3, e4] <;> refine ⟨⟨fun _ => ?_, fun _ => ?_⟩, ?_⟩ <;> omega
noncomputable def limbL (n : Int) : Dg := limb n (nd n)
theorem limbL_val {n : Int} (h : 0 ≤ n) (h2 : n < 18446744073709551616) : val (limbL n) = n := by
  have h4 := (nd_spec h h2 (j := 0) (by omega)).2
  have h3 := (nd_spec h h2 h4).1
  have := limb_val n (nd n)
  have h5 : ¬ 0 < n / 65536 ^ nd n := fun h => by have := h3.1 h; omega
  have h6 : 0 ≤ n / 65536 ^ nd n := Int.ediv_nonneg h (Int.le_of_lt (pow_pos' _))
  rw [show n / 65536 ^ nd n = 0 by omega, Int.zero_mul, Int.add_zero] at this
  exact this
/-- A product, by its digits. -/
noncomputable def prodL (a b : Int) : Dg := cutL (mulO (limbL a) (limbL b) (limbL a).length)
theorem prodL_eq {a b : Int} (ha : 0 ≤ a ∧ a < 18446744073709551616) (hb : 0 ≤ b ∧ b < 18446744073709551616) : rng (prodL a b) ∧ norm (prodL a b) ∧ val (prodL a b) = a * b := by
  refine ⟨cutL_rng (mulO_rng (limb_rng _ _) (limb_rng _ _) _ (Nat.le_refl _)), cutL_norm _, ?_⟩
  unfold prodL
  rw [cutL_val, mulO_val _ (Nat.le_refl _), val_all, limbL_val ha.1 ha.2, limbL_val hb.1 hb.2]
theorem shr16 (x : Int) (h : 0 ≤ x) : ishift .shr .u64 x 16 = x / 65536 := by
  have e : (2 : Int) ^ min (16 : Int).toNat IntKind.u64.bits = 65536 := by decide
  unfold ishift
  simp only [e]
  exact Int.fdiv_eq_ediv_of_nonneg _ (by omega)
theorem and16 (x : Int) (h1 : 0 ≤ x) (h2 : x < 18446744073709551616) : ibits .and .u64 x 65535 = x % 65536 := by
  obtain ⟨n, rfl⟩ := Int.eq_ofNat_of_zero_le h1
  have h3 : n < 18446744073709551616 := by omega
  have e : (BitVec.ofInt 64 (n : Int) &&& BitVec.ofInt 64 65535).toNat = n % 65536 := by
    rw [BitVec.toNat_and]
    have e1 : (BitVec.ofInt 64 (n : Int)).toNat = n := by simp [BitVec.toNat_ofInt]; omega
    have e2 : (BitVec.ofInt 64 (65535 : Int)).toNat = 2 ^ 16 - 1 := by decide
    rw [e1, e2, Nat.and_two_pow_sub_one_eq_mod]
  show IntKind.u64.wrap ((BitVec.ofInt 64 (n : Int) &&& BitVec.ofInt 64 65535).toNat : Int) = _
  rw [e, wrU (by omega) (by omega)]
  omega
theorem div_rng {n : Int} (h : 0 ≤ n) (h2 : n < 18446744073709551616) (j : Nat) : 0 ≤ n / 65536 ^ j ∧ n / 65536 ^ j < 18446744073709551616 := by
  have hp := pow_pos' j
  refine ⟨Int.ediv_nonneg h (by omega), Int.lt_of_le_of_lt (Int.ediv_le_self _ h) h2⟩
end Go.Proofs.YthgiaoidekdpfaaGreat
