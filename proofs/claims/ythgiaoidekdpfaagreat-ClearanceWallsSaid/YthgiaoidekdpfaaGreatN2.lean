/-
  ROOTS, the plain law: the floor of a square root, bit by bit. Conditions: none.
-/
import Derived.Test.YthgiaoidekdpfaaGreatN1
set_option linter.all false
namespace Go.Proofs.YthgiaoidekdpfaaGreat
open Go.SX Go.RowKit
/-- j of T bits of the root of x, from the highest one on. -/
noncomputable def fr (T : Nat) (x : Int) : Nat → Int
  | 0 => 0
  | j + 1 => bif decide ((fr T x j + 2 ^ (T - 1 - j)) * (fr T x j + 2 ^ (T - 1 - j)) ≤ x) then fr T x j + 2 ^ (T - 1 - j) else fr T x j
theorem two_pos (k : Nat) : (0 : Int) < 2 ^ k := Int.pow_pos (by omega)
theorem two_le {a b : Nat} (h : a ≤ b) : (2 : Int) ^ a ≤ 2 ^ b := by
  obtain ⟨d, rfl⟩ : ∃ d, b = a + d := ⟨b - a, by omega⟩
  rw [Int.pow_add]
  have h1 := two_pos a
  have h2 := two_pos d
  have := Int.mul_le_mul_of_nonneg_left (show (1 : Int) ≤ 2 ^ d by omega) (show (0 : Int) ≤ 2 ^ a by omega)
  omega
theorem two_succ (k : Nat) : (2 : Int) ^ (k + 1) = 2 * 2 ^ k := by rw [Int.pow_succ]; omega
theorem fr_inv {T : Nat} {x : Int} (h0 : 0 ≤ x) (h1 : x < 2 ^ T * 2 ^ T) : ∀ j, j ≤ T → ∃ m : Int, 0 ≤ m ∧ fr T x j = 2 ^ (T - j) * m ∧ fr T x j * fr T x j ≤ x ∧ x < (fr T x j + 2 ^ (T - j)) * (fr T x j + 2 ^ (T - j)) ∧ fr T x j + 2 ^ (T - j) ≤ 2 ^ T
  | 0, _ => ⟨0, by omega, by simp [fr], by simpa [fr] using h0, by simpa [fr] using h1, by simp [fr]⟩
  | j + 1, h => by
    obtain ⟨m, m0, e, l, u, t⟩ := fr_inv h0 h1 j (by omega)
    have ek : T - j = (T - (j + 1)) + 1 := by omega
    have ek' : T - 1 - j = T - (j + 1) := by omega
    have hp := two_pos (T - (j + 1))
    rw [ek, two_succ] at e u t
    unfold fr
    rw [ek']
    generalize (2 : Int) ^ (T - (j + 1)) = p at *
    generalize fr T x j = r at *
    by_cases hc : (r + p) * (r + p) ≤ x
    · rw [decide_eq_true hc, cond_true]
      refine ⟨2 * m + 1, by omega, by rw [e]; grind, hc, ?_, by omega⟩
      have e2 : r + p + p = r + 2 * p := by omega
      rw [e2]; exact u
    · rw [decide_eq_false hc, cond_false]
      exact ⟨2 * m, by omega, by rw [e]; grind, l, by omega, by omega⟩
/-- The root's floor. -/
theorem fr_all {T : Nat} {x : Int} (h0 : 0 ≤ x) (h1 : x < 2 ^ T * 2 ^ T) : 0 ≤ fr T x T ∧ fr T x T * fr T x T ≤ x ∧ x < (fr T x T + 1) * (fr T x T + 1) ∧ fr T x T + 1 ≤ 2 ^ T := by
  obtain ⟨m, m0, e, l, u, t⟩ := fr_inv h0 h1 T (Nat.le_refl _)
  rw [Nat.sub_self] at e u t
  have e1 : (2 : Int) ^ 0 = 1 := rfl
  rw [e1] at e u t
  exact ⟨by omega, l, u, t⟩
/-- There is one alone. -/
theorem root_one {r s x : Int} (hr : 0 ≤ r) (hs : 0 ≤ s) (h1 : r * r ≤ x) (h2 : x < (r + 1) * (r + 1)) (h3 : s * s ≤ x) (h4 : x < (s + 1) * (s + 1)) : r = s := by
  have key : ∀ {a b : Int}, 0 ≤ a → 0 ≤ b → a * a ≤ x → x < (b + 1) * (b + 1) → a ≤ b := fun {a b} ha hb g1 g2 => by
    rcases Int.lt_or_le b a with h | h
    · have := Int.mul_le_mul (show b + 1 ≤ a by omega) (show b + 1 ≤ a by omega) (by omega) ha
      omega
    · exact h
  have := key hr hs h1 h4
  have := key hs hr h3 h2
  omega
/-- A bit that is not there yet. -/
theorem or_bit {r : Int} {s : Nat} {m : Int} (hm : 0 ≤ m) (hs : s < 64) (e : r = 2 ^ (s + 1) * m) (h : r + 2 ^ s < 18446744073709551616) : ibits .or .u64 r (2 ^ s) = r + 2 ^ s := by
  obtain ⟨n, rfl⟩ := Int.eq_ofNat_of_zero_le hm
  have er : r = ((2 ^ (s + 1) * n : Nat) : Int) := by rw [e]; push_cast; rfl
  have ep : (2 : Int) ^ s = ((2 ^ s : Nat) : Int) := by push_cast; rfl
  have hp : 2 ^ s < 2 ^ (s + 1) := Nat.pow_lt_pow_right (by omega) (by omega)
  have hor := Nat.two_pow_add_eq_or_of_lt hp n
  rw [er, ep] at h ⊢
  generalize hq : 2 ^ (s + 1) * n = q at *
  generalize hp2 : 2 ^ s = p at *
  have b1 : q < 2 ^ 64 := by omega
  have b2 : p < 2 ^ 64 := by omega
  have e1 : (BitVec.ofInt 64 (q : Int)).toNat = q := by simp [BitVec.toNat_ofInt]; omega
  have e2 : (BitVec.ofInt 64 (p : Int)).toNat = p := by simp [BitVec.toNat_ofInt]; omega
  have e3 : (BitVec.ofInt 64 (q : Int) ||| BitVec.ofInt 64 (p : Int)).toNat = q + p := by rw [BitVec.toNat_or, e1, e2, hor]
  show IntKind.u64.wrap ((BitVec.ofInt 64 (q : Int) ||| BitVec.ofInt 64 (p : Int)).toNat : Int) = _
  rw [e3, wrU (by omega) (by omega)]
  push_cast; rfl
theorem shl_one {s : Nat} (hs : s < 64) : ishift .shl .u64 1 (s : Int) = 2 ^ s := by
  have hp : (2 : Int) ^ s ≤ 2 ^ 63 := two_le (by omega)
  have hq := two_pos s
  have e : min ((s : Int)).toNat IntKind.u64.bits = s := by
    have : IntKind.u64.bits = 64 := rfl
    rw [this, Int.toNat_natCast]
    omega
  unfold ishift
  simp only [e]
  rw [Int.one_mul, wrU (by omega) (by omega)]
/-- What an OR with the next bit makes of the root so far. -/
theorem fr_or {T : Nat} {x : Int} (h0 : 0 ≤ x) (h1 : x < 2 ^ T * 2 ^ T) {j : Nat} (hj : j < T) (hT : T ≤ 64) : ibits .or .u64 (fr T x j) (ishift .shl .u64 1 ((T - 1 - j : Nat) : Int)) = fr T x j + 2 ^ (T - 1 - j) ∧ 0 ≤ fr T x j + 2 ^ (T - 1 - j) ∧ fr T x j + 2 ^ (T - 1 - j) < 18446744073709551616 := by
  obtain ⟨m, m0, e, l, u, t⟩ := fr_inv h0 h1 j (by omega)
  have ek : T - j = (T - 1 - j) + 1 := by omega
  have hp := two_pos (T - 1 - j)
  have hq : (2 : Int) ^ T ≤ 2 ^ 64 := two_le hT
  have hr : 0 ≤ fr T x j := by rw [e]; exact Int.mul_nonneg (Int.le_of_lt (two_pos _)) m0
  rw [ek] at e t
  rw [two_succ] at t
  rw [shl_one (by omega)]
  have hb : fr T x j + 2 ^ (T - 1 - j) < 18446744073709551616 := by omega
  exact ⟨or_bit m0 (by omega) e hb, by omega, hb⟩
theorem fr_rng {T : Nat} {x : Int} (h0 : 0 ≤ x) (h1 : x < 2 ^ T * 2 ^ T) {j : Nat} (hj : j ≤ T) : 0 ≤ fr T x j ∧ fr T x j < 2 ^ T := by
  obtain ⟨m, m0, e, l, u, t⟩ := fr_inv h0 h1 j hj
  have hr : 0 ≤ fr T x j := by rw [e]; exact Int.mul_nonneg (Int.le_of_lt (two_pos _)) m0
  have := two_pos (T - j)
  omega
end Go.Proofs.YthgiaoidekdpfaaGreat
