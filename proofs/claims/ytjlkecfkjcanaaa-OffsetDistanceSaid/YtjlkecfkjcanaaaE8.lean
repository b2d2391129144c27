/-
  DISTANCE of an offset's ends, plain laws. Conditions: bounds.
-/
import Derived.Test.YtjlkecfkjcanaaaE7
set_option linter.all false
namespace Go.Proofs.Ytjlkecfkjcanaaa
open Go.SX Go.RowKit
theorem Lr_self {B : Int} : Lr B 2 B := .inl (by omega)
theorem rt_near {b c d A B : Int} (hd : bd 2 d) (hA : b * b + c * c = A) (hB : (b + d) * (b + d) + c * c = B) : Lr A 2 B ∧ Lr B 2 A := by
  have h1 : d * d ≤ 4 := by
    have := mul_bd hd hd (by omega) (by omega); omega
  refine ⟨tri_L (s0 := b) (s1 := c) (d0 := d) (d1 := 0) (by omega) hA (by rw [Int.add_zero]; exact hB), tri_L (s0 := b + d) (s1 := c) (d0 := -d) (d1 := 0) (by rw [Int.neg_mul_neg]; omega) hB ?_⟩
  rw [show b + d + -d = b by omega, Int.add_zero]; exact hA
theorem rt_zero {b c A B : Int} (hA : b * b + c * c = A) (hB : b * b + c * c = B) : Lr A 2 B ∧ Lr B 2 A := by
  have : A = B := by omega
  subst this
  exact ⟨Lr_self, Lr_self⟩
theorem spokes_rt (a : Int) (L : List (List Int)) : Lr (spokes_0 a L * spokes_0 a L + spokes_1 a L * spokes_1 a L) 2 (spokes_2 a L * spokes_2 a L + spokes_3 a L * spokes_3 a L) ∧ Lr (spokes_2 a L * spokes_2 a L + spokes_3 a L * spokes_3 a L) 2 (spokes_0 a L * spokes_0 a L + spokes_1 a L * spokes_1 a L) := by
  obtain ⟨h0, h1, _, _⟩ := spokes_bd a L
  have r := range_rng (-2) 2 (next_1 (next_1 (next_1 (next_1 (next_1 (next_1 a L) L) L) L) L) L) L (by omega) (by omega) (by omega)
  have z0 : ptm_0 (spokes_s0 a L) (next_1 a L) L = spokes_0 a L := rfl
  have z1 : ptm_1 (spokes_s0 a L) (next_1 a L) L = spokes_1 a L := rfl
  have w0 : IntKind.i64.wrap (0 - spokes_0 a L) = -spokes_0 a L := by rw [wrI (by omega) (by omega)]; omega
  have w1 : IntKind.i64.wrap (0 - spokes_1 a L) = -spokes_1 a L := by rw [wrI (by omega) (by omega)]; omega
  have e2 : spokes_2 a L = bif next_0 8 (next_1 (next_1 (next_1 a L) L) L) L == 0 then spokes_0 a L
      else bif next_0 3 (next_1 (next_1 (next_1 (next_1 (next_1 a L) L) L) L) L) L == 0 then
        IntKind.i64.wrap (spokes_s1 a L + range_0 (-2) 2 (next_1 (next_1 (next_1 (next_1 (next_1 (next_1 a L) L) L) L) L) L) L)
      else spokes_s1 a L := rfl
  have e3 : spokes_3 a L = bif next_0 8 (next_1 (next_1 (next_1 a L) L) L) L == 0 then spokes_1 a L
      else bif next_0 4 (next_1 (next_1 (next_1 (next_1 a L) L) L) L) L == 0 then spokes_0 a L
      else bif next_0 4 (next_1 (next_1 (next_1 (next_1 a L) L) L) L) L == 1 then -spokes_1 a L
      else bif next_0 4 (next_1 (next_1 (next_1 (next_1 a L) L) L) L) L == 2 then spokes_0 a L else -spokes_0 a L := by
    rw [← w0, ← w1]; rfl
  have es : spokes_s1 a L = bif next_0 4 (next_1 (next_1 (next_1 (next_1 a L) L) L) L) L == 0 then -spokes_1 a L
      else bif next_0 4 (next_1 (next_1 (next_1 (next_1 a L) L) L) L) L == 1 then -spokes_0 a L
      else bif next_0 4 (next_1 (next_1 (next_1 (next_1 a L) L) L) L) L == 2 then spokes_1 a L else spokes_1 a L := by
    rw [← w0, ← w1]; rfl
  rw [e2, e3]
  generalize spokes_s1 a L = s at *
  generalize spokes_0 a L = p at *
  generalize spokes_1 a L = k at *
  generalize range_0 (-2) 2 (next_1 (next_1 (next_1 (next_1 (next_1 (next_1 a L) L) L) L) L) L) L = d at *
  cases next_0 8 (next_1 (next_1 (next_1 a L) L) L) L == 0
  · simp only [cond_false]
    have key : ∀ b c : Int, bd 20000 b → b * b + c * c = p * p + k * k → s = b → ∀ g : Bool, Lr (p * p + k * k) 2 ((bif g then IntKind.i64.wrap (s + d) else s) * (bif g then IntKind.i64.wrap (s + d) else s) + c * c) ∧ Lr ((bif g then IntKind.i64.wrap (s + d) else s) * (bif g then IntKind.i64.wrap (s + d) else s) + c * c) 2 (p * p + k * k) := fun b c hb h hs g => by
      subst hs
      cases g
      · simp only [cond_false]; exact rt_zero h rfl
      · simp only [cond_true]
        rw [wrI (by omega) (by omega)]
        exact rt_near (b := s) (c := c) (d := d) (by omega) h rfl
    revert es
    cases next_0 4 (next_1 (next_1 (next_1 (next_1 a L) L) L) L) L == 0 <;> cases next_0 4 (next_1 (next_1 (next_1 (next_1 a L) L) L) L) L == 1 <;> cases next_0 4 (next_1 (next_1 (next_1 (next_1 a L) L) L) L) L == 2 <;> simp only [cond_true, cond_false] <;> intro es <;> exact key _ _ (by omega) (by first | rfl | omega | (simp only [Int.neg_mul_neg]; omega) | (simp only [Int.neg_mul_neg])) es _
  · exact ⟨Lr_self, Lr_self⟩
theorem element_rt {u v a : Int} (L : List (List Int)) (hu : bd 900000 u) (hv : bd 900000 v) (h6 : element_6 a L ≠ 0) {A B : Int}
    (hA : (element_0 u a L - element_4 u a L) * (element_0 u a L - element_4 u a L) + (element_0 v a L - element_5 v a L) * (element_0 v a L - element_5 v a L) = A) (hB : (element_2 u a L - element_4 u a L) * (element_2 u a L - element_4 u a L) + (element_3 v a L - element_5 v a L) * (element_3 v a L - element_5 v a L) = B) : Lr A 2 B ∧ Lr B 2 A := by
  obtain ⟨h0, h1, h2, h3⟩ := spokes_bd (next_1 a L) L
  have hs := spokes_rt (next_1 a L) L
  have m1 : ∀ {x y : Int}, bd 900000 x → bd 20000 y → x - minus_0 x y = y := fun {x y} h1 h2 => by
    rw [minus_eq (a := x) (c := y) (by omega) (by omega)]; omega
  have m2 : ∀ {x y z : Int}, bd 900000 x → bd 20000 y → bd 20002 z → addpt_0 (minus_0 x y) z - minus_0 x y = z := fun {x y z} h1 h2 h3 => by
    rw [minus_eq (a := x) (c := y) (by omega) (by omega), addpt_eq (by omega) (by omega)]; omega
  unfold element_6 at h6
  unfold element_0 element_4 element_5 at hA
  unfold element_2 element_3 element_4 element_5 at hB
  cases hn : next_0 3 a L == 0
  · rw [hn] at h6; exact absurd rfl h6
  · rw [hn] at h6 hA hB
    rw [cond_true] at h6
    cases hf : fit_0 (spokes_0 (next_1 a L) L) (spokes_1 (next_1 a L) L) (spokes_2 (next_1 a L) L) (spokes_3 (next_1 a L) L) (spokes_4 (next_1 a L) L)
    · rw [hf] at h6; exact absurd rfl h6
    · rw [hf] at hA hB
      simp only [cond_true] at hA hB
      rw [m1 hu h0, m1 hv h1] at hA
      rw [m2 hu h0 h2, m2 hv h1 h3] at hB
      rw [← hA, ← hB]
      exact hs
theorem pair_rt (L : List (List Int)) (h6 : qa6 L ≠ 0) {A B : Int} (hA : (qa0 L - qa4 L) * (qa0 L - qa4 L) + (qa1 L - qa5 L) * (qa1 L - qa5 L) = A) (hB : (qa2 L - qa4 L) * (qa2 L - qa4 L) + (qa3 L - qa5 L) * (qa3 L - qa5 L) = B) : Lr A 2 B ∧ Lr B 2 A := by
  have hu := range_rng (-900) 900 (pair_s0 L) L (by omega) (by omega) (by omega)
  have hv := range_rng (-900) 900 (pair_s1 L) L (by omega) (by omega) (by omega)
  exact element_rt (u := range_0 (-900) 900 (pair_s0 L) L) (v := range_0 (-900) 900 (pair_s1 L) L) (a := next_1 (next_1 (pair_s0 L) L) L) L (by omega) (by omega) h6 hA hB
/-- Reaches, as an inequality of roots. -/
theorem reach_iff {x c y : Int} (hx : 0 ≤ x ∧ x ≤ 100000000000000) (hy : 0 ≤ y ∧ y ≤ 100000000000000) (hc : 0 ≤ c ∧ c ≤ 40000) : reaches_0 x c y = true ↔ Rr x c y := by
  have hcc := prod_lt 40000 40000 hc hc (by omega)
  have h4 := prod_lt 160000 40000 (x := 4 * c) (y := c) (by omega) hc (by omega)
  have e : reaches_s0 x c y = y - x - c * c := by
    unfold reaches_s0
    rw [wrI (x := y - x) (by omega) (by omega), wrI (x := c * c) (by omega) (by omega), wrI (by omega) (by omega)]
  have i0 : isI (y - x - c * c) := ⟨by omega, by omega⟩
  have i1 : isI (4 * c * c) := ⟨by omega, by omega⟩
  have ix : isI x := ⟨by omega, by omega⟩
  unfold reaches_0 reaches_s1
  rw [e, wrI (x := 4 * c) (by omega) (by omega), wrI (x := 4 * c * c) (by omega) (by omega), wcmp_eq _ _ _ _ i1 ix i0 i0, cmpI_le]
  rw [Bool.and_eq_true, decide_eq_true_eq, decide_eq_true_eq, show 4 * c * c * x = 4 * (c * c * x) by rw [Int.mul_assoc 4 c c, Int.mul_assoc]]
  exact Iff.rfl
theorem clear_arc {e0 e1 e2 e3 e4 e5 e6 y0 y1 r : Int} (h6 : e6 ≠ 0) (h2 : bd 1000000 e2) (h3 : bd 1000000 e3) (h4 : bd 1000000 e4) (h5 : bd 1000000 e5) (g0 : bd 1100000 y0) (g1 : bd 1100000 y1) (hr : bd 40000 r) {c B V : Int} (hc : (if -r > r then -r else r) = c) (hB : (e2 - e4) * (e2 - e4) + (e3 - e5) * (e3 - e5) = B) (hV : (y0 - e4) * (y0 - e4) + (y1 - e5) * (y1 - e5) = V) :
    (oinward_0 e6 r = true → (oclear_0 e0 e1 e2 e3 e4 e5 e6 y0 y1 r = true ↔ Rr V c B)) ∧ (oinward_0 e6 r = false → (oclear_0 e0 e1 e2 e3 e4 e5 e6 y0 y1 r = true ↔ Rr B c V)) := by
  have z : (e6 == 0) = false := by simpa using h6
  have a1 : oclear_s1 r = c := by rw [(abs_sq (r := r) (by omega)).1]; exact hc
  have m1 := mul_bd (m := 2000000) (n := 2000000) (x := e2 - e4) (y := e2 - e4) (by omega) (by omega) (by omega) (by omega)
  have m2 := mul_bd (m := 2000000) (n := 2000000) (x := e3 - e5) (y := e3 - e5) (by omega) (by omega) (by omega) (by omega)
  have m3 := mul_bd (m := 2100000) (n := 2100000) (x := y0 - e4) (y := y0 - e4) (by omega) (by omega) (by omega) (by omega)
  have m4 := mul_bd (m := 2100000) (n := 2100000) (x := y1 - e5) (y := y1 - e5) (by omega) (by omega) (by omega) (by omega)
  have n1 := sq_nn (e2 - e4) (e3 - e5)
  have n2 := sq_nn (y0 - e4) (y1 - e5)
  have b1 : vinner_0 (minus_0 e2 e4) (minus_0 e3 e5) (minus_0 e2 e4) (minus_0 e3 e5) = B := by
    rw [minus_eq (a := e2) (by omega) (by omega), minus_eq (a := e3) (by omega) (by omega), vinner_eq (by omega) (by omega) (by omega) (by omega)]; exact hB
  have b2 : vinner_0 (minus_0 y0 e4) (minus_0 y1 e5) (minus_0 y0 e4) (minus_0 y1 e5) = V := by
    rw [minus_eq (a := y0) (by omega) (by omega), minus_eq (a := y1) (by omega) (by omega), vinner_eq (by omega) (by omega) (by omega) (by omega)]; exact hV
  have hc' : 0 ≤ c ∧ c ≤ 40000 := by rw [← hc]; split <;> omega
  generalize (e2 - e4) * (e2 - e4) = x1 at *
  generalize (e3 - e5) * (e3 - e5) = x2 at *
  generalize (y0 - e4) * (y0 - e4) = x3 at *
  generalize (y1 - e5) * (y1 - e5) = x4 at *
  unfold oclear_0
  rw [z, cond_false, a1, b1, b2]
  constructor
  · intro h; rw [h, cond_true]; exact reach_iff (by omega) (by omega) hc'
  · intro h; rw [h, cond_false]; exact reach_iff (by omega) (by omega) hc'
theorem arc_in {s0 s1 u w A B D V k l : Int} (hA : s0 * s0 + s1 * s1 = A) (hD : u * u + w * w = D) (hV : (s0 + u) * (s0 + u) + (s1 + w) * (s1 + w) = V) (D1 : (k - 1) * (k - 1) ≤ D) (D2 : D ≤ (k + 1) * (k + 1)) (hi : 2 * ((s0 * w - s1 * u) * (s0 * w - s1 * u)) ≤ A) (hX : s0 * u + s1 * w ≤ 0) (hg : (k + 8) * (k + 8) ≤ A) (hk : 4 ≤ k) (l1 : Lr A 2 B) (l2 : Lr B 2 A) (hB : 0 ≤ B) (hl : 0 ≤ l ∧ (l = k - 6 ∨ l = 0)) : Rr V l B ∧ ¬ Rr V (k + 6) B := by
  have hV0 : 0 ≤ V := by rw [← hV]; exact sq_nn _ _
  constructor
  · have h1 : Rr V (k - 2) A := in_R (X := -(s0 * u + s1 * w)) (i := s0 * w - s1 * u) (D := D) (by omega) (by rw [show k - 2 + 10 = k + 8 by omega]; exact hg) (by rw [← hV, ← hA, ← hD]; grind) (by rw [← hA, ← hD]; grind) hi (by rw [show k - 2 + 1 = k - 1 by omega]; exact D1) (by rw [show k - 2 + 3 = k + 1 by omega]; exact D2) (by omega)
    have h2 : Rr V (k - 4) B := Rr_sub_y (d := 2) (by omega) (by omega) hV0 hB (by rw [show k - 4 + 2 = k - 2 by omega]; exact h1) l2
    exact Rr_mono hl.1 (by omega) hV0 h2
  · intro h
    have hA0 : 0 ≤ A := by rw [← hA]; exact sq_nn _ _
    have h1 : Rr V (k + 4) A := Rr_sub_y (d := 2) (by omega) (by omega) hV0 hA0 (by rw [show k + 4 + 2 = k + 6 by omega]; exact h) l1
    have h2 : Lr V (k + 1) A := tri_L (s0 := s0 + u) (s1 := s1 + w) (d0 := -u) (d1 := -w) (by rw [Int.neg_mul_neg, Int.neg_mul_neg, hD]; exact D2) hV (by rw [show s0 + u + -u = s0 by omega, show s1 + w + -w = s1 by omega]; exact hA)
    exact Rr_Lr (by omega) (by omega) hV0 h1 h2
theorem arc_out {s0 s1 u w A B D V k l : Int} (hA : s0 * s0 + s1 * s1 = A) (hD : u * u + w * w = D) (hV : (s0 + u) * (s0 + u) + (s1 + w) * (s1 + w) = V) (D1 : (k - 1) * (k - 1) ≤ D) (D2 : D ≤ (k + 1) * (k + 1)) (hi : 2 * ((s0 * w - s1 * u) * (s0 * w - s1 * u)) ≤ A) (hX : 0 ≤ s0 * u + s1 * w) (hk : 4 ≤ k) (l1 : Lr A 2 B) (l2 : Lr B 2 A) (hB : 0 ≤ B) (hl : 0 ≤ l ∧ (l = k - 6 ∨ l = 0)) : Rr B l V ∧ ¬ Rr B (k + 6) V := by
  have hA0 : 0 ≤ A := by rw [← hA]; exact sq_nn _ _
  constructor
  · have h1 : Rr A (k - 2) V := out_R (Y := s0 * u + s1 * w) (i := s0 * w - s1 * u) (D := D) (by omega) hA0 (by rw [← hV, ← hA, ← hD]; grind) (by rw [← hA, ← hD]; grind) hi (by rw [show k - 2 + 1 = k - 1 by omega]; exact D1) hX
    have h2 : Rr B (k - 4) V := Rr_sub_x (d := 2) (by omega) (by omega) hA0 (by rw [show k - 4 + 2 = k - 2 by omega]; exact h1) l1
    exact Rr_mono hl.1 (by omega) hB h2
  · intro h
    have h1 : Rr A (k + 4) V := Rr_sub_x (d := 2) (by omega) (by omega) hB (by rw [show k + 4 + 2 = k + 6 by omega]; exact h) l2
    have h2 : Lr A (k + 1) V := tri_L (s0 := s0) (s1 := s1) (d0 := u) (d1 := w) (by rw [hD]; exact D2) hA hV
    exact Rr_Lr (by omega) (by omega) hA0 h1 h2
theorem inw_same {d r l : Int} (h : 0 ≤ r ↔ 0 ≤ l) : oinward_0 d l = oinward_0 d r := by
  unfold oinward_0
  by_cases h0 : 0 ≤ r
  · rw [decide_eq_true (show r ≥ 0 by omega), decide_eq_true (show l ≥ 0 by omega), decide_eq_false (show ¬ r < 0 by omega), decide_eq_false (show ¬ l < 0 by omega)]
  · rw [decide_eq_false (show ¬ r ≥ 0 by omega), decide_eq_false (show ¬ l ≥ 0 by omega), decide_eq_true (show r < 0 by omega), decide_eq_true (show l < 0 by omega)]
def lessD (r : Int) : Int := if r < 0 then (if r ≤ -6 then r + 6 else 0) else (if 6 ≤ r then r - 6 else 0)
def moreD (r : Int) : Int := if r < 0 then r - 6 else r + 6
theorem less_abs {r k : Int} (h4 : 4 ≤ r ∨ r ≤ -4) (hr : bd 5000 r) (hk : (if -r > r then -r else r) = k) (hz : ¬ (lessD r = 0 ∧ r < 0)) : ∃ l, (if -(lessD r) > lessD r then -(lessD r) else lessD r) = l ∧ (0 ≤ l ∧ (l = k - 6 ∨ l = 0)) ∧ bd 40000 (lessD r) ∧ (0 ≤ r ↔ 0 ≤ lessD r) ∧ (if -(moreD r) > moreD r then -(moreD r) else moreD r) = k + 6 ∧ bd 40000 (moreD r) ∧ (0 ≤ r ↔ 0 ≤ moreD r) ∧ 4 ≤ k ∧ lessD r * lessD r = l * l ∧ moreD r * moreD r = (k + 6) * (k + 6) := by
  refine ⟨_, rfl, ?_⟩
  unfold lessD moreD at *
  rcases h4 with h4 | h4
  · have Q : ¬ r < 0 := by omega
    simp only [if_neg Q] at hz ⊢
    rw [if_neg (by omega)] at hk
    subst hk
    by_cases h6 : 6 ≤ r
    · simp only [if_pos h6]
      rw [if_neg (show ¬ -(r - 6) > r - 6 by omega), if_neg (show ¬ -(r + 6) > r + 6 by omega)]
      exact ⟨by omega, by omega, by omega, rfl, by omega, by omega, by omega, by first | trivial | rfl, by first | trivial | rfl⟩
    · simp only [if_neg h6]
      rw [if_neg (show ¬ -(0 : Int) > 0 by omega), if_neg (show ¬ -(r + 6) > r + 6 by omega)]
      exact ⟨by omega, by omega, by omega, rfl, by omega, by omega, by omega, by first | trivial | rfl, by first | trivial | rfl⟩
  · have Q : r < 0 := by omega
    simp only [if_pos Q] at hz ⊢
    rw [if_pos (by omega)] at hk
    subst hk
    by_cases h6 : r ≤ -6
    · simp only [if_pos h6] at hz ⊢
      rw [if_pos (show -(r + 6) > r + 6 by omega), if_pos (show -(r - 6) > r - 6 by omega)]
      exact ⟨by omega, by omega, by omega, by omega, by omega, by omega, by omega, by rw [Int.neg_mul_neg], by rw [show -r + 6 = -(r - 6) by omega, Int.neg_mul_neg]⟩
    · exact absurd ⟨if_neg h6, Q⟩ hz
/-- An arc's end. -/
theorem arc_near {e0 e1 e2 e3 e4 e5 e6 x0 x1 t0 t1 r A B k : Int} (E : EP e0 e1 e2 e3 e4 e5 e6) (h6 : e6 = 1 ∨ e6 = -1) (hx0 : bd 1000000 x0) (hx1 : bd 1000000 x1) (hs : x0 - e4 ≠ 0 ∨ x1 - e5 ≠ 0) (hr : bd 5000 r) (h4 : 4 ≤ r ∨ r ≤ -4) (t0e : t0 = -(x1 - e5) * e6) (t1e : t1 = (x0 - e4) * e6) (hA : (x0 - e4) * (x0 - e4) + (x1 - e5) * (x1 - e5) = A) (hB : (e2 - e4) * (e2 - e4) + (e3 - e5) * (e3 - e5) = B) (hk : (if -r > r then -r else r) = k) (hg : oinward_0 e6 r = true → (k + 8) * (k + 8) ≤ A) (l1 : Lr A 2 B) (l2 : Lr B 2 A) (hz : ¬ (lessD r = 0 ∧ r < 0)) :
    oclear_0 e0 e1 e2 e3 e4 e5 e6 (onormal_0 x0 x1 t0 t1 r) (onormal_1 x0 x1 t0 t1 r) (lessD r) = true ∧ oclear_0 e0 e1 e2 e3 e4 e5 e6 (onormal_0 x0 x1 t0 t1 r) (onormal_1 x0 x1 t0 t1 r) (moreD r) = false := by
  have c2 := E.c2
  have c3 := E.c3
  have c4 := E.c4
  have c5 := E.c5
  obtain ⟨l, al, hl, bl, sl, am, bm, sm, hk4, _, _⟩ := less_abs h4 hr hk hz
  have hB0 : 0 ≤ B := by rw [← hB]; exact sq_nn _ _
  have b0 : bd 4194304 t0 := by rcases h6 with rfl | rfl <;> omega
  have b1 : bd 4194304 t1 := by rcases h6 with rfl | rfl <;> omega
  have nz : t0 ≠ 0 ∨ t1 ≠ 0 := by rcases h6 with rfl | rfl <;> omega
  have hN : t0 * t0 + t1 * t1 = A := by rw [← hA, t0e, t1e]; rcases h6 with rfl | rfl <;> grind
  obtain ⟨v1, v2, _, v4, v5, v6, v7⟩ := normal_val (p0 := x0) (p1 := x1) (r := r) nz b0 b1 (by omega) (by omega) (by omega)
  rw [hN] at v1 v2 v4 v5 v6 v7
  obtain ⟨k1, k2, k3, k4, _, k6⟩ := beside_law (t0 := t0) (t1 := t1) (r := r) b0 b1 (by omega) hN ⟨v6, by omega⟩ rfl rfl hk
  rw [v1, v2]
  generalize wOver_0 (-t1) r A 2 = u at *
  generalize wOver_0 t0 r A 2 = w at *
  have hV : (x0 + u - e4) * (x0 + u - e4) + (x1 + w - e5) * (x1 + w - e5) = (x0 - e4 + u) * (x0 - e4 + u) + (x1 - e5 + w) * (x1 - e5 + w) := by
    rw [show x0 + u - e4 = x0 - e4 + u by omega, show x1 + w - e5 = x1 - e5 + w by omega]
  have h60 : e6 ≠ 0 := by omega
  obtain ⟨p1, p2⟩ := clear_arc (e0 := e0) (e1 := e1) (y0 := x0 + u) (y1 := x1 + w) (r := lessD r) h60 c2 c3 c4 c5 (by omega) (by omega) bl al hB hV
  obtain ⟨p3, p4⟩ := clear_arc (e0 := e0) (e1 := e1) (y0 := x0 + u) (y1 := x1 + w) (r := moreD r) h60 c2 c3 c4 c5 (by omega) (by omega) bm am hB hV
  rw [inw_same sl] at p1 p2
  rw [inw_same sm] at p3 p4
  have hi : 2 * (((x0 - e4) * w - (x1 - e5) * u) * ((x0 - e4) * w - (x1 - e5) * u)) ≤ A := by
    have : ((x0 - e4) * w - (x1 - e5) * u) * ((x0 - e4) * w - (x1 - e5) * u) = (t0 * u + t1 * w) * (t0 * u + t1 * w) := by
      rw [t0e, t1e]; rcases h6 with rfl | rfl <;> grind
    rw [this]; exact k6
  have hX : (oinward_0 e6 r = true → (x0 - e4) * u + (x1 - e5) * w ≤ 0) ∧ (oinward_0 e6 r = false → 0 ≤ (x0 - e4) * u + (x1 - e5) * w) := by
    have hxx : t0 * w - t1 * u = -(e6 * ((x0 - e4) * u + (x1 - e5) * w)) := by rw [t0e, t1e]; grind
    rw [hxx] at k3 k4
    generalize (x0 - e4) * u + (x1 - e5) * w = Y at *
    clear hV hxx p1 p2 p3 p4 hi
    unfold oinward_0
    rcases h6 with rfl | rfl <;> rcases h4 with h4 | h4
    · rw [decide_eq_true (show r ≥ 0 by omega)]
      exact ⟨fun _ => by have := k3 (by omega); omega, fun h => by simp at h⟩
    · rw [decide_eq_false (show ¬ r ≥ 0 by omega)]
      exact ⟨fun h => by simp at h, fun _ => by have := k4 (by omega); omega⟩
    · rw [decide_eq_false (show ¬ r < 0 by omega)]
      exact ⟨fun h => by simp at h, fun _ => by have := k3 (by omega); omega⟩
    · rw [decide_eq_true (show r < 0 by omega)]
      exact ⟨fun _ => by have := k4 (by omega); omega, fun h => by simp at h⟩
  cases hin : oinward_0 e6 r
  · obtain ⟨q1, q2⟩ := arc_out hA rfl rfl (k2 (by omega)) k1 hi (hX.2 hin) hk4 l1 l2 hB0 hl
    refine ⟨(p2 hin).2 q1, ?_⟩
    rw [Bool.eq_false_iff]
    exact fun h => q2 ((p4 hin).1 h)
  · obtain ⟨q1, q2⟩ := arc_in hA rfl rfl (k2 (by omega)) k1 hi (hX.1 hin) (hg hin) hk4 l1 l2 hB0 hl
    refine ⟨(p1 hin).2 q1, ?_⟩
    rw [Bool.eq_false_iff]
    exact fun h => q2 ((p3 hin).1 h)
/-- A straight piece's end. -/
theorem line_near {f0 f1 f2 f3 f4 f5 x0 x1 r k : Int} (F : EP f0 f1 f2 f3 f4 f5 0) (hz : f2 - f0 ≠ 0 ∨ f3 - f1 ≠ 0) (hx0 : bd 1000000 x0) (hx1 : bd 1000000 x1) (hx : (f2 - f0) * (x1 - f1) - (f3 - f1) * (x0 - f0) = 0) (hr : bd 5000 r) (h4 : 4 ≤ r ∨ r ≤ -4) (hk : (if -r > r then -r else r) = k) (hz2 : ¬ (lessD r = 0 ∧ r < 0)) :
    oclear_0 f0 f1 f2 f3 f4 f5 0 (onormal_0 x0 x1 (f2 - f0) (f3 - f1) r) (onormal_1 x0 x1 (f2 - f0) (f3 - f1) r) (lessD r) = true ∧ oclear_0 f0 f1 f2 f3 f4 f5 0 (onormal_0 x0 x1 (f2 - f0) (f3 - f1) r) (onormal_1 x0 x1 (f2 - f0) (f3 - f1) r) (moreD r) = false := by
  have c0 := F.c0
  have c1 := F.c1
  have c2 := F.c2
  have c3 := F.c3
  obtain ⟨l, al, hl, bl, sl, am, bm, sm, hk4, ql, qm⟩ := less_abs h4 hr hk hz2
  obtain ⟨v1, v2, _, v4, v5, v6, v7⟩ := normal_val (p0 := x0) (p1 := x1) (r := r) hz (by omega) (by omega) (by omega) (by omega) (by omega)
  obtain ⟨k1, k2, k3, k4, _, k6⟩ := beside_law (t0 := f2 - f0) (t1 := f3 - f1) (r := r) (by omega) (by omega) (by omega) rfl ⟨v6, by omega⟩ rfl rfl hk
  rw [v1, v2]
  generalize wOver_0 (-(f3 - f1)) r ((f2 - f0) * (f2 - f0) + (f3 - f1) * (f3 - f1)) 2 = u at *
  generalize wOver_0 (f2 - f0) r ((f2 - f0) * (f2 - f0) + (f3 - f1) * (f3 - f1)) 2 = w at *
  rw [clear_line _ _ c0 c1 c2 c3 (by omega) (by omega) bl, clear_line _ _ c0 c1 c2 c3 (by omega) (by omega) bm]
  have eX : (f2 - f0) * (x1 + w - f1) - (f3 - f1) * (x0 + u - f0) = (f2 - f0) * w - (f3 - f1) * u := by
    have : (f2 - f0) * (x1 + w - f1) - (f3 - f1) * (x0 + u - f0) = ((f2 - f0) * w - (f3 - f1) * u) + ((f2 - f0) * (x1 - f1) - (f3 - f1) * (x0 - f0)) := by grind
    rw [this, hx, Int.add_zero]
  rw [eX, ql, qm]
  have eN : ((f2 - f0) * w - (f3 - f1) * u) * ((f2 - f0) * w - (f3 - f1) * u) + ((f2 - f0) * u + (f3 - f1) * w) * ((f2 - f0) * u + (f3 - f1) * w) = ((f2 - f0) * (f2 - f0) + (f3 - f1) * (f3 - f1)) * (u * u + w * w) := by grind
  generalize (f2 - f0) * w - (f3 - f1) * u = X at *
  generalize (f2 - f0) * u + (f3 - f1) * w = i at *
  generalize (f2 - f0) * (f2 - f0) + (f3 - f1) * (f3 - f1) = N at *
  generalize u * u + w * w = D at *
  clear eX v1 v2 hx hz v4 v5 v7 F
  have s1 : l * l * N ≤ (k - 3) * (k - 3) * N := Int.mul_le_mul_of_nonneg_right (sq_le hl.1 (by omega)) (by omega)
  have s2 : (k + 3) * (k + 3) * N ≤ (k + 6) * (k + 6) * N := Int.mul_le_mul_of_nonneg_right (sq_le (by omega) (by omega)) (by omega)
  rcases h4 with h4 | h4
  · obtain ⟨a1, a2, a3⟩ := near_line (N := N) (X := X) (Z := 0) (i := i) (D := D) (k := k) v6 hk4 eN k6 (k2 (by omega)) k1 (k3 (by omega)) (by omega)
    rw [Int.add_zero] at a1 a2 a3
    exact ⟨decide_eq_true ⟨.inl ⟨by omega, a1⟩, by omega⟩, decide_eq_false fun hh => by have := hh.2; omega⟩
  · have s3 := k4 (by omega)
    obtain ⟨a1, a2, a3⟩ := near_line (N := N) (X := -X) (Z := 0) (i := i) (D := D) (k := k) v6 hk4 (by rw [Int.neg_mul_neg]; exact eN) k6 (k2 (by omega)) k1 (by omega) (by omega)
    rw [Int.add_zero, Int.neg_mul_neg] at a2 a3
    exact ⟨decide_eq_true ⟨.inr ⟨by omega, by omega⟩, by omega⟩, decide_eq_false fun hh => by have := hh.2; omega⟩
/-- Both ends. -/
theorem dist_ends {e0 e1 e2 e3 e4 e5 e6 r : Int} (E : EP e0 e1 e2 e3 e4 e5 e6) (hnz : e6 = 0 → e2 - e0 ≠ 0 ∨ e3 - e1 ≠ 0) (hrt : e6 ≠ 0 → ∀ {A B : Int}, (e0 - e4) * (e0 - e4) + (e1 - e5) * (e1 - e5) = A → (e2 - e4) * (e2 - e4) + (e3 - e5) * (e3 - e5) = B → Lr A 2 B ∧ Lr B 2 A) (hr : bd 5000 r) (h4 : 4 ≤ r ∨ r ≤ -4) (h : oends_4 e0 e1 e2 e3 e4 e5 e6 r = 0) (hz : ¬ (lessD r = 0 ∧ r < 0)) :
    (oclear_0 e0 e1 e2 e3 e4 e5 e6 (oends_0 e0 e1 e2 e3 e4 e5 e6 r) (oends_1 e0 e1 e2 e3 e4 e5 e6 r) (lessD r) = true ∧ oclear_0 e0 e1 e2 e3 e4 e5 e6 (oends_0 e0 e1 e2 e3 e4 e5 e6 r) (oends_1 e0 e1 e2 e3 e4 e5 e6 r) (moreD r) = false) ∧ (oclear_0 e0 e1 e2 e3 e4 e5 e6 (oends_2 e0 e1 e2 e3 e4 e5 e6 r) (oends_3 e0 e1 e2 e3 e4 e5 e6 r) (lessD r) = true ∧ oclear_0 e0 e1 e2 e3 e4 e5 e6 (oends_2 e0 e1 e2 e3 e4 e5 e6 r) (oends_3 e0 e1 e2 e3 e4 e5 e6 r) (moreD r) = false) := by
  obtain ⟨n0, n1, n2, n3, hg⟩ := ends_ok E h
  have c0 := E.c0
  have c1 := E.c1
  have c2 := E.c2
  have c3 := E.c3
  have c4 := E.c4
  have c5 := E.c5
  rw [n0, n1, n2, n3]
  by_cases h6 : e6 = 0
  · subst h6
    have m0 : minus_0 e2 e0 = e2 - e0 := minus_eq (by omega) (by omega)
    have m1 : minus_0 e3 e1 = e3 - e1 := minus_eq (by omega) (by omega)
    have t0 : ∀ w, rtang_0 e0 e1 e2 e3 e5 0 w = e2 - e0 := fun w => by show minus_0 e2 e0 = _; exact m0
    have t1 : ∀ w, rtang_1 e0 e1 e2 e3 e4 0 w = e3 - e1 := fun w => by show minus_0 e3 e1 = _; exact m1
    rw [t0, t1, t0, t1]
    exact ⟨line_near E (hnz rfl) c0 c1 (by rw [Int.sub_self, Int.sub_self, Int.mul_zero, Int.mul_zero]; rfl) hr h4 rfl hz, line_near E (hnz rfl) c2 c3 (by grind) hr h4 rfl hz⟩
  · have hd : e6 = 1 ∨ e6 = -1 := by rcases E.dir with h | h | h <;> omega
    obtain ⟨l1, l2⟩ := hrt h6 rfl rfl
    have z : (e6 == 0) = false := by simpa using h6
    have sp : ∀ a b c : Int, rspoke_0 a b c true = minus_0 b c := fun _ _ _ => rfl
    have sp' : ∀ a b c : Int, rspoke_0 a b c false = minus_0 a c := fun _ _ _ => rfl
    have mm : ∀ {a b : Int}, bd 1000000 a → bd 1000000 b → IntKind.i64.wrap (IntKind.i64.wrap (0 - minus_0 a b) * e6) = -(a - b) * e6 ∧ IntKind.i64.wrap (minus_0 a b * e6) = (a - b) * e6 := fun {a b} ha hb => by
      rw [minus_eq (by omega) (by omega), wrI (x := 0 - (a - b)) (by omega) (by omega)]
      rcases hd with rfl | rfl
      · rw [wrI (by omega) (by omega), wrI (by omega) (by omega)]; omega
      · rw [wrI (by omega) (by omega), wrI (by omega) (by omega)]; omega
    have gk : IntKind.i64.wrap (oends_s0 r * oends_s0 r) = ((if -r > r then -r else r) + 8) * ((if -r > r then -r else r) + 8) := by
      have e : oends_s0 r = (if -r > r then -r else r) + 8 := by
        unfold oends_s0
        rw [wrI (x := 0 - r) (by omega) (by omega), show 0 - r = -r by omega, wrI (by split <;> omega) (by split <;> omega)]
      rw [e]
      have hb : bd 5008 ((if -r > r then -r else r) + 8) := by split <;> omega
      have := mul_bd hb hb (by omega) (by omega)
      exact wrI (by omega) (by omega)
    have hv : ∀ {a b : Int}, bd 1000000 a → bd 1000000 b → vinner_0 (minus_0 a e4) (minus_0 b e5) (minus_0 a e4) (minus_0 b e5) = (a - e4) * (a - e4) + (b - e5) * (b - e5) := fun {a b} ha hb => by
      rw [minus_eq (a := a) (by omega) (by omega), minus_eq (a := b) (by omega) (by omega), vinner_eq (by omega) (by omega) (by omega) (by omega)]
    have hne : (e6 != 0) = true := by simpa using h6
    rw [hne, Bool.true_and, gk, hv c0 c1, hv c2 c3] at hg
    unfold rtang_0 rtang_1
    simp only [z, cond_false, sp, sp']
    rw [(mm c1 c5).1, (mm c0 c4).2, (mm c3 c5).1, (mm c2 c4).2]
    exact ⟨arc_near E hd c0 c1 (E.s1 h6) hr h4 rfl rfl rfl rfl rfl (fun hh => (hg hh).1) l1 l2 hz, arc_near E hd c2 c3 (E.s2 h6) hr h4 rfl rfl rfl rfl rfl (fun hh => (hg hh).2) Lr_self Lr_self hz⟩
end Go.Proofs.Ytjlkecfkjcanaaa
