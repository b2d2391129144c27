/-
  THE ELEMENT that is made of a tape: its bounds, its direction, its spokes. Conditions: the tape is not too long.
-/
import Derived.Test.YtjlkecfkjcanaaaG1
set_option linter.all false
namespace Go.Proofs.Ytjlkecfkjcanaaa
open Go.SX Go.RowKit
abbrev b9 (x : Int) : Prop := bd 1000000000 x
theorem range_rng (n m a : Int) (L : List (List Int)) (h1 : -1000000 ≤ n) (h2 : n ≤ m) (h3 : m ≤ 1000000) : n ≤ range_0 n m a L ∧ range_0 n m a L ≤ m := by
  unfold range_0
  rw [wrI (x := m - n) (by omega) (by omega), wrI (x := m - n + 1) (by omega) (by omega)]
  have := next_0_range (m - n + 1) a L (by omega) (by omega)
  rw [wrI (by omega) (by omega)]
  omega
theorem ptm_rng (n a : Int) (L : List (List Int)) (h : 0 ≤ n) (h2 : n ≤ 1000000) : bd n (ptm_0 n a L) ∧ bd n (ptm_1 n a L) := by
  unfold ptm_0 ptm_1
  rw [wrI (x := 0 - n) (by omega) (by omega)]
  have h3 := range_rng (0 - n) n a L (by omega) (by omega) (by omega)
  have h4 := range_rng (0 - n) n (next_1 a L) L (by omega) (by omega) (by omega)
  exact ⟨by omega, by omega⟩
theorem pick3_rng (p q : Bool) : (bif p then (20 : Int) else bif q then 300 else 20000) = 20 ∨ (bif p then (20 : Int) else bif q then 300 else 20000) = 300 ∨ (bif p then (20 : Int) else bif q then 300 else 20000) = 20000 := by
  cases p <;> cases q <;> simp
theorem pick3_rng' (p q : Bool) : (bif p then (30 : Int) else bif q then 400 else 20000) = 30 ∨ (bif p then (30 : Int) else bif q then 400 else 20000) = 400 ∨ (bif p then (30 : Int) else bif q then 400 else 20000) = 20000 := by
  cases p <;> cases q <;> simp
theorem ptm_bd (p q : Bool) (a : Int) (L : List (List Int)) : bd 20000 (ptm_0 (bif p then (20 : Int) else bif q then 300 else 20000) a L) ∧ bd 20000 (ptm_1 (bif p then (20 : Int) else bif q then 300 else 20000) a L) := by
  have h := pick3_rng p q
  generalize (bif p then (20 : Int) else bif q then 300 else 20000) = n at *
  have := ptm_rng n a L (by omega) (by omega)
  omega
theorem ptm_bd' (p q : Bool) (a : Int) (L : List (List Int)) : bd 20000 (ptm_0 (bif p then (30 : Int) else bif q then 400 else 20000) a L) ∧ bd 20000 (ptm_1 (bif p then (30 : Int) else bif q then 400 else 20000) a L) := by
  have h := pick3_rng' p q
  generalize (bif p then (30 : Int) else bif q then 400 else 20000) = n at *
  have := ptm_rng n a L (by omega) (by omega)
  omega
theorem neg_bd {x : Int} (h : bd 20000 x) : bd 20000 (IntKind.i64.wrap (0 - x)) := by rw [wrI (by omega) (by omega)]; omega
theorem spokes_bd (a : Int) (L : List (List Int)) : bd 20000 (spokes_0 a L) ∧ bd 20000 (spokes_1 a L) ∧ bd 20002 (spokes_2 a L) ∧ bd 20002 (spokes_3 a L) := by
  have h := ptm_bd ((next_0 3 a L).toNat.beq 0) ((next_0 3 a L).toNat.beq 1) (next_1 a L) L
  have g0 := neg_bd h.1
  have g1 := neg_bd h.2
  have r := range_rng (-2) 2 (next_1 (next_1 (next_1 (next_1 (next_1 (next_1 a L) L) L) L) L) L) L (by omega) (by omega) (by omega)
  have key : ∀ (p : Bool) (m x y : Int), bd m x → bd m y → bd m (bif p then x else y) := fun p m x y h1 h2 => by cases p <;> assumption
  refine ⟨h.1, h.2, ?_, ?_⟩
  · unfold spokes_2
    have hs : bd 20000 (spokes_s1 a L) := by
      unfold spokes_s1 spokes_s0
      exact key _ _ _ _ g1 (key _ _ _ _ g0 (key _ _ _ _ h.2 h.2))
    have h0 : bd 20000 (ptm_0 (spokes_s0 a L) (next_1 a L) L) := h.1
    generalize spokes_s1 a L = s at *
    generalize range_0 (-2) 2 (next_1 (next_1 (next_1 (next_1 (next_1 (next_1 a L) L) L) L) L) L) L = t at *
    refine key _ _ _ _ (by omega) (key _ _ _ _ ?_ (by omega))
    rw [wrI (by omega) (by omega)]; omega
  · unfold spokes_3 spokes_s0
    have w : ∀ x, bd 20000 x → bd 20002 x := fun x h => by omega
    exact w _ (key _ _ _ _ h.2 (key _ _ _ _ h.1 (key _ _ _ _ g1 (key _ _ _ _ h.1 g0))))
/-- Spokes that fit are not zero. -/
theorem fit_nz {a b c d : Int} {e : Bool} (ha : b9 a) (hb : b9 b) (hc : b9 c) (hd : b9 d) (h : fit_0 a b c d e = true) : (a ≠ 0 ∨ b ≠ 0) ∧ (c ≠ 0 ∨ d ≠ 0) := by
  have hs : ¬ fit_s0 a b c d < 64 := by
    intro h1
    unfold fit_0 at h
    rw [decide_eq_true h1] at h
    cases h
  unfold fit_s0 at hs
  rw [vinner_eq ha hb ha hb, vinner_eq hc hd hc hd] at hs
  constructor
  · by_cases h1 : a = 0
    · right
      rintro rfl
      subst h1
      apply hs
      have := sq_nn c d
      by_cases h2 : (0 : Int) * 0 + 0 * 0 > c * c + d * d
      · rw [decide_eq_true h2, cond_true]; omega
      · rw [decide_eq_false h2, cond_false]; omega
    · exact .inl h1
  · by_cases h1 : c = 0
    · right
      rintro rfl
      subst h1
      apply hs
      have := sq_nn a b
      by_cases h2 : a * a + b * b > (0 : Int) * 0 + 0 * 0
      · rw [decide_eq_true h2, cond_true]; omega
      · rw [decide_eq_false h2, cond_false]; omega
    · exact .inl h1
/-- What is known of an element. -/
structure EP (e0 e1 e2 e3 e4 e5 e6 : Int) : Prop where
  c0 : bd 1000000 e0
  c1 : bd 1000000 e1
  c2 : bd 1000000 e2
  c3 : bd 1000000 e3
  c4 : bd 1000000 e4
  c5 : bd 1000000 e5
  dir : e6 = 0 ∨ e6 = 1 ∨ e6 = -1
  s1 : e6 ≠ 0 → e0 - e4 ≠ 0 ∨ e1 - e5 ≠ 0
  s2 : e6 ≠ 0 → e2 - e4 ≠ 0 ∨ e3 - e5 ≠ 0
theorem element_ep {u v a : Int} (L : List (List Int)) (hu : bd 900000 u) (hv : bd 900000 v) : EP (element_0 u a L) (element_0 v a L) (element_2 u a L) (element_3 v a L) (element_4 u a L) (element_5 v a L) (element_6 a L) := by
  obtain ⟨h0, h1, h2, h3⟩ := spokes_bd (next_1 a L) L
  have q1 := ptm_bd' ((next_0 3 (spokes_6 (next_1 a L) L) L).toNat.beq 0) ((next_0 3 (spokes_6 (next_1 a L) L) L).toNat.beq 1) (next_1 (spokes_6 (next_1 a L) L) L) L
  have q2 := ptm_bd' ((next_0 3 (next_1 a L) L).toNat.beq 0) ((next_0 3 (next_1 a L) L).toNat.beq 1) (next_1 (next_1 a L) L) L
  have key : ∀ (p : Bool) (m x y : Int), bd m x → bd m y → bd m (bif p then x else y) := fun p m x y h1 h2 => by cases p <;> assumption
  have ad : ∀ {x y : Int}, bd 900000 x → bd 20002 y → bd 1000000 (addpt_0 x y) := fun {x y} h1 h2 => by rw [addpt_eq (by omega) (by omega)]; omega
  have mi : ∀ {x y : Int}, bd 900000 x → bd 20002 y → bd 1000000 (minus_0 x y) := fun {x y} h1 h2 => by rw [minus_eq (by omega) (by omega)]; omega
  have mia : ∀ {x y z : Int}, bd 900000 x → bd 20000 y → bd 20002 z → bd 1000000 (addpt_0 (minus_0 x y) z) ∧ addpt_0 (minus_0 x y) z - minus_0 x y = z ∧ x - minus_0 x y = y := fun {x y z} h1 h2 h3 => by
    rw [minus_eq (by omega) (by omega), addpt_eq (by omega) (by omega)]; omega
  unfold element_0 element_2 element_3 element_4 element_5 element_6
  cases hn : next_0 3 a L == 0
  · simp only [cond_false]
    refine ⟨by omega, by omega, ad hu (key _ 20002 _ _ (by omega) (by have := q2.1; unfold element_s1; omega)), ad hv (by have := q2.2; omega), by omega, by omega, .inl rfl, fun h => absurd rfl h, fun h => absurd rfl h⟩
  · simp only [cond_true]
    cases hf : fit_0 (spokes_0 (next_1 a L) L) (spokes_1 (next_1 a L) L) (spokes_2 (next_1 a L) L) (spokes_3 (next_1 a L) L) (spokes_4 (next_1 a L) L)
    · simp only [cond_false]
      refine ⟨by omega, by omega, ad hu (key _ 20002 _ _ (by omega) (by have := q1.1; unfold element_s0; omega)), ad hv (by have := q1.2; omega), by omega, by omega, .inl rfl, fun h => absurd rfl h, fun h => absurd rfl h⟩
    · simp only [cond_true]
      obtain ⟨z1, z2⟩ := fit_nz (by omega) (by omega) (by omega) (by omega) hf
      obtain ⟨m1, m2, m3⟩ := mia hu h0 h2
      obtain ⟨m4, m5, m6⟩ := mia hv h1 h3
      have r := next_0_range 2 (spokes_6 (next_1 a L) L) L (by omega) (by omega)
      refine ⟨by omega, by omega, m1, m4, mi hu (by omega), mi hv (by omega), ?_, fun _ => by rw [m3, m6]; exact z1, fun _ => by rw [m2, m5]; exact z2⟩
      generalize next_0 2 (spokes_6 (next_1 a L) L) L = t at *
      rw [wrI (x := 2 * t) (by omega) (by omega), wrI (by omega) (by omega)]
      omega
/-- The spokes of an element that is an arc fit. -/
theorem element_fit {u v a : Int} (L : List (List Int)) (hu : bd 900000 u) (hv : bd 900000 v) (h6 : element_6 a L ≠ 0) :
    fit_0 (minus_0 (element_0 u a L) (element_4 u a L)) (minus_0 (element_0 v a L) (element_5 v a L)) (minus_0 (element_2 u a L) (element_4 u a L)) (minus_0 (element_3 v a L) (element_5 v a L)) (element_7 a L) = true := by
  obtain ⟨h0, h1, h2, h3⟩ := spokes_bd (next_1 a L) L
  have m1 : ∀ {x y : Int}, bd 900000 x → bd 20000 y → minus_0 x (minus_0 x y) = y := fun {x y} h1 h2 => by
    rw [minus_eq (a := x) (c := y) (by omega) (by omega), minus_eq (by omega) (by omega)]; omega
  have m2 : ∀ {x y z : Int}, bd 900000 x → bd 20000 y → bd 20002 z → minus_0 (addpt_0 (minus_0 x y) z) (minus_0 x y) = z := fun {x y z} h1 h2 h3 => by
    rw [minus_eq (a := x) (c := y) (by omega) (by omega), addpt_eq (by omega) (by omega), minus_eq (by omega) (by omega)]; omega
  unfold element_6 at h6
  unfold element_0 element_2 element_3 element_4 element_5 element_7
  cases hn : next_0 3 a L == 0
  · rw [hn] at h6; exact absurd rfl h6
  · rw [hn] at h6
    rw [cond_true] at h6
    cases hf : fit_0 (spokes_0 (next_1 a L) L) (spokes_1 (next_1 a L) L) (spokes_2 (next_1 a L) L) (spokes_3 (next_1 a L) L) (spokes_4 (next_1 a L) L)
    · rw [hf] at h6; exact absurd rfl h6
    · simp only [cond_true, Bool.true_and]
      rw [m1 hu h0, m1 hv h1, m2 hu h0 h2, m2 hv h1 h3]
      exact hf
theorem element_mv {m u v a : Int} (L : List (List Int)) (hm : 0 ≤ m) (hm' : m ≤ 800000) (hu : bd m u) (hv : bd m v) : bd (m + 50000) (element_2 u a L) ∧ bd (m + 50000) (element_3 v a L) := by
  obtain ⟨h0, h1, h2, h3⟩ := spokes_bd (next_1 a L) L
  have q1 := ptm_bd' ((next_0 3 (spokes_6 (next_1 a L) L) L).toNat.beq 0) ((next_0 3 (spokes_6 (next_1 a L) L) L).toNat.beq 1) (next_1 (spokes_6 (next_1 a L) L) L) L
  have q2 := ptm_bd' ((next_0 3 (next_1 a L) L).toNat.beq 0) ((next_0 3 (next_1 a L) L).toNat.beq 1) (next_1 (next_1 a L) L) L
  have key : ∀ (p : Bool) (m x y : Int), bd m x → bd m y → bd m (bif p then x else y) := fun p m x y h1 h2 => by cases p <;> assumption
  have ad : ∀ {x y : Int}, bd m x → bd 20002 y → bd (m + 50000) (addpt_0 x y) := fun {x y} h1 h2 => by rw [addpt_eq (by omega) (by omega)]; omega
  have mia : ∀ {x y z : Int}, bd m x → bd 20000 y → bd 20002 z → bd (m + 50000) (addpt_0 (minus_0 x y) z) := fun {x y z} h1 h2 h3 => by
    rw [minus_eq (by omega) (by omega), addpt_eq (by omega) (by omega)]; omega
  unfold element_2 element_3
  cases hn : next_0 3 a L == 0
  · simp only [cond_false]
    exact ⟨ad hu (key _ 20002 _ _ (by omega) (by have := q2.1; unfold element_s1; omega)), ad hv (by have := q2.2; omega)⟩
  · simp only [cond_true]
    cases hf : fit_0 (spokes_0 (next_1 a L) L) (spokes_1 (next_1 a L) L) (spokes_2 (next_1 a L) L) (spokes_3 (next_1 a L) L) (spokes_4 (next_1 a L) L)
    · simp only [cond_false]
      exact ⟨ad hu (key _ 20002 _ _ (by omega) (by have := q1.1; unfold element_s0; omega)), ad hv (by have := q1.2; omega)⟩
    · simp only [cond_true]
      exact ⟨mia hu h0 h2, mia hv h1 h3⟩
theorem light_len {L : List (List Int)} (h : light_0 L = true) : L.length ≤ 1000000 := by
  unfold light_0 at h
  have h1 : Int.ofNat L.length ≤ 120 := by simpa using h
  have h2 : (L.length : Int) ≤ 120 := h1
  omega
theorem light_two {L M : List (List Int)} (h : (!light_0 L || !light_0 M) = false) : L.length ≤ 1000000 ∧ M.length ≤ 1000000 := by
  simp only [Bool.or_eq_false_iff, Bool.not_eq_false'] at h
  exact ⟨light_len h.1, light_len h.2⟩
end Go.Proofs.Ytjlkecfkjcanaaa
