/-
  ARCS that are made: bounds and form. Conditions: the tape is not too long.
-/
import Derived.Test.YtkggdhnliiagjaaG2
set_option linter.all false
namespace Go.Proofs.Ytkggdhnliiagjaa
open Go.SX Go.RowKit
theorem range_rng (n m a : Int) (L : List (List Int)) (h1 : -1000000 ≤ n) (h2 : n ≤ m) (h3 : m ≤ 1000000) : n ≤ range_0 n m a L ∧ range_0 n m a L ≤ m := by
  unfold range_0
  rw [wrI (x := m - n) (by omega) (by omega), wrI (x := m - n + 1) (by omega) (by omega)]
  have := next_0_range (m - n + 1) a L (by omega) (by omega)
  rw [wrI (by omega) (by omega)]
  omega
theorem ptm_rng (n a : Int) (L : List (List Int)) (h : 0 ≤ n) (h2 : n ≤ 1000000) : bd n (ptm_0 n a L) ∧ bd n (ptm_1 n a L) := by
  unfold ptm_0 ptm_1
  rw [wrI (x := 0 - n) (by omega) (by omega)]
  have h3 := range_rng (0 - n) n a L (by omega) (by omega) (by omega)
  have h4 := range_rng (0 - n) n (next_1 a L) L (by omega) (by omega) (by omega)
  exact ⟨by omega, by omega⟩
theorem pick3_rng (p q : Bool) : (bif p then (20 : Int) else bif q then 300 else 20000) = 20 ∨ (bif p then (20 : Int) else bif q then 300 else 20000) = 300 ∨ (bif p then (20 : Int) else bif q then 300 else 20000) = 20000 := by
  cases p <;> cases q <;> simp
theorem ptm_bd (p q : Bool) (a : Int) (L : List (List Int)) : bd 20000 (ptm_0 (bif p then (20 : Int) else bif q then 300 else 20000) a L) ∧ bd 20000 (ptm_1 (bif p then (20 : Int) else bif q then 300 else 20000) a L) := by
  have h := pick3_rng p q
  generalize (bif p then (20 : Int) else bif q then 300 else 20000) = n at *
  have := ptm_rng n a L (by omega) (by omega)
  omega
theorem neg_bd {x : Int} (h : bd 20000 x) : bd 20000 (IntKind.i64.wrap (0 - x)) := by rw [wrI (by omega) (by omega)]; omega
theorem spokes_bd (a : Int) (L : List (List Int)) : bd 20000 (spokes_0 a L) ∧ bd 20000 (spokes_1 a L) ∧ bd 20002 (spokes_2 a L) ∧ bd 20002 (spokes_3 a L) := by
  have h := ptm_bd ((next_0 3 a L).toNat.beq 0) ((next_0 3 a L).toNat.beq 1) (next_1 a L) L
  have g0 := neg_bd h.1
  have g1 := neg_bd h.2
  have r := range_rng (-2) 2 (next_1 (next_1 (next_1 (next_1 (next_1 (next_1 a L) L) L) L) L) L) L (by omega) (by omega) (by omega)
  have key : ∀ (p : Bool) (m x y : Int), bd m x → bd m y → bd m (bif p then x else y) := fun p m x y h1 h2 => by cases p <;> assumption
  refine ⟨h.1, h.2, ?_, ?_⟩
  · unfold spokes_2
    have hs : bd 20000 (spokes_s1 a L) := by
      unfold spokes_s1 spokes_s0
      exact key _ _ _ _ g1 (key _ _ _ _ g0 (key _ _ _ _ h.2 h.2))
    have h0 : bd 20000 (ptm_0 (spokes_s0 a L) (next_1 a L) L) := h.1
    generalize spokes_s1 a L = s at *
    generalize range_0 (-2) 2 (next_1 (next_1 (next_1 (next_1 (next_1 (next_1 a L) L) L) L) L) L) L = t at *
    refine key _ _ _ _ (by omega) (key _ _ _ _ ?_ (by omega))
    rw [wrI (by omega) (by omega)]; omega
  · unfold spokes_3 spokes_s0
    have w : ∀ x, bd 20000 x → bd 20002 x := fun x h => by omega
    exact w _ (key _ _ _ _ h.2 (key _ _ _ _ h.1 (key _ _ _ _ g1 (key _ _ _ _ h.1 g0))))
/-- Spokes that fit are not zero. -/
theorem fit_nz {a b c d : Int} {e : Bool} (ha : b9 a) (hb : b9 b) (hc : b9 c) (hd : b9 d) (h : fit_0 a b c d e = true) : (a ≠ 0 ∨ b ≠ 0) ∧ (c ≠ 0 ∨ d ≠ 0) := by
  have hs : ¬ fit_s0 a b c d < 64 := by
    intro h1
    unfold fit_0 at h
    rw [decide_eq_true h1] at h
    cases h
  unfold fit_s0 at hs
  rw [vinner_eq ha hb ha hb, vinner_eq hc hd hc hd] at hs
  constructor
  · by_cases h1 : a = 0
    · right
      rintro rfl
      subst h1
      apply hs
      have := sq_nn c d
      by_cases h2 : (0 : Int) * 0 + 0 * 0 > c * c + d * d
      · rw [decide_eq_true h2, cond_true]; omega
      · rw [decide_eq_false h2, cond_false]; omega
    · exact .inl h1
  · by_cases h1 : c = 0
    · right
      rintro rfl
      subst h1
      apply hs
      have := sq_nn a b
      by_cases h2 : a * a + b * b > (0 : Int) * 0 + 0 * 0
      · rw [decide_eq_true h2, cond_true]; omega
      · rw [decide_eq_false h2, cond_false]; omega
    · exact .inl h1
theorem light_len {L : List (List Int)} (h : light_0 L = true) : L.length ≤ 1000000 := by
  unfold light_0 at h
  have h1 : Int.ofNat L.length ≤ 120 := by simpa using h
  have h2 : (L.length : Int) ≤ 120 := h1
  omega
theorem light_two {L M : List (List Int)} (h : (!light_0 L || !light_0 M) = false) : L.length ≤ 1000000 ∧ M.length ≤ 1000000 := by
  simp only [Bool.or_eq_false_iff, Bool.not_eq_false'] at h
  exact ⟨light_len h.1, light_len h.2⟩

theorem flat_solid {p : Int} (hp : p = 17 ∨ p = 18 ∨ p = 19) (u w h : Int) : flat_0 p (solid_0 p u w h) (solid_1 p u w h) (solid_2 p u w h) = u ∧ flat_1 p (solid_0 p u w h) (solid_1 p u w h) (solid_2 p u w h) = w ∧ flat_2 p (solid_0 p u w h) (solid_1 p u w h) (solid_2 p u w h) = h := by
  rcases hp with rfl | rfl | rfl <;> exact ⟨rfl, rfl, rfl⟩
theorem solid_flat {p : Int} (hp : p = 17 ∨ p = 18 ∨ p = 19) (a b c : Int) : solid_0 p (flat_0 p a b c) (flat_1 p a b c) (flat_2 p a b c) = a ∧ solid_1 p (flat_0 p a b c) (flat_1 p a b c) (flat_2 p a b c) = b ∧ solid_2 p (flat_0 p a b c) (flat_1 p a b c) (flat_2 p a b c) = c := by
  rcases hp with rfl | rfl | rfl <;> exact ⟨rfl, rfl, rfl⟩
theorem solid_co {p u w h : Int} (hp : p = 17 ∨ p = 18 ∨ p = 19) (hu : co u) (hw : co w) (hh : co h) : vwithin_0 (solid_0 p u w h) (solid_1 p u w h) (solid_2 p u w h) = true := by
  rw [vw_iff]
  rcases hp with rfl | rfl | rfl
  · exact ⟨hu, hw, hh⟩
  · exact ⟨hw, hh, hu⟩
  · exact ⟨hh, hu, hw⟩
noncomputable def aP (a : Int) (L : List (List Int)) : Int := range_0 17 19 a L
noncomputable def aF (a : Int) (L : List (List Int)) : Bool := fit_0 (spokes_0 (next_1 a L) L) (spokes_1 (next_1 a L) L) (spokes_2 (next_1 a L) L) (spokes_3 (next_1 a L) L) (spokes_4 (next_1 a L) L)
noncomputable def aA0 (a : Int) (L : List (List Int)) : Int := bif !aF a L then 50 else spokes_0 (next_1 a L) L
noncomputable def aA1 (a : Int) (L : List (List Int)) : Int := bif !aF a L then 0 else spokes_1 (next_1 a L) L
noncomputable def aB0 (a : Int) (L : List (List Int)) : Int := bif !aF a L then 0 else spokes_2 (next_1 a L) L
noncomputable def aB1 (a : Int) (L : List (List Int)) : Int := bif !aF a L then 50 else spokes_3 (next_1 a L) L
noncomputable def aC0 (a : Int) (L : List (List Int)) : Int := ptm_0 30000 (spokes_6 (next_1 a L) L) L
noncomputable def aC1 (a : Int) (L : List (List Int)) : Int := ptm_1 30000 (spokes_6 (next_1 a L) L) L
noncomputable def aH (a : Int) (L : List (List Int)) : Int := range_0 (-500) 500 (next_1 (next_1 (spokes_6 (next_1 a L) L) L) L) L
noncomputable def aK (a : Int) (L : List (List Int)) : Int := range_0 (-500) 500 (next_1 (next_1 (next_1 (spokes_6 (next_1 a L) L) L) L) L) L
/-- An arc: its plane, its spokes, its center, its heights, its direction; whether it is full. -/
structure ArcG (p A0 A1 B0 B1 C0 C1 h k d : Int) (fu : Bool) : Prop where
  p : p = 17 ∨ p = 18 ∨ p = 19
  a0 : bd 20002 A0
  a1 : bd 20002 A1
  b0 : bd 20002 B0
  b1 : bd 20002 B1
  c0 : bd 30000 C0
  c1 : bd 30000 C1
  h : bd 5000 h
  k : bd 5000 k
  d : d = 1 ∨ d = -1
  fit : fit_0 A0 A1 B0 B1 fu = true
theorem arc_g (a : Int) (L : List (List Int)) : ArcG (aP a L) (aA0 a L) (aA1 a L) (aB0 a L) (aB1 a L) (aC0 a L) (aC1 a L) (aH a L) (aK a L) (arc_9 a L) (arc_10 a L) := by
  obtain ⟨s0, s1, s2, s3⟩ := spokes_bd (next_1 a L) L
  have key : ∀ (p : Bool) (m x y : Int), bd m x → bd m y → bd m (bif p then x else y) := fun p m x y h1 h2 => by cases p <;> assumption
  have hp := range_rng 17 19 a L (by omega) (by omega) (by omega)
  have h5 : ∀ x, bd 500 x → bd 5000 x := fun x h => by omega
  have hc := ptm_rng 30000 (spokes_6 (next_1 a L) L) L (by omega) (by omega)
  refine ⟨?_, key _ _ _ _ (by decide) (by omega), key _ _ _ _ (by decide) (by omega), key _ _ _ _ (by decide) s2, key _ _ _ _ (by decide) s3, hc.1, hc.2, h5 _ (range_rng _ _ _ _ (by omega) (by omega) (by omega)), h5 _ (range_rng _ _ _ _ (by omega) (by omega) (by omega)), ?_, ?_⟩
  · show range_0 17 19 a L = 17 ∨ range_0 17 19 a L = 18 ∨ range_0 17 19 a L = 19
    omega
  · unfold arc_9
    have h2 := next_0_range 2 (next_1 (next_1 (next_1 (next_1 (spokes_6 (next_1 a L) L) L) L) L) L) L (by omega) (by omega)
    generalize next_0 2 _ L = x at *
    rw [wrI (x := 2 * x) (by omega) (by omega), wrI (by omega) (by omega)]
    omega
  · have e : arc_10 a L = bif !aF a L then false else spokes_4 (next_1 a L) L := rfl
    rw [e]
    unfold aA0 aA1 aB0 aB1
    cases hf : aF a L
    · rfl
    · exact hf
theorem arc_form (a : Int) (L : List (List Int)) :
    arc_0 a L = solid_0 (aP a L) (addpt_0 (aC0 a L) (aA0 a L)) (addpt_0 (aC1 a L) (aA1 a L)) (aH a L) ∧ arc_1 a L = solid_1 (aP a L) (addpt_0 (aC0 a L) (aA0 a L)) (addpt_0 (aC1 a L) (aA1 a L)) (aH a L) ∧ arc_2 a L = solid_2 (aP a L) (addpt_0 (aC0 a L) (aA0 a L)) (addpt_0 (aC1 a L) (aA1 a L)) (aH a L) ∧
    arc_3 a L = solid_0 (aP a L) (addpt_0 (aC0 a L) (aB0 a L)) (addpt_0 (aC1 a L) (aB1 a L)) (aK a L) ∧ arc_4 a L = solid_1 (aP a L) (addpt_0 (aC0 a L) (aB0 a L)) (addpt_0 (aC1 a L) (aB1 a L)) (aK a L) ∧ arc_5 a L = solid_2 (aP a L) (addpt_0 (aC0 a L) (aB0 a L)) (addpt_0 (aC1 a L) (aB1 a L)) (aK a L) ∧
    arc_6 a L = solid_0 (aP a L) (aC0 a L) (aC1 a L) (aH a L) ∧ arc_7 a L = solid_1 (aP a L) (aC0 a L) (aC1 a L) (aH a L) ∧ arc_8 a L = solid_2 (aP a L) (aC0 a L) (aC1 a L) (aH a L) ∧ range_0 17 19 a L = aP a L := ⟨rfl, rfl, rfl, rfl, rfl, rfl, rfl, rfl, rfl, rfl⟩
/-- What stands in an item of that form. -/
structure ArcI (f0 f1 f2 t0 t1 t2 p c0 c1 c2 A0 A1 B0 B1 C0 C1 h k : Int) : Prop where
  f : flat_0 p f0 f1 f2 = C0 + A0 ∧ flat_1 p f0 f1 f2 = C1 + A1 ∧ flat_2 p f0 f1 f2 = h
  t : flat_0 p t0 t1 t2 = C0 + B0 ∧ flat_1 p t0 t1 t2 = C1 + B1 ∧ flat_2 p t0 t1 t2 = k
  c : flat_0 p c0 c1 c2 = C0 ∧ flat_1 p c0 c1 c2 = C1 ∧ flat_2 p c0 c1 c2 = h
  wf : vwithin_0 f0 f1 f2 = true
  wt : vwithin_0 t0 t1 t2 = true
  wc : vwithin_0 c0 c1 c2 = true
theorem arc_i (a : Int) (L : List (List Int)) : ArcI (arc_0 a L) (arc_1 a L) (arc_2 a L) (arc_3 a L) (arc_4 a L) (arc_5 a L) (range_0 17 19 a L) (arc_6 a L) (arc_7 a L) (arc_8 a L) (aA0 a L) (aA1 a L) (aB0 a L) (aB1 a L) (aC0 a L) (aC1 a L) (aH a L) (aK a L) := by
  have G := arc_g a L
  obtain ⟨e0, e1, e2, e3, e4, e5, e6, e7, e8, e9⟩ := arc_form a L
  rw [e0, e1, e2, e3, e4, e5, e6, e7, e8, e9]
  obtain ⟨g1, g2, g3, g4, g5, g6, g7, g8, g9, _, _⟩ := G
  have x1 : addpt_0 (aC0 a L) (aA0 a L) = aC0 a L + aA0 a L := addpt_eq (by omega) (by omega)
  have x2 : addpt_0 (aC1 a L) (aA1 a L) = aC1 a L + aA1 a L := addpt_eq (by omega) (by omega)
  have x3 : addpt_0 (aC0 a L) (aB0 a L) = aC0 a L + aB0 a L := addpt_eq (by omega) (by omega)
  have x4 : addpt_0 (aC1 a L) (aB1 a L) = aC1 a L + aB1 a L := addpt_eq (by omega) (by omega)
  rw [x1, x2, x3, x4]
  exact ⟨flat_solid g1 _ _ _, flat_solid g1 _ _ _, flat_solid g1 _ _ _, solid_co g1 (by omega) (by omega) (by omega), solid_co g1 (by omega) (by omega) (by omega), solid_co g1 (by omega) (by omega) (by omega)⟩
/-- The spokes of such an item. -/
theorem arcI_spokes {f0 f1 f2 t0 t1 t2 p c0 c1 c2 A0 A1 B0 B1 C0 C1 h k d : Int} {fu : Bool} (I : ArcI f0 f1 f2 t0 t1 t2 p c0 c1 c2 A0 A1 B0 B1 C0 C1 h k) (G : ArcG p A0 A1 B0 B1 C0 C1 h k d fu) :
    aspokes_0 f0 f1 f2 p c0 c1 c2 = A0 ∧ aspokes_1 f0 f1 f2 p c0 c1 c2 = A1 ∧ aspokes_0 t0 t1 t2 p c0 c1 c2 = B0 ∧ aspokes_1 t0 t1 t2 p c0 c1 c2 = B1 := by
  obtain ⟨g1, g2, g3, g4, g5, g6, g7, g8, g9, _, _⟩ := G
  unfold aspokes_0 aspokes_1
  rw [I.f.1, I.f.2.1, I.t.1, I.t.2.1, I.c.1, I.c.2.1]
  refine ⟨?_, ?_, ?_, ?_⟩ <;> rw [wrI (by omega) (by omega)] <;> omega
theorem arcI_check {f0 f1 f2 t0 t1 t2 p c0 c1 c2 A0 A1 B0 B1 C0 C1 h k d : Int} {fu : Bool} (I : ArcI f0 f1 f2 t0 t1 t2 p c0 c1 c2 A0 A1 B0 B1 C0 C1 h k) (G : ArcG p A0 A1 B0 B1 C0 C1 h k d fu) :
    acheck_0 3 f0 f1 f2 t0 t1 t2 p c0 c1 c2 d fu = 0 := by
  obtain ⟨s0, s1, s2, s3⟩ := arcI_spokes I G
  unfold acheck_0
  rw [fit_same, s0, s1, s2, s3, G.fit, I.wf, I.wt, I.wc, I.f.2.2, I.c.2.2, (is_plane G.p).1]
  rcases G.d with rfl | rfl <;> simp
end Go.Proofs.Ytkggdhnliiagjaa
