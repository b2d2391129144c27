/-
  DIRECTIONS of arcs that are made, plain laws. Conditions: bounds, directions that are not zero.
-/
import Derived.Test.YtkggdhnliiagjaaD5
set_option linter.all false
namespace Go.Proofs.Ytkggdhnliiagjaa
open Go.SX Go.RowKit
/-- A direction's place: seen from A. -/
theorem seen {a0 a1 b0 b1 p0 p1 : Int} (ha0 : b9 a0) (ha1 : b9 a1) (hb0 : b9 b0) (hb1 : b9 b1) (hp0 : b9 p0) (hp1 : b9 p1) (ha : a0 ≠ 0 ∨ a1 ≠ 0) (hb : b0 ≠ 0 ∨ b1 ≠ 0) (hp : p0 ≠ 0 ∨ p1 ≠ 0) :
    (vinner_0 a0 a1 p0 p1 ≠ 0 ∨ vcross_0 a0 a1 p0 p1 ≠ 0) ∧ (vinner_0 a0 a1 b0 b1 ≠ 0 ∨ vcross_0 a0 a1 b0 b1 ≠ 0) ∧
    (0 < vcross_0 p0 p1 b0 b1 ↔ 0 < vinner_0 a0 a1 p0 p1 * vcross_0 a0 a1 b0 b1 - vcross_0 a0 a1 p0 p1 * vinner_0 a0 a1 b0 b1) ∧
    (vcross_0 p0 p1 b0 b1 < 0 ↔ vinner_0 a0 a1 p0 p1 * vcross_0 a0 a1 b0 b1 - vcross_0 a0 a1 p0 p1 * vinner_0 a0 a1 b0 b1 < 0) ∧
    (0 < vinner_0 b0 b1 p0 p1 ↔ 0 < vinner_0 a0 a1 p0 p1 * vinner_0 a0 a1 b0 b1 + vcross_0 a0 a1 p0 p1 * vcross_0 a0 a1 b0 b1) := by
  have hN := sq_pos ha
  have eC : vcross_0 p0 p1 b0 b1 * (a0 * a0 + a1 * a1) = vinner_0 a0 a1 p0 p1 * vcross_0 a0 a1 b0 b1 - vcross_0 a0 a1 p0 p1 * vinner_0 a0 a1 b0 b1 := by
    rw [vcross_eq hp0 hp1 hb0 hb1, vinner_eq ha0 ha1 hp0 hp1, vcross_eq ha0 ha1 hb0 hb1, vcross_eq ha0 ha1 hp0 hp1, vinner_eq ha0 ha1 hb0 hb1]
    grind
  have eD : vinner_0 b0 b1 p0 p1 * (a0 * a0 + a1 * a1) = vinner_0 a0 a1 p0 p1 * vinner_0 a0 a1 b0 b1 + vcross_0 a0 a1 p0 p1 * vcross_0 a0 a1 b0 b1 := by
    rw [vinner_eq hb0 hb1 hp0 hp1, vinner_eq ha0 ha1 hp0 hp1, vcross_eq ha0 ha1 hb0 hb1, vcross_eq ha0 ha1 hp0 hp1, vinner_eq ha0 ha1 hb0 hb1]
    grind
  have nz : ∀ {q0 q1 : Int}, b9 q0 → b9 q1 → (q0 ≠ 0 ∨ q1 ≠ 0) → vinner_0 a0 a1 q0 q1 ≠ 0 ∨ vcross_0 a0 a1 q0 q1 ≠ 0 := fun {q0 q1} h0 h1 hq => by
    have hM := sq_pos hq
    have e : vinner_0 a0 a1 q0 q1 * vinner_0 a0 a1 q0 q1 + vcross_0 a0 a1 q0 q1 * vcross_0 a0 a1 q0 q1 = (a0 * a0 + a1 * a1) * (q0 * q0 + q1 * q1) := by
      rw [vinner_eq ha0 ha1 h0 h1, vcross_eq ha0 ha1 h0 h1]
      grind
    have hpos := Int.mul_pos hN hM
    rw [← e] at hpos
    by_cases q1 : vinner_0 a0 a1 q0 q1 = 0
    · right
      intro q2
      rw [q1, q2] at hpos
      simp at hpos
    · exact .inl q1
  exact ⟨nz hp0 hp1 hp, nz hb0 hb1 hb, ⟨fun h => by rw [← eC]; exact scaled_pos hN h, fun h => by rw [← eC] at h; exact pos_of_scaled hN h⟩, ⟨fun h => by rw [← eC]; exact scaled_neg hN h, fun h => by rw [← eC] at h; exact neg_of_scaled hN h⟩, ⟨fun h => by rw [← eD]; exact scaled_pos hN h, fun h => by rw [← eD] at h; exact pos_of_scaled hN h⟩⟩
theorem contains_iff (a0 a1 b0 b1 p0 p1 : Int) : contains_0 a0 a1 b0 b1 p0 p1 = true ↔
    (((0 < vcross_0 a0 a1 p0 p1 ∨ vcross_0 a0 a1 p0 p1 = 0 ∧ 0 < vinner_0 a0 a1 p0 p1) ∧ (¬ (0 < vcross_0 a0 a1 b0 b1 ∨ vcross_0 a0 a1 b0 b1 = 0 ∧ 0 < vinner_0 a0 a1 b0 b1) ∨ 0 ≤ vcross_0 p0 p1 b0 b1)) ∨
     (¬ (0 < vcross_0 a0 a1 p0 p1 ∨ vcross_0 a0 a1 p0 p1 = 0 ∧ 0 < vinner_0 a0 a1 p0 p1) ∧ ¬ (0 < vcross_0 a0 a1 b0 b1 ∨ vcross_0 a0 a1 b0 b1 = 0 ∧ 0 < vinner_0 a0 a1 b0 b1) ∧ 0 ≤ vcross_0 p0 p1 b0 b1)) := by
  have o1 := chalf_or a0 a1 p0 p1
  have o2 := chalf_or a0 a1 b0 b1
  unfold contains_0
  generalize (0 < vcross_0 a0 a1 p0 p1 ∨ vcross_0 a0 a1 p0 p1 = 0 ∧ 0 < vinner_0 a0 a1 p0 p1) = P at *
  generalize (0 < vcross_0 a0 a1 b0 b1 ∨ vcross_0 a0 a1 b0 b1 = 0 ∧ 0 < vinner_0 a0 a1 b0 b1) = Q at *
  simp only [Bool.or_eq_true, Bool.and_eq_true, decide_eq_true_eq, beq_iff_eq, ge_iff_le]
  rcases o1 with ⟨g1, g2⟩ | ⟨g1, g2⟩ <;> rcases o2 with ⟨g3, g4⟩ | ⟨g3, g4⟩ <;> simp [g1, g2, g3, g4]
theorem insweep_cw_iff {a0 a1 b0 b1 p0 p1 : Int} (ha0 : b9 a0) (ha1 : b9 a1) (hb0 : b9 b0) (hb1 : b9 b1) (hp0 : b9 p0) (hp1 : b9 p1) : insweep_0 a0 a1 b0 b1 p0 p1 (-1) false = true ↔
    (((vcross_0 a0 a1 p0 p1 < 0 ∨ vcross_0 a0 a1 p0 p1 = 0 ∧ 0 < vinner_0 a0 a1 p0 p1) ∧ (¬ (vcross_0 a0 a1 b0 b1 < 0 ∨ vcross_0 a0 a1 b0 b1 = 0 ∧ 0 < vinner_0 a0 a1 b0 b1) ∨ vcross_0 p0 p1 b0 b1 ≤ 0)) ∨
     (¬ (vcross_0 a0 a1 p0 p1 < 0 ∨ vcross_0 a0 a1 p0 p1 = 0 ∧ 0 < vinner_0 a0 a1 p0 p1) ∧ ¬ (vcross_0 a0 a1 b0 b1 < 0 ∨ vcross_0 a0 a1 b0 b1 = 0 ∧ 0 < vinner_0 a0 a1 b0 b1) ∧ vcross_0 p0 p1 b0 b1 ≤ 0)) := by
  have bnd : ∀ {a b c d : Int}, b9 a → b9 b → b9 c → b9 d → bd 2000000000000000000 (vcross_0 a b c d) := fun {a b c d} h1 h2 h3 h4 => by
    have q1 := mul_bd h1 h4 (by omega) (by omega)
    have q2 := mul_bd h2 h3 (by omega) (by omega)
    rw [vcross_eq h1 h2 h3 h4]
    generalize a * d = s at *
    generalize b * c = t at *
    omega
  have neg : ∀ x, bd 2000000000000000000 x → IntKind.i64.wrap (x * -1) = -x := fun x h => by rw [show x * -1 = -x by omega]; exact wrI (by omega) (by omega)
  have o3 := rhalf_or a0 a1 p0 p1 (-1)
  have o4 := rhalf_or a0 a1 b0 b1 (-1)
  rw [neg _ (bnd ha0 ha1 hp0 hp1)] at o3
  rw [neg _ (bnd ha0 ha1 hb0 hb1)] at o4
  unfold insweep_0
  rw [neg _ (bnd hp0 hp1 hb0 hb1)]
  clear neg bnd
  generalize vcross_0 a0 a1 p0 p1 = y at *
  generalize vinner_0 a0 a1 p0 p1 = x at *
  generalize vcross_0 a0 a1 b0 b1 = v at *
  generalize vinner_0 a0 a1 b0 b1 = u at *
  generalize vcross_0 p0 p1 b0 b1 = c at *
  generalize rhalf_0 a0 a1 p0 p1 (-1) = h at *
  generalize rhalf_0 a0 a1 b0 b1 (-1) = k at *
  rcases o3 with ⟨g1, g2⟩ | ⟨g1, g2⟩ <;> rcases o4 with ⟨g3, g4⟩ | ⟨g3, g4⟩ <;> subst g2 <;> subst g4 <;> simp <;> omega
theorem contains_first {a0 a1 : Int} (b0 b1 : Int) (h0 : b9 a0) (h1 : b9 a1) (ha : a0 ≠ 0 ∨ a1 ≠ 0) : contains_0 a0 a1 b0 b1 a0 a1 = true := by
  rw [contains_iff]
  have hp := sq_pos ha
  have e1 : vcross_0 a0 a1 a0 a1 = 0 := by
    rw [vcross_eq h0 h1 h0 h1, Int.mul_comm]; omega
  have e2 : vinner_0 a0 a1 a0 a1 = a0 * a0 + a1 * a1 := vinner_eq h0 h1 h0 h1
  rw [e1, e2]
  omega
theorem contains_last (a0 a1 : Int) {b0 b1 : Int} (h0 : b9 b0) (h1 : b9 b1) : contains_0 a0 a1 b0 b1 b0 b1 = true := by
  rw [contains_iff]
  have e1 : vcross_0 b0 b1 b0 b1 = 0 := by
    rw [vcross_eq h0 h1 h0 h1, Int.mul_comm]; omega
  rw [e1]
  generalize (0 < vcross_0 a0 a1 b0 b1 ∨ vcross_0 a0 a1 b0 b1 = 0 ∧ 0 < vinner_0 a0 a1 b0 b1) = P
  by_cases h : P <;> simp [h]
/-- One sector, or the other one; both at their ends alone. -/
theorem two_sectors {a0 a1 b0 b1 p0 p1 : Int} (ha0 : b9 a0) (ha1 : b9 a1) (hb0 : b9 b0) (hb1 : b9 b1) (hp0 : b9 p0) (hp1 : b9 p1) (ha : a0 ≠ 0 ∨ a1 ≠ 0) (hb : b0 ≠ 0 ∨ b1 ≠ 0) (hp : p0 ≠ 0 ∨ p1 ≠ 0) (hna : aligned_0 a0 a1 b0 b1 = false) :
    (contains_0 a0 a1 b0 b1 p0 p1 || contains_0 b0 b1 a0 a1 p0 p1) = true ∧ (contains_0 a0 a1 b0 b1 p0 p1 && contains_0 b0 b1 a0 a1 p0 p1) = (aligned_0 a0 a1 p0 p1 || aligned_0 b0 b1 p0 p1) := by
  obtain ⟨z1, z2, z3, z4, z5⟩ := seen ha0 ha1 hb0 hb1 hp0 hp1 ha hb hp
  have hna' : ¬ (vcross_0 a0 a1 b0 b1 = 0 ∧ 0 < vinner_0 a0 a1 b0 b1) := by
    rintro ⟨h1, h2⟩
    unfold aligned_0 at hna
    rw [h1, decide_eq_true h2] at hna
    cases hna
  have core := sec_core z1 z2 hna' z3 z4 z5
  rw [← contains_iff, ← insweep_cw_iff ha0 ha1 hb0 hb1 hp0 hp1, ← sweep_cw ha0 ha1 hb0 hb1 hp0 hp1 ha hb hp] at core
  obtain ⟨c1, c2⟩ := core
  refine ⟨by rw [Bool.or_eq_true]; exact c1, ?_⟩
  rw [Bool.eq_iff_iff, Bool.and_eq_true, c2]
  unfold aligned_0
  have e : vcross_0 b0 b1 p0 p1 = -vcross_0 p0 p1 b0 b1 := by rw [vcross_eq hb0 hb1 hp0 hp1, vcross_eq hp0 hp1 hb0 hb1]; grind
  simp only [Bool.or_eq_true, Bool.and_eq_true, beq_iff_eq, decide_eq_true_eq, e, gt_iff_lt]
  constructor
  · rintro (h | h)
    · exact .inl h
    · exact .inr ⟨by omega, h.2⟩
  · rintro (h | h)
    · exact .inl h
    · exact .inr ⟨by omega, h.2⟩
theorem arcG_nz {p A0 A1 B0 B1 C0 C1 h k d : Int} {fu : Bool} (G : ArcG p A0 A1 B0 B1 C0 C1 h k d fu) : (A0 ≠ 0 ∨ A1 ≠ 0) ∧ (B0 ≠ 0 ∨ B1 ≠ 0) := by
  obtain ⟨g1, g2, g3, g4, g5, g6, g7, g8, g9, _, gf⟩ := G
  exact fit_nz (by omega) (by omega) (by omega) (by omega) gf
theorem arcG_na {p A0 A1 B0 B1 C0 C1 h k d : Int} (G : ArcG p A0 A1 B0 B1 C0 C1 h k d false) : aligned_0 A0 A1 B0 B1 = false := by
  have h := fit_same A0 A1 B0 B1 false
  rw [G.fit] at h
  simp only [Bool.not_true, Bool.or_eq_false_iff, Bool.and_eq_false_iff, Bool.not_false, Bool.true_and] at h
  simpa using h.2
theorem inside_form {f0 f1 f2 t0 t1 t2 p c0 c1 c2 A0 A1 B0 B1 C0 C1 h k d : Int} {fu : Bool} (I : ArcI f0 f1 f2 t0 t1 t2 p c0 c1 c2 A0 A1 B0 B1 C0 C1 h k) (G : ArcG p A0 A1 B0 B1 C0 C1 h k d fu) (e u w : Int) :
    ainside_0 f0 f1 f2 t0 t1 t2 p c0 c1 c2 e fu u w = (fu || bif decide (e < 0) then contains_0 B0 B1 A0 A1 u w else contains_0 A0 A1 B0 B1 u w) := by
  obtain ⟨s0, s1, s2, s3⟩ := arcI_spokes I G
  unfold ainside_0
  rw [s0, s1, s2, s3]
  cases decide (e < 0) <;> rfl
theorem inside_same {f0 f1 f2 t0 t1 t2 p c0 c1 c2 A0 A1 B0 B1 C0 C1 h k d : Int} {fu : Bool} (I : ArcI f0 f1 f2 t0 t1 t2 p c0 c1 c2 A0 A1 B0 B1 C0 C1 h k) (G : ArcG p A0 A1 B0 B1 C0 C1 h k d fu) {u w : Int} (hu : b9 u) (hw : b9 w) (hp : u ≠ 0 ∨ w ≠ 0) :
    ainside_0 f0 f1 f2 t0 t1 t2 p c0 c1 c2 d fu u w = rinside_0 f0 f1 f2 t0 t1 t2 p c0 c1 c2 d fu u w := by
  obtain ⟨s0, s1, s2, s3⟩ := arcI_spokes I G
  obtain ⟨n1, n2⟩ := arcG_nz G
  have ea : ∀ x0 x1 x2 y0 y1 y2 : Int, minus_0 (flat_0 p x0 x1 x2) (flat_0 p y0 y1 y2) = aspokes_0 x0 x1 x2 p y0 y1 y2 := fun _ _ _ _ _ _ => rfl
  have eb : ∀ x0 x1 x2 y0 y1 y2 : Int, minus_0 (flat_1 p x0 x1 x2) (flat_1 p y0 y1 y2) = aspokes_1 x0 x1 x2 p y0 y1 y2 := fun _ _ _ _ _ _ => rfl
  rw [inside_form I G]
  unfold rinside_0
  rw [ea, ea, eb, eb, s0, s1, s2, s3]
  cases fu
  · obtain ⟨g1, g2, g3, g4, g5, g6, g7, g8, g9, gd, gf⟩ := G
    rcases gd with rfl | rfl
    · rw [← sweep_ccw]; rfl
    · rw [← sweep_cw (by omega) (by omega) (by omega) (by omega) hu hw n1 n2 hp]; rfl
  · rfl
theorem fit_comm {a b c d : Int} {e : Bool} (ha : b9 a) (hb : b9 b) (hc : b9 c) (hd : b9 d) (h : fit_0 a b c d e = true) : fit_0 c d a b e = true := by
  have h1 := fit_same a b c d e
  have h2 := fit_same c d a b e
  have es : similar_0 (vinner_0 c d c d) (vinner_0 a b a b) = similar_0 (vinner_0 a b a b) (vinner_0 c d c d) := by
    generalize vinner_0 c d c d = x
    generalize vinner_0 a b a b = y
    have m1 : (if y > x then y else x) = if x > y then x else y := by split <;> split <;> omega
    have m2 : (if y < x then y else x) = if x < y then x else y := by split <;> split <;> omega
    unfold similar_0 similar_s1 similar_s0
    rw [m1, m2]
  have ea : aligned_0 c d a b = aligned_0 a b c d := by
    have e1 : vcross_0 c d a b = -vcross_0 a b c d := by rw [vcross_eq hc hd ha hb, vcross_eq ha hb hc hd]; grind
    have e2 : vinner_0 c d a b = vinner_0 a b c d := by rw [vinner_eq hc hd ha hb, vinner_eq ha hb hc hd]; grind
    unfold aligned_0
    rw [e1, e2]
    congr 1
    rw [Bool.eq_iff_iff]; simp <;> omega
  have ee : (c == a && d == b) = (a == c && b == d) := by
    rw [Bool.eq_iff_iff]; simp; omega
  rw [es, ea, ee, Bool.or_comm (decide (vinner_0 c d c d < 64)), h1, h] at h2
  simpa using h2.symm
theorem arc_back {f0 f1 f2 t0 t1 t2 p c0 c1 c2 A0 A1 B0 B1 C0 C1 h k d : Int} {fu : Bool} (I : ArcI f0 f1 f2 t0 t1 t2 p c0 c1 c2 A0 A1 B0 B1 C0 C1 h k) (G : ArcG p A0 A1 B0 B1 C0 C1 h k d fu) :
    ArcI t0 t1 t2 f0 f1 f2 p (solid_0 p (flat_0 p c0 c1 c2) (flat_1 p c0 c1 c2) (flat_2 p t0 t1 t2)) (solid_1 p (flat_0 p c0 c1 c2) (flat_1 p c0 c1 c2) (flat_2 p t0 t1 t2)) (solid_2 p (flat_0 p c0 c1 c2) (flat_1 p c0 c1 c2) (flat_2 p t0 t1 t2)) B0 B1 A0 A1 C0 C1 k h ∧ ArcG p B0 B1 A0 A1 C0 C1 k h (IntKind.i64.wrap (0 - d)) fu := by
  obtain ⟨g1, g2, g3, g4, g5, g6, g7, g8, g9, gd, gf⟩ := G
  rw [I.c.1, I.c.2.1, I.t.2.2]
  refine ⟨⟨I.t, I.f, flat_solid g1 _ _ _, I.wt, I.wf, solid_co g1 (by omega) (by omega) (by omega)⟩, ⟨g1, g4, g5, g2, g3, g6, g7, g9, g8, ?_, fit_comm (by omega) (by omega) (by omega) (by omega) gf⟩⟩
  rcases gd with rfl | rfl
  · right; decide
  · left; decide
/-- Tangents at the ends. -/
theorem tang_form {f0 f1 f2 t0 t1 t2 p c0 c1 c2 A0 A1 B0 B1 C0 C1 h k d : Int} {fu : Bool} (I : ArcI f0 f1 f2 t0 t1 t2 p c0 c1 c2 A0 A1 B0 B1 C0 C1 h k) (G : ArcG p A0 A1 B0 B1 C0 C1 h k d fu) (e : Bool) :
    atang_0 3 f0 f1 f2 t0 t1 t2 p c0 c1 c2 d e = -(bif e then B1 else A1) * d ∧ atang_1 3 f0 f1 f2 t0 t1 t2 p c0 c1 c2 d e = (bif e then B0 else A0) * d := by
  obtain ⟨s0, s1, s2, s3⟩ := arcI_spokes I G
  obtain ⟨g1, g2, g3, g4, g5, g6, g7, g8, g9, gd, gf⟩ := G
  unfold atang_0 atang_1 atang_s0 atang_s1
  rw [s0, s1, s2, s3]
  have hx : ∀ e : Bool, bd 20002 (bif e then B1 else A1) ∧ bd 20002 (bif e then B0 else A0) := fun e => by cases e <;> constructor <;> assumption
  have := hx e
  generalize (bif e then B1 else A1) = y at *
  generalize (bif e then B0 else A0) = x at *
  rcases gd with rfl | rfl
  · have e1 : decide ((1 : Int) < 0) = false := rfl
    have e2 : ((3 : Int) != 3) = false := rfl
    rw [e1, e2, cond_false, cond_false, cond_false, cond_false, wrI (by omega) (by omega)]
    omega
  · have e1 : decide ((-1 : Int) < 0) = true := rfl
    have e2 : ((3 : Int) != 3) = false := rfl
    rw [e1, e2, cond_false, cond_false, cond_true, cond_true, wrI (by omega) (by omega)]
    omega
theorem side_law {x y d : Int} (hx : bd 20002 x) (hy : bd 20002 y) (hn : x ≠ 0 ∨ y ≠ 0) (hd : d = 1 ∨ d = -1) :
    vinner_0 (-y * d) (x * d) x y = 0 ∧ vinner_0 (-y * d) (x * d) (-y * d) (x * d) = vinner_0 x y x y ∧ IntKind.i64.wrap (vcross_0 x y (-y * d) (x * d) * d) > 0 := by
  have hp := sq_pos hn
  have m1 := mul_bd hx hx (by omega) (by omega)
  have m2 := mul_bd hy hy (by omega) (by omega)
  rcases hd with rfl | rfl
  · simp only [Int.mul_one]
    rw [vinner_eq (a := -y) (b := x) (by omega) (by omega) (by omega) (by omega), vinner_eq (a := -y) (by omega) (by omega) (by omega) (by omega), vinner_eq (by omega) (by omega) (by omega) (by omega), vcross_eq (by omega) (by omega) (by omega) (by omega)]
    have e1 : -y * x + x * y = 0 := by grind
    have e2 : -y * -y + x * x = x * x + y * y := by grind
    have e3 : x * x - y * -y = x * x + y * y := by grind
    rw [e1, e2, e3, wrI (by omega) (by omega)]
    exact ⟨rfl, rfl, hp⟩
  · have e4 : -y * -1 = y := by omega
    have e5 : x * -1 = -x := by omega
    rw [e4, e5]
    rw [vinner_eq (a := y) (b := -x) (by omega) (by omega) (by omega) (by omega), vinner_eq (a := y) (by omega) (by omega) (by omega) (by omega), vinner_eq (by omega) (by omega) (by omega) (by omega), vcross_eq (by omega) (by omega) (by omega) (by omega)]
    have e1 : y * x + -x * y = 0 := by grind
    have e2 : y * y + -x * -x = x * x + y * y := by grind
    have e3 : (x * -x - y * y) * -1 = x * x + y * y := by grind
    rw [e1, e2, e3, wrI (by omega) (by omega)]
    exact ⟨rfl, rfl, hp⟩
end Go.Proofs.Ytkggdhnliiagjaa
