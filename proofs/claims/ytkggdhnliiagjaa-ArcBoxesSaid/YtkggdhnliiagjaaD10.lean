/-
  EXTENTS of arcs, plain law: they contain the ends and lie within the circle of the longer spoke. Conditions: the item's form.
-/
import Derived.Test.YtkggdhnliiagjaaD8
set_option linter.all false
namespace Go.Proofs.Ytkggdhnliiagjaa
open Go.SX Go.RowKit
noncomputable def stL (b : Bool) (s w : Int) : Int := bif b then s else abox_0 s w
noncomputable def stH (b : Bool) (s w : Int) : Int := bif b then s else abox_3 s w
theorem stL_law (b : Bool) (s w : Int) : stL b s w ≤ s ∧ ∀ m, m ≤ s → m ≤ w → m ≤ stL b s w := by
  unfold stL abox_0
  cases b
  · rw [cond_false]; split
    · exact ⟨by omega, fun m h1 h2 => h2⟩
    · exact ⟨by omega, fun m h1 h2 => h1⟩
  · exact ⟨by rw [cond_true]; omega, fun m h1 h2 => h1⟩
theorem stH_law (b : Bool) (s w : Int) : s ≤ stH b s w ∧ ∀ m, s ≤ m → w ≤ m → stH b s w ≤ m := by
  unfold stH abox_3
  cases b
  · rw [cond_false]; split
    · exact ⟨by omega, fun m h1 h2 => h2⟩
    · exact ⟨by omega, fun m h1 h2 => h1⟩
  · exact ⟨by rw [cond_true]; omega, fun m h1 h2 => h1⟩
noncomputable def chL (b1 b2 b3 b4 : Bool) (f t w1 w2 w3 w4 : Int) : Int := stL b4 (stL b3 (stL b2 (stL b1 (abox_0 f t) w1) w2) w3) w4
noncomputable def chH (b1 b2 b3 b4 : Bool) (f t w1 w2 w3 w4 : Int) : Int := stH b4 (stH b3 (stH b2 (stH b1 (abox_3 f t) w1) w2) w3) w4
theorem chL_law (b1 b2 b3 b4 : Bool) (f t w1 w2 w3 w4 : Int) : chL b1 b2 b3 b4 f t w1 w2 w3 w4 ≤ f ∧ chL b1 b2 b3 b4 f t w1 w2 w3 w4 ≤ t ∧ ∀ m, m ≤ f → m ≤ t → m ≤ w1 → m ≤ w2 → m ≤ w3 → m ≤ w4 → m ≤ chL b1 b2 b3 b4 f t w1 w2 w3 w4 := by
  unfold chL
  obtain ⟨a1, a2⟩ := stL_law b1 (abox_0 f t) w1
  obtain ⟨a3, a4⟩ := stL_law b2 (stL b1 (abox_0 f t) w1) w2
  obtain ⟨a5, a6⟩ := stL_law b3 (stL b2 (stL b1 (abox_0 f t) w1) w2) w3
  obtain ⟨a7, a8⟩ := stL_law b4 (stL b3 (stL b2 (stL b1 (abox_0 f t) w1) w2) w3) w4
  have h : abox_0 f t ≤ f ∧ abox_0 f t ≤ t ∧ ∀ m, m ≤ f → m ≤ t → m ≤ abox_0 f t := by
    unfold abox_0; split
    · exact ⟨by omega, by omega, fun m h1 h2 => h2⟩
    · exact ⟨by omega, by omega, fun m h1 h2 => h1⟩
  exact ⟨by omega, by omega, fun m g1 g2 g3 g4 g5 g6 => a8 m (a6 m (a4 m (a2 m (h.2.2 m g1 g2) g3) g4) g5) g6⟩
theorem chH_law (b1 b2 b3 b4 : Bool) (f t w1 w2 w3 w4 : Int) : f ≤ chH b1 b2 b3 b4 f t w1 w2 w3 w4 ∧ t ≤ chH b1 b2 b3 b4 f t w1 w2 w3 w4 ∧ ∀ m, f ≤ m → t ≤ m → w1 ≤ m → w2 ≤ m → w3 ≤ m → w4 ≤ m → chH b1 b2 b3 b4 f t w1 w2 w3 w4 ≤ m := by
  unfold chH
  obtain ⟨a1, a2⟩ := stH_law b1 (abox_3 f t) w1
  obtain ⟨a3, a4⟩ := stH_law b2 (stH b1 (abox_3 f t) w1) w2
  obtain ⟨a5, a6⟩ := stH_law b3 (stH b2 (stH b1 (abox_3 f t) w1) w2) w3
  obtain ⟨a7, a8⟩ := stH_law b4 (stH b3 (stH b2 (stH b1 (abox_3 f t) w1) w2) w3) w4
  have h : f ≤ abox_3 f t ∧ t ≤ abox_3 f t ∧ ∀ m, f ≤ m → t ≤ m → abox_3 f t ≤ m := by
    unfold abox_3; split
    · exact ⟨by omega, by omega, fun m h1 h2 => h2⟩
    · exact ⟨by omega, by omega, fun m h1 h2 => h1⟩
  exact ⟨by omega, by omega, fun m g1 g2 g3 g4 g5 g6 => a8 m (a6 m (a4 m (a2 m (h.2.2 m g1 g2) g3) g4) g5) g6⟩
theorem le_root {x R n : Int} (h1 : x * x ≤ n) (h2 : n ≤ R * R) (hR : 0 ≤ R) : -R ≤ x ∧ x ≤ R := by
  constructor
  · rcases Int.lt_or_le x (-R) with g | g
    · have := Int.mul_le_mul (show R + 1 ≤ -x by omega) (show R + 1 ≤ -x by omega) (by omega) (by omega)
      rw [Int.neg_mul_neg] at this
      have e : (R + 1) * (R + 1) = R * R + 2 * R + 1 := by grind
      omega
    · exact g
  · rcases Int.lt_or_le R x with g | g
    · have := Int.mul_le_mul (show R + 1 ≤ x by omega) (show R + 1 ≤ x by omega) (by omega) (by omega)
      have e : (R + 1) * (R + 1) = R * R + 2 * R + 1 := by grind
      omega
    · exact g
/-- The root, rounded up. -/
theorem up_root {n : Int} (h0 : 0 ≤ n) (h1 : n ≤ 900000000) : n ≤ wSqrt_0 n 1 * wSqrt_0 n 1 ∧ 0 ≤ wSqrt_0 n 1 ∧ wSqrt_0 n 1 ≤ 30001 := by
  obtain ⟨_, e⟩ := wSqrt_law (m := 1) h0 ⟨by omega, by omega⟩ (.inr (.inl rfl))
  obtain ⟨a, b, c, d⟩ := sqr_law h0 (by omega)
  have hs : sqr n ≤ 30000 := by
    rcases Int.lt_or_le 30000 (sqr n) with g | g
    · have := Int.mul_le_mul g g (by omega) a
      omega
    · exact g
  rw [e]
  by_cases g : sqr n * sqr n = n
  · rw [if_neg (by omega)]; omega
  · rw [if_pos (.inl ⟨rfl, g⟩)]; omega
theorem arc_ch {f0 f1 f2 t0 t1 t2 p c0 c1 c2 A0 A1 B0 B1 C0 C1 h k d : Int} {fu : Bool} (I : ArcI f0 f1 f2 t0 t1 t2 p c0 c1 c2 A0 A1 B0 B1 C0 C1 h k) (G : ArcG p A0 A1 B0 B1 C0 C1 h k d fu) : ∃ b1 b2 b3 b4 R, R = wSqrt_0 (mxs f0 f1 f2 t0 t1 t2 p c0 c1 c2) 1 ∧
    aext_0 3 f0 f1 f2 t0 t1 t2 p c0 c1 c2 d fu = chL b1 b2 b3 b4 f0 t0 (solid_0 p (C0 + R) C1 h) (solid_0 p C0 (C1 + R) h) (solid_0 p (C0 - R) C1 h) (solid_0 p C0 (C1 - R) h) ∧ aext_1 3 f0 f1 f2 t0 t1 t2 p c0 c1 c2 d fu = chL b1 b2 b3 b4 f1 t1 (solid_1 p (C0 + R) C1 h) (solid_1 p C0 (C1 + R) h) (solid_1 p (C0 - R) C1 h) (solid_1 p C0 (C1 - R) h) ∧ aext_2 3 f0 f1 f2 t0 t1 t2 p c0 c1 c2 d fu = chL b1 b2 b3 b4 f2 t2 (solid_2 p (C0 + R) C1 h) (solid_2 p C0 (C1 + R) h) (solid_2 p (C0 - R) C1 h) (solid_2 p C0 (C1 - R) h) ∧ aext_3 3 f0 f1 f2 t0 t1 t2 p c0 c1 c2 d fu = chH b1 b2 b3 b4 f0 t0 (solid_0 p (C0 + R) C1 h) (solid_0 p C0 (C1 + R) h) (solid_0 p (C0 - R) C1 h) (solid_0 p C0 (C1 - R) h) ∧ aext_4 3 f0 f1 f2 t0 t1 t2 p c0 c1 c2 d fu = chH b1 b2 b3 b4 f1 t1 (solid_1 p (C0 + R) C1 h) (solid_1 p C0 (C1 + R) h) (solid_1 p (C0 - R) C1 h) (solid_1 p C0 (C1 - R) h) ∧ aext_5 3 f0 f1 f2 t0 t1 t2 p c0 c1 c2 d fu = chH b1 b2 b3 b4 f2 t2 (solid_2 p (C0 + R) C1 h) (solid_2 p C0 (C1 + R) h) (solid_2 p (C0 - R) C1 h) (solid_2 p C0 (C1 - R) h) := by
  obtain ⟨m, m0, m1⟩ := rext_mx I G
  obtain ⟨r1, r2, r3⟩ := up_root m0 m1
  refine ⟨!ainside_0 f0 f1 f2 t0 t1 t2 p c0 c1 c2 d fu 1 0, !ainside_0 f0 f1 f2 t0 t1 t2 p c0 c1 c2 d fu 0 1, !ainside_0 f0 f1 f2 t0 t1 t2 p c0 c1 c2 d fu (-1) 0, !ainside_0 f0 f1 f2 t0 t1 t2 p c0 c1 c2 d fu 0 (-1), wSqrt_0 (mxs f0 f1 f2 t0 t1 t2 p c0 c1 c2) 1, rfl, ?_⟩
  have q0 : aext_s0 f0 f1 f2 t0 t1 t2 p c0 c1 c2 = wSqrt_0 (mxs f0 f1 f2 t0 t1 t2 p c0 c1 c2) 1 := by show IntKind.i64.wrap (wSqrt_0 (mxs f0 f1 f2 t0 t1 t2 p c0 c1 c2) 1 * 1) = _; rw [Int.mul_one, wrI (by omega) (by omega)]
  have q1 : aext_s1 f0 f1 f2 t0 t1 t2 p c0 c1 c2 = 0 := by show IntKind.i64.wrap (wSqrt_0 (mxs f0 f1 f2 t0 t1 t2 p c0 c1 c2) 1 * 0) = _; rw [Int.mul_zero]; rfl
  have q5 : aext_s5 f0 f1 f2 t0 t1 t2 p c0 c1 c2 = -wSqrt_0 (mxs f0 f1 f2 t0 t1 t2 p c0 c1 c2) 1 := by show IntKind.i64.wrap (wSqrt_0 (mxs f0 f1 f2 t0 t1 t2 p c0 c1 c2) 1 * -1) = _; rw [wrI (by omega) (by omega)]; omega
  have c0' := G.c0
  have c1' := G.c1
  generalize wSqrt_0 (mxs f0 f1 f2 t0 t1 t2 p c0 c1 c2) 1 = R at *
  have q2 : aext_s2 f0 f1 f2 t0 t1 t2 p c0 c1 c2 = C1 := by unfold aext_s2; rw [q1, I.c.2.1, wrI (by omega) (by omega)]; omega
  have w1 : IntKind.i64.wrap (flat_0 p c0 c1 c2 + R) = C0 + R := by rw [I.c.1, wrI (by omega) (by omega)]
  have w2 : IntKind.i64.wrap (flat_0 p c0 c1 c2 + 0) = C0 := by rw [I.c.1, wrI (by omega) (by omega)]; omega
  have w3 : IntKind.i64.wrap (flat_0 p c0 c1 c2 + -R) = C0 - R := by rw [I.c.1, wrI (by omega) (by omega)]; omega
  have w4 : IntKind.i64.wrap (flat_1 p c0 c1 c2 + R) = C1 + R := by rw [I.c.2.1, wrI (by omega) (by omega)]
  have w5 : IntKind.i64.wrap (flat_1 p c0 c1 c2 + -R) = C1 - R := by rw [I.c.2.1, wrI (by omega) (by omega)]; omega
  refine ⟨?_, ?_, ?_, ?_, ?_, ?_⟩
  · unfold aext_0 aext_s6 aext_s4 aext_s3 chL stL
    rw [q0, q1, q5, q2, w1, w2, w3, w4, w5, I.c.2.2]
    rfl
  · unfold aext_1 aext_s9 aext_s8 aext_s7 chL stL
    rw [q0, q1, q5, q2, w1, w2, w3, w4, w5, I.c.2.2]
    rfl
  · unfold aext_2 aext_s12 aext_s11 aext_s10 chL stL
    rw [q0, q1, q5, q2, w1, w2, w3, w4, w5, I.c.2.2]
    rfl
  · unfold aext_3 aext_s15 aext_s14 aext_s13 chH stH
    rw [q0, q1, q5, q2, w1, w2, w3, w4, w5, I.c.2.2]
    rfl
  · unfold aext_4 aext_s18 aext_s17 aext_s16 chH stH
    rw [q0, q1, q5, q2, w1, w2, w3, w4, w5, I.c.2.2]
    rfl
  · unfold aext_5 aext_s21 aext_s20 aext_s19 chH stH
    rw [q0, q1, q5, q2, w1, w2, w3, w4, w5, I.c.2.2]
    rfl
/-- The plain law. -/
theorem box_law {f0 f1 f2 t0 t1 t2 p c0 c1 c2 A0 A1 B0 B1 C0 C1 h k d : Int} {fu : Bool} (I : ArcI f0 f1 f2 t0 t1 t2 p c0 c1 c2 A0 A1 B0 B1 C0 C1 h k) (G : ArcG p A0 A1 B0 B1 C0 C1 h k d fu) {l0 l1 l2 g0 g1 g2 r : Int}
    (e0 : aext_0 3 f0 f1 f2 t0 t1 t2 p c0 c1 c2 d fu = l0) (e1 : aext_1 3 f0 f1 f2 t0 t1 t2 p c0 c1 c2 d fu = l1) (e2 : aext_2 3 f0 f1 f2 t0 t1 t2 p c0 c1 c2 d fu = l2) (e3 : aext_3 3 f0 f1 f2 t0 t1 t2 p c0 c1 c2 d fu = g0) (e4 : aext_4 3 f0 f1 f2 t0 t1 t2 p c0 c1 c2 d fu = g1) (e5 : aext_5 3 f0 f1 f2 t0 t1 t2 p c0 c1 c2 d fu = g2)
    (hr : wSqrt_0 (mxs f0 f1 f2 t0 t1 t2 p c0 c1 c2) 1 ≤ r) :
    (l0 ≤ f0 ∧ l1 ≤ f1 ∧ l2 ≤ f2 ∧ f0 ≤ g0 ∧ f1 ≤ g1 ∧ f2 ≤ g2) ∧ (l0 ≤ t0 ∧ l1 ≤ t1 ∧ l2 ≤ t2 ∧ t0 ≤ g0 ∧ t1 ≤ g1 ∧ t2 ≤ g2) ∧ C0 - r ≤ flat_0 p l0 l1 l2 ∧ C1 - r ≤ flat_1 p l0 l1 l2 ∧ flat_0 p g0 g1 g2 ≤ C0 + r ∧ flat_1 p g0 g1 g2 ≤ C1 + r := by
  obtain ⟨m, m0, m1⟩ := rext_mx I G
  obtain ⟨r1, r2, r3⟩ := up_root m0 m1
  obtain ⟨b1, b2, b3, b4, R, hR, x0, x1, x2, x3, x4, x5⟩ := arc_ch I G
  rw [← hR] at r1 r2 r3 hr
  have n1 := sq_nn A0 0
  have n2 := sq_nn A1 0
  have n3 := sq_nn B0 0
  have n4 := sq_nn B1 0
  simp only [Int.mul_zero, Int.add_zero] at n1 n2 n3 n4
  have hm : A0 * A0 ≤ mxs f0 f1 f2 t0 t1 t2 p c0 c1 c2 ∧ A1 * A1 ≤ mxs f0 f1 f2 t0 t1 t2 p c0 c1 c2 ∧ B0 * B0 ≤ mxs f0 f1 f2 t0 t1 t2 p c0 c1 c2 ∧ B1 * B1 ≤ mxs f0 f1 f2 t0 t1 t2 p c0 c1 c2 := by
    rw [m]; refine ⟨?_, ?_, ?_, ?_⟩ <;> split <;> omega
  have a0 := le_root hm.1 r1 r2
  have a1 := le_root hm.2.1 r1 r2
  have a2 := le_root hm.2.2.1 r1 r2
  have a3 := le_root hm.2.2.2 r1 r2
  rw [e0] at x0
  rw [e1] at x1
  rw [e2] at x2
  rw [e3] at x3
  rw [e4] at x4
  rw [e5] at x5
  obtain ⟨u0, v0, y0⟩ := chL_law b1 b2 b3 b4 f0 t0 (solid_0 p (C0 + R) C1 h) (solid_0 p C0 (C1 + R) h) (solid_0 p (C0 - R) C1 h) (solid_0 p C0 (C1 - R) h)
  obtain ⟨u1, v1, y1⟩ := chL_law b1 b2 b3 b4 f1 t1 (solid_1 p (C0 + R) C1 h) (solid_1 p C0 (C1 + R) h) (solid_1 p (C0 - R) C1 h) (solid_1 p C0 (C1 - R) h)
  obtain ⟨u2, v2, y2⟩ := chL_law b1 b2 b3 b4 f2 t2 (solid_2 p (C0 + R) C1 h) (solid_2 p C0 (C1 + R) h) (solid_2 p (C0 - R) C1 h) (solid_2 p C0 (C1 - R) h)
  obtain ⟨u3, v3, y3⟩ := chH_law b1 b2 b3 b4 f0 t0 (solid_0 p (C0 + R) C1 h) (solid_0 p C0 (C1 + R) h) (solid_0 p (C0 - R) C1 h) (solid_0 p C0 (C1 - R) h)
  obtain ⟨u4, v4, y4⟩ := chH_law b1 b2 b3 b4 f1 t1 (solid_1 p (C0 + R) C1 h) (solid_1 p C0 (C1 + R) h) (solid_1 p (C0 - R) C1 h) (solid_1 p C0 (C1 - R) h)
  obtain ⟨u5, v5, y5⟩ := chH_law b1 b2 b3 b4 f2 t2 (solid_2 p (C0 + R) C1 h) (solid_2 p C0 (C1 + R) h) (solid_2 p (C0 - R) C1 h) (solid_2 p C0 (C1 - R) h)
  rw [← x0] at u0 v0 y0
  rw [← x1] at u1 v1 y1
  rw [← x2] at u2 v2 y2
  rw [← x3] at u3 v3 y3
  rw [← x4] at u4 v4 y4
  rw [← x5] at u5 v5 y5
  refine ⟨⟨u0, u1, u2, u3, u4, u5⟩, ⟨v0, v1, v2, v3, v4, v5⟩, ?_⟩
  obtain ⟨i1, i2, i3⟩ := I.f
  obtain ⟨j1, j2, j3⟩ := I.t
  clear x0 x1 x2 x3 x4 x5 e0 e1 e2 e3 e4 e5 m hm hR r1 I
  rcases G.p with rfl | rfl | rfl
  · have i1' : f0 = C0 + A0 := i1
    have i2' : f1 = C1 + A1 := i2
    have j1' : t0 = C0 + B0 := j1
    have j2' : t1 = C1 + B1 := j2
    exact ⟨y0 _ (by omega) (by omega) (show _ ≤ C0 + R by omega) (show _ ≤ C0 by omega) (show _ ≤ C0 - R by omega) (show _ ≤ C0 by omega), y1 _ (by omega) (by omega) (show _ ≤ C1 by omega) (show _ ≤ C1 + R by omega) (show _ ≤ C1 by omega) (show _ ≤ C1 - R by omega),
      y3 _ (by omega) (by omega) (show C0 + R ≤ _ by omega) (show C0 ≤ _ by omega) (show C0 - R ≤ _ by omega) (show C0 ≤ _ by omega), y4 _ (by omega) (by omega) (show C1 ≤ _ by omega) (show C1 + R ≤ _ by omega) (show C1 ≤ _ by omega) (show C1 - R ≤ _ by omega)⟩
  · have i1' : f2 = C0 + A0 := i1
    have i2' : f0 = C1 + A1 := i2
    have j1' : t2 = C0 + B0 := j1
    have j2' : t0 = C1 + B1 := j2
    exact ⟨y2 _ (by omega) (by omega) (show _ ≤ C0 + R by omega) (show _ ≤ C0 by omega) (show _ ≤ C0 - R by omega) (show _ ≤ C0 by omega), y0 _ (by omega) (by omega) (show _ ≤ C1 by omega) (show _ ≤ C1 + R by omega) (show _ ≤ C1 by omega) (show _ ≤ C1 - R by omega),
      y5 _ (by omega) (by omega) (show C0 + R ≤ _ by omega) (show C0 ≤ _ by omega) (show C0 - R ≤ _ by omega) (show C0 ≤ _ by omega), y3 _ (by omega) (by omega) (show C1 ≤ _ by omega) (show C1 + R ≤ _ by omega) (show C1 ≤ _ by omega) (show C1 - R ≤ _ by omega)⟩
  · have i1' : f1 = C0 + A0 := i1
    have i2' : f2 = C1 + A1 := i2
    have j1' : t1 = C0 + B0 := j1
    have j2' : t2 = C1 + B1 := j2
    exact ⟨y1 _ (by omega) (by omega) (show _ ≤ C0 + R by omega) (show _ ≤ C0 by omega) (show _ ≤ C0 - R by omega) (show _ ≤ C0 by omega), y2 _ (by omega) (by omega) (show _ ≤ C1 by omega) (show _ ≤ C1 + R by omega) (show _ ≤ C1 by omega) (show _ ≤ C1 - R by omega),
      y4 _ (by omega) (by omega) (show C0 + R ≤ _ by omega) (show C0 ≤ _ by omega) (show C0 - R ≤ _ by omega) (show C0 ≤ _ by omega), y5 _ (by omega) (by omega) (show C1 ≤ _ by omega) (show C1 + R ≤ _ by omega) (show C1 ≤ _ by omega) (show C1 - R ≤ _ by omega)⟩
theorem rdot_flat {x y : Int} (hx : bd 20002 x) (hy : bd 20002 y) : rdot_0 x y 0 x y 0 = x * x + y * y := by
  have m1 := mul_bd hx hx (by omega) (by omega)
  have m2 := mul_bd hy hy (by omega) (by omega)
  unfold rdot_0
  rw [wrI (x := x * x) (by omega) (by omega), wrI (x := y * y) (by omega) (by omega), Int.mul_zero, wrI (x := x * x + y * y) (by omega) (by omega), wrI (x := 0) (by omega) (by omega), Int.add_zero, wrI (by omega) (by omega)]
/-- The longer of the roots. -/
theorem max_root {x y : Int} (hx : 0 ≤ x ∧ x ≤ 900000000) (hy : 0 ≤ y ∧ y ≤ 900000000) : wSqrt_0 (if x < y then y else x) 1 ≤ (if rRoot_0 y 1 1 > rRoot_0 x 1 1 then rRoot_0 y 1 1 else rRoot_0 x 1 1) ∧ bd 30001 (if rRoot_0 y 1 1 > rRoot_0 x 1 1 then rRoot_0 y 1 1 else rRoot_0 x 1 1) := by
  have ex := (sqrt_same (m := 1) hx.1 ⟨by omega, by omega⟩ (.inr (.inl rfl))).1
  have ey := (sqrt_same (m := 1) hy.1 ⟨by omega, by omega⟩ (.inr (.inl rfl))).1
  have ux := up_root hx.1 hx.2
  have uy := up_root hy.1 hy.2
  rw [← ex, ← ey]
  constructor
  · by_cases g : x < y
    · rw [if_pos g]; split <;> omega
    · rw [if_neg g]; split <;> omega
  · split <;> omega
end Go.Proofs.Ytkggdhnliiagjaa
