/-
  EXTENTS, plain laws: the program's and the reference's are the same; what they contain. Conditions: the item's form.
-/
import Derived.Test.YtkggdhnliiagjaaD6
set_option linter.all false
namespace Go.Proofs.Ytkggdhnliiagjaa
open Go.SX Go.RowKit
theorem cn {α : Type} (b : Bool) (x y : α) : (bif !b then x else y) = bif b then y else x := by cases b <;> rfl
/-- The greatest square of a spoke. -/
noncomputable def mxs (f0 f1 f2 t0 t1 t2 p c0 c1 c2 : Int) : Int := if rext_s0 t0 t1 t2 p c0 c1 c2 > rext_s0 f0 f1 f2 p c0 c1 c2 then rext_s0 t0 t1 t2 p c0 c1 c2 else rext_s0 f0 f1 f2 p c0 c1 c2
theorem ext_same {f0 f1 f2 t0 t1 t2 p c0 c1 c2 d : Int} {fu : Bool}
    (i1 : ainside_0 f0 f1 f2 t0 t1 t2 p c0 c1 c2 d fu 1 0 = rinside_0 f0 f1 f2 t0 t1 t2 p c0 c1 c2 d fu 1 0) (i2 : ainside_0 f0 f1 f2 t0 t1 t2 p c0 c1 c2 d fu 0 1 = rinside_0 f0 f1 f2 t0 t1 t2 p c0 c1 c2 d fu 0 1) (i3 : ainside_0 f0 f1 f2 t0 t1 t2 p c0 c1 c2 d fu (-1) 0 = rinside_0 f0 f1 f2 t0 t1 t2 p c0 c1 c2 d fu (-1) 0) (i4 : ainside_0 f0 f1 f2 t0 t1 t2 p c0 c1 c2 d fu 0 (-1) = rinside_0 f0 f1 f2 t0 t1 t2 p c0 c1 c2 d fu 0 (-1))
    (hr : wSqrt_0 (mxs f0 f1 f2 t0 t1 t2 p c0 c1 c2) 1 = rRoot_0 (mxs f0 f1 f2 t0 t1 t2 p c0 c1 c2) 1 1) (hh : flat_2 p c0 c1 c2 = flat_2 p f0 f1 f2) :
    aext_0 3 f0 f1 f2 t0 t1 t2 p c0 c1 c2 d fu = rext_0 3 f0 f1 f2 t0 t1 t2 p c0 c1 c2 d fu ∧ aext_1 3 f0 f1 f2 t0 t1 t2 p c0 c1 c2 d fu = rext_1 3 f0 f1 f2 t0 t1 t2 p c0 c1 c2 d fu ∧ aext_2 3 f0 f1 f2 t0 t1 t2 p c0 c1 c2 d fu = rext_2 3 f0 f1 f2 t0 t1 t2 p c0 c1 c2 d fu ∧ aext_3 3 f0 f1 f2 t0 t1 t2 p c0 c1 c2 d fu = rext_3 3 f0 f1 f2 t0 t1 t2 p c0 c1 c2 d fu ∧ aext_4 3 f0 f1 f2 t0 t1 t2 p c0 c1 c2 d fu = rext_4 3 f0 f1 f2 t0 t1 t2 p c0 c1 c2 d fu ∧ aext_5 3 f0 f1 f2 t0 t1 t2 p c0 c1 c2 d fu = rext_5 3 f0 f1 f2 t0 t1 t2 p c0 c1 c2 d fu := by
  have q0 : aext_s0 f0 f1 f2 t0 t1 t2 p c0 c1 c2 = rext_s2 f0 f1 f2 t0 t1 t2 p c0 c1 c2 := by unfold rext_s2; show IntKind.i64.wrap (wSqrt_0 (mxs f0 f1 f2 t0 t1 t2 p c0 c1 c2) 1 * 1) = IntKind.i64.wrap (rRoot_0 (mxs f0 f1 f2 t0 t1 t2 p c0 c1 c2) 1 1 * 1); rw [hr]
  have q1 : aext_s1 f0 f1 f2 t0 t1 t2 p c0 c1 c2 = rext_s3 f0 f1 f2 t0 t1 t2 p c0 c1 c2 := by show IntKind.i64.wrap (wSqrt_0 (mxs f0 f1 f2 t0 t1 t2 p c0 c1 c2) 1 * 0) = IntKind.i64.wrap (rRoot_0 (mxs f0 f1 f2 t0 t1 t2 p c0 c1 c2) 1 1 * 0); rw [hr]
  have q5 : aext_s5 f0 f1 f2 t0 t1 t2 p c0 c1 c2 = rext_s7 f0 f1 f2 t0 t1 t2 p c0 c1 c2 := by show IntKind.i64.wrap (wSqrt_0 (mxs f0 f1 f2 t0 t1 t2 p c0 c1 c2) 1 * -1) = IntKind.i64.wrap (rRoot_0 (mxs f0 f1 f2 t0 t1 t2 p c0 c1 c2) 1 1 * -1); rw [hr]
  have q2 : aext_s2 f0 f1 f2 t0 t1 t2 p c0 c1 c2 = rext_s4 f0 f1 f2 t0 t1 t2 p c0 c1 c2 := by unfold aext_s2 rext_s4; rw [q1]
  have x0 : aext_s3 f0 f1 f2 t0 t1 t2 p c0 c1 c2 d fu = rext_s5 f0 f1 f2 t0 t1 t2 p c0 c1 c2 d fu := by unfold aext_s3 rext_s5; rw [cn, i1, q0, q2, hh]
  have y0 : aext_s4 f0 f1 f2 t0 t1 t2 p c0 c1 c2 d fu = rext_s6 f0 f1 f2 t0 t1 t2 p c0 c1 c2 d fu := by unfold aext_s4 rext_s6; rw [cn, i2, q0, q1, hh, x0]
  have z0 : aext_s6 f0 f1 f2 t0 t1 t2 p c0 c1 c2 d fu = rext_s8 f0 f1 f2 t0 t1 t2 p c0 c1 c2 d fu := by unfold aext_s6 rext_s8; rw [cn, i3, q5, q2, hh, y0]
  have x1 : aext_s7 f0 f1 f2 t0 t1 t2 p c0 c1 c2 d fu = rext_s9 f0 f1 f2 t0 t1 t2 p c0 c1 c2 d fu := by unfold aext_s7 rext_s9; rw [cn, i1, q0, q2, hh]
  have y1 : aext_s8 f0 f1 f2 t0 t1 t2 p c0 c1 c2 d fu = rext_s10 f0 f1 f2 t0 t1 t2 p c0 c1 c2 d fu := by unfold aext_s8 rext_s10; rw [cn, i2, q0, q1, hh, x1]
  have z1 : aext_s9 f0 f1 f2 t0 t1 t2 p c0 c1 c2 d fu = rext_s11 f0 f1 f2 t0 t1 t2 p c0 c1 c2 d fu := by unfold aext_s9 rext_s11; rw [cn, i3, q5, q2, hh, y1]
  have x2 : aext_s10 f0 f1 f2 t0 t1 t2 p c0 c1 c2 d fu = rext_s12 f0 f1 f2 t0 t1 t2 p c0 c1 c2 d fu := by unfold aext_s10 rext_s12; rw [cn, i1, q0, q2, hh]
  have y2 : aext_s11 f0 f1 f2 t0 t1 t2 p c0 c1 c2 d fu = rext_s13 f0 f1 f2 t0 t1 t2 p c0 c1 c2 d fu := by unfold aext_s11 rext_s13; rw [cn, i2, q0, q1, hh, x2]
  have z2 : aext_s12 f0 f1 f2 t0 t1 t2 p c0 c1 c2 d fu = rext_s14 f0 f1 f2 t0 t1 t2 p c0 c1 c2 d fu := by unfold aext_s12 rext_s14; rw [cn, i3, q5, q2, hh, y2]
  have x3 : aext_s13 f0 f1 f2 t0 t1 t2 p c0 c1 c2 d fu = rext_s15 f0 f1 f2 t0 t1 t2 p c0 c1 c2 d fu := by unfold aext_s13 rext_s15; rw [cn, i1, q0, q2, hh]
  have y3 : aext_s14 f0 f1 f2 t0 t1 t2 p c0 c1 c2 d fu = rext_s16 f0 f1 f2 t0 t1 t2 p c0 c1 c2 d fu := by unfold aext_s14 rext_s16; rw [cn, i2, q0, q1, hh, x3]
  have z3 : aext_s15 f0 f1 f2 t0 t1 t2 p c0 c1 c2 d fu = rext_s17 f0 f1 f2 t0 t1 t2 p c0 c1 c2 d fu := by unfold aext_s15 rext_s17; rw [cn, i3, q5, q2, hh, y3]
  have x4 : aext_s16 f0 f1 f2 t0 t1 t2 p c0 c1 c2 d fu = rext_s18 f0 f1 f2 t0 t1 t2 p c0 c1 c2 d fu := by unfold aext_s16 rext_s18; rw [cn, i1, q0, q2, hh]
  have y4 : aext_s17 f0 f1 f2 t0 t1 t2 p c0 c1 c2 d fu = rext_s19 f0 f1 f2 t0 t1 t2 p c0 c1 c2 d fu := by unfold aext_s17 rext_s19; rw [cn, i2, q0, q1, hh, x4]
  have z4 : aext_s18 f0 f1 f2 t0 t1 t2 p c0 c1 c2 d fu = rext_s20 f0 f1 f2 t0 t1 t2 p c0 c1 c2 d fu := by unfold aext_s18 rext_s20; rw [cn, i3, q5, q2, hh, y4]
  have x5 : aext_s19 f0 f1 f2 t0 t1 t2 p c0 c1 c2 d fu = rext_s21 f0 f1 f2 t0 t1 t2 p c0 c1 c2 d fu := by unfold aext_s19 rext_s21; rw [cn, i1, q0, q2, hh]
  have y5 : aext_s20 f0 f1 f2 t0 t1 t2 p c0 c1 c2 d fu = rext_s22 f0 f1 f2 t0 t1 t2 p c0 c1 c2 d fu := by unfold aext_s20 rext_s22; rw [cn, i2, q0, q1, hh, x5]
  have z5 : aext_s21 f0 f1 f2 t0 t1 t2 p c0 c1 c2 d fu = rext_s23 f0 f1 f2 t0 t1 t2 p c0 c1 c2 d fu := by unfold aext_s21 rext_s23; rw [cn, i3, q5, q2, hh, y5]
  refine ⟨?_, ?_, ?_, ?_, ?_, ?_⟩
  · unfold aext_0 rext_0; rw [cn, i4, q5, q1, hh, z0]
  · unfold aext_1 rext_1; rw [cn, i4, q5, q1, hh, z1]
  · unfold aext_2 rext_2; rw [cn, i4, q5, q1, hh, z2]
  · unfold aext_3 rext_3; rw [cn, i4, q5, q1, hh, z3]
  · unfold aext_4 rext_4; rw [cn, i4, q5, q1, hh, z4]
  · unfold aext_5 rext_5; rw [cn, i4, q5, q1, hh, z5]
theorem ext_other {k f0 f1 f2 t0 t1 t2 p c0 c1 c2 d : Int} {fu : Bool} (hk : k ≠ 3) : aext_0 k f0 f1 f2 t0 t1 t2 p c0 c1 c2 d fu = rext_0 k f0 f1 f2 t0 t1 t2 p c0 c1 c2 d fu ∧ aext_1 k f0 f1 f2 t0 t1 t2 p c0 c1 c2 d fu = rext_1 k f0 f1 f2 t0 t1 t2 p c0 c1 c2 d fu ∧ aext_2 k f0 f1 f2 t0 t1 t2 p c0 c1 c2 d fu = rext_2 k f0 f1 f2 t0 t1 t2 p c0 c1 c2 d fu ∧ aext_3 k f0 f1 f2 t0 t1 t2 p c0 c1 c2 d fu = rext_3 k f0 f1 f2 t0 t1 t2 p c0 c1 c2 d fu ∧ aext_4 k f0 f1 f2 t0 t1 t2 p c0 c1 c2 d fu = rext_4 k f0 f1 f2 t0 t1 t2 p c0 c1 c2 d fu ∧ aext_5 k f0 f1 f2 t0 t1 t2 p c0 c1 c2 d fu = rext_5 k f0 f1 f2 t0 t1 t2 p c0 c1 c2 d fu := by
  have e : (k != 3) = true := by simpa using hk
  unfold aext_0 aext_1 aext_2 aext_3 aext_4 aext_5 rext_0 rext_1 rext_2 rext_3 rext_4 rext_5
  rw [e]
  exact ⟨rfl, rfl, rfl, rfl, rfl, rfl⟩
theorem tang_other {k f0 f1 f2 t0 t1 t2 p c0 c1 c2 d : Int} (e : Bool) (hk : k ≠ 3) : atang_0 k f0 f1 f2 t0 t1 t2 p c0 c1 c2 d e = rtang_0 k f0 f1 f2 t0 t1 t2 p c0 c1 c2 d e ∧ atang_1 k f0 f1 f2 t0 t1 t2 p c0 c1 c2 d e = rtang_1 k f0 f1 f2 t0 t1 t2 p c0 c1 c2 d e := by
  have e : (k != 3) = true := by simpa using hk
  unfold atang_0 atang_1 rtang_0 rtang_1
  rw [e]
  exact ⟨rfl, rfl⟩
theorem rext_mx {f0 f1 f2 t0 t1 t2 p c0 c1 c2 A0 A1 B0 B1 C0 C1 h k d : Int} {fu : Bool} (I : ArcI f0 f1 f2 t0 t1 t2 p c0 c1 c2 A0 A1 B0 B1 C0 C1 h k) (G : ArcG p A0 A1 B0 B1 C0 C1 h k d fu) :
    mxs f0 f1 f2 t0 t1 t2 p c0 c1 c2 = (if A0 * A0 + A1 * A1 < B0 * B0 + B1 * B1 then B0 * B0 + B1 * B1 else A0 * A0 + A1 * A1) ∧ 0 ≤ mxs f0 f1 f2 t0 t1 t2 p c0 c1 c2 ∧ mxs f0 f1 f2 t0 t1 t2 p c0 c1 c2 ≤ 900000000 := by
  obtain ⟨s0, s1, s2, s3⟩ := arcI_spokes I G
  have ea : ∀ x0 x1 x2 : Int, rext_s0 x0 x1 x2 p c0 c1 c2 = vinner_0 (aspokes_0 x0 x1 x2 p c0 c1 c2) (aspokes_1 x0 x1 x2 p c0 c1 c2) (aspokes_0 x0 x1 x2 p c0 c1 c2) (aspokes_1 x0 x1 x2 p c0 c1 c2) := fun _ _ _ => rfl
  have g0 := G.a0
  have g1 := G.a1
  have g2 := G.b0
  have g3 := G.b1
  have m0 := mul_bd g0 g0 (by omega) (by omega)
  have m1 := mul_bd g1 g1 (by omega) (by omega)
  have m2 := mul_bd g2 g2 (by omega) (by omega)
  have m3 := mul_bd g3 g3 (by omega) (by omega)
  have n1 := sq_nn A0 A1
  have n2 := sq_nn B0 B1
  have e : mxs f0 f1 f2 t0 t1 t2 p c0 c1 c2 = (if A0 * A0 + A1 * A1 < B0 * B0 + B1 * B1 then B0 * B0 + B1 * B1 else A0 * A0 + A1 * A1) := by
    unfold mxs
    rw [ea, ea, s0, s1, s2, s3, vinner_eq (by omega) (by omega) (by omega) (by omega), vinner_eq (by omega) (by omega) (by omega) (by omega)]
  rw [e]
  refine ⟨rfl, ?_, ?_⟩ <;> split <;> omega
/-- The extents and the tangents of an arc. -/
theorem arc_ext {f0 f1 f2 t0 t1 t2 p c0 c1 c2 A0 A1 B0 B1 C0 C1 h k d : Int} {fu : Bool} (I : ArcI f0 f1 f2 t0 t1 t2 p c0 c1 c2 A0 A1 B0 B1 C0 C1 h k) (G : ArcG p A0 A1 B0 B1 C0 C1 h k d fu) :
    aext_0 3 f0 f1 f2 t0 t1 t2 p c0 c1 c2 d fu = rext_0 3 f0 f1 f2 t0 t1 t2 p c0 c1 c2 d fu ∧ aext_1 3 f0 f1 f2 t0 t1 t2 p c0 c1 c2 d fu = rext_1 3 f0 f1 f2 t0 t1 t2 p c0 c1 c2 d fu ∧ aext_2 3 f0 f1 f2 t0 t1 t2 p c0 c1 c2 d fu = rext_2 3 f0 f1 f2 t0 t1 t2 p c0 c1 c2 d fu ∧ aext_3 3 f0 f1 f2 t0 t1 t2 p c0 c1 c2 d fu = rext_3 3 f0 f1 f2 t0 t1 t2 p c0 c1 c2 d fu ∧ aext_4 3 f0 f1 f2 t0 t1 t2 p c0 c1 c2 d fu = rext_4 3 f0 f1 f2 t0 t1 t2 p c0 c1 c2 d fu ∧ aext_5 3 f0 f1 f2 t0 t1 t2 p c0 c1 c2 d fu = rext_5 3 f0 f1 f2 t0 t1 t2 p c0 c1 c2 d fu := by
  obtain ⟨m, m0, m1⟩ := rext_mx I G
  exact ext_same (inside_same I G (by decide) (by decide) (by decide)) (inside_same I G (by decide) (by decide) (by decide)) (inside_same I G (by decide) (by decide) (by decide)) (inside_same I G (by decide) (by decide) (by decide))
    (sqrt_same (m := 1) m0 ⟨by omega, by omega⟩ (.inr (.inl rfl))).1 (by rw [I.c.2.2, I.f.2.2])
theorem arc_tang {f0 f1 f2 t0 t1 t2 p c0 c1 c2 A0 A1 B0 B1 C0 C1 h k d : Int} {fu : Bool} (I : ArcI f0 f1 f2 t0 t1 t2 p c0 c1 c2 A0 A1 B0 B1 C0 C1 h k) (G : ArcG p A0 A1 B0 B1 C0 C1 h k d fu) (e : Bool) :
    atang_0 3 f0 f1 f2 t0 t1 t2 p c0 c1 c2 d e = rtang_0 3 f0 f1 f2 t0 t1 t2 p c0 c1 c2 d e ∧ atang_1 3 f0 f1 f2 t0 t1 t2 p c0 c1 c2 d e = rtang_1 3 f0 f1 f2 t0 t1 t2 p c0 c1 c2 d e := by
  obtain ⟨s0, s1, s2, s3⟩ := arcI_spokes I G
  obtain ⟨t0', t1'⟩ := tang_form I G e
  have ea : ∀ x0 x1 x2 y0 y1 y2 : Int, minus_0 (flat_0 p x0 x1 x2) (flat_0 p y0 y1 y2) = aspokes_0 x0 x1 x2 p y0 y1 y2 := fun _ _ _ _ _ _ => rfl
  have eb : ∀ x0 x1 x2 y0 y1 y2 : Int, minus_0 (flat_1 p x0 x1 x2) (flat_1 p y0 y1 y2) = aspokes_1 x0 x1 x2 p y0 y1 y2 := fun _ _ _ _ _ _ => rfl
  have e2 : ((3 : Int) != 3) = false := rfl
  rw [t0', t1']
  unfold rtang_0 rtang_1
  rw [e2, cond_false, cond_false, ea _ _ _ c0, ea _ _ _ c0, eb _ _ _ c0, eb _ _ _ c0, s0, s1, s2, s3]
  have hx : bd 20002 (bif e then B1 else A1) ∧ bd 20002 (bif e then B0 else A0) := by
    have := G.a0; have := G.a1; have := G.b0; have := G.b1
    cases e <;> constructor <;> assumption
  generalize (bif e then B1 else A1) = y at *
  generalize (bif e then B0 else A0) = x at *
  rcases G.d with rfl | rfl
  · rw [wrI (x := 0 - y) (by omega) (by omega), wrI (x := (0 - y) * 1) (by omega) (by omega), wrI (x := x * 1) (by omega) (by omega)]
    omega
  · rw [wrI (x := 0 - y) (by omega) (by omega), wrI (x := (0 - y) * -1) (by omega) (by omega), wrI (x := x * -1) (by omega) (by omega)]
    omega
end Go.Proofs.Ytkggdhnliiagjaa
