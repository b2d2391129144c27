/-
  CLEARANCEWALLS: the walk; its conditions hold, and it answers true. Conditions: none.
-/
import Derived.Test.YthgiaoidekdpfaaGreatPK
import Derived.Test.YthgiaoidekdpfaaGreatWR
set_option linter.all false
namespace Go.Proofs.YthgiaoidekdpfaaGreat
open Go.SX Go.RowKit
noncomputable def lawW_tpl : Tpl := ⟨[.agg [.int .i64, .int .i64], .one (.int .i64), .one (.int .i64), .one (.int .i64)], [], 0⟩
noncomputable def lawW_s0 (R : Int) : Int := IntKind.i64.wrap (IntKind.i64.wrap (R * 0) + IntKind.i64.wrap (0 * R))
noncomputable def lawW_0 (R : Int) : Bool := !(IntKind.i64.wrap (IntKind.i64.wrap (R * R) - 0) == 0 && decide (lawW_s0 R > 0))
noncomputable def wL (R : Int) : Int := IntKind.i64.wrap (IntKind.i64.wrap (2 * R) + 2)
/-- Is a piece of the path too near to a wall? -/
noncomputable def nearW (P0 P1 P2 P3 E0 E1 E2 E3 D : Int) : Bool := !capart_0 P0 P1 P2 P3 E0 E1 E2 E3 0 0 0 false D || !capart_0 E0 E1 E2 E3 P0 P1 P2 P3 0 0 0 false D || ccross_0 P0 P1 P2 P3 0 E0 E1 E2 E3 0
noncomputable def movW (x y u v : Int) : Bool := !(flat_0 17 x y 0 == flat_0 17 u v 0 && flat_1 17 x y 0 == flat_1 17 u v 0)
noncomputable def endsW (X Y N M R XN YM Y2 X2 D a0 a1 b0 b1 c0 c1 d0 d1 XR YR XNR YMR R2 R16 : Int) : List Prop :=
  [nearW X Y XN Y X Y XN Y D = true] ++ (u1_needs X Y2 X Y R ++ (u2_needs X Y XN Y R R X Y ++ (u3_needs XN Y XN YM R R X Y XN Y a0 a1 XN Y ++ (u4_needs XN YM X YM R R XN Y XN YM b0 b1 XN YM ++ (u4_needs X YM X Y R R XN YM X YM c0 c1 X YM ++
    (u6_needs X Y X2 Y R X YM X Y d0 d1 X Y ++ [nearW XR YR XNR YR X Y XN Y D = false, nearW XR YR XNR YR XN Y XN YM D = false, nearW XR YR XNR YR XN YM X YM D = false, nearW XR YR XNR YR X YM X Y D = false,
      nearW XNR YR XNR YMR X Y XN Y D = false, nearW XNR YR XNR YMR XN Y XN YM D = false, nearW XNR YR XNR YMR XN YM X YM D = false, nearW XNR YR XNR YMR X YM X Y D = false,
      movW X Y XN Y = true, movW XN Y XN YM = true, movW XN YM X YM = true, movW X YM X Y = true,
      decide (IntKind.i64.wrap (R2 + 0) > IntKind.i64.wrap (0 + R2)) = false, decide (IntKind.i64.wrap (R2 + 0) < 64) = false, decide (R16 > 0) = true → False, (decide (R16 > 0) && false) = false]))))))
noncomputable def plW (x y : Int) : Int := IntKind.i64.wrap (x + y)
noncomputable def miW (x y : Int) : Int := IntKind.i64.wrap (x - y)
noncomputable def allW (X Y N M R : Int) : List Prop :=
  endsW X Y N M R (plW X N) (plW Y M) (miW Y (IntKind.i64.wrap (2 * R))) (miW X (IntKind.i64.wrap (2 * R))) (IntKind.i64.wrap ((if 3 > R then 3 else R) - 3))
    (u2_0 X Y (plW X N) Y R) (u2_1 X Y (plW X N) Y R) (u3_0 (plW X N) Y (plW X N) (plW Y M) R X Y (plW X N) Y) (u3_1 (plW X N) Y (plW X N) (plW Y M) R X Y (plW X N) Y)
    (u4_0 (plW X N) (plW Y M) X (plW Y M) R (plW X N) Y (plW X N) (plW Y M)) (u4_1 (plW X N) (plW Y M) X (plW Y M) R (plW X N) Y (plW X N) (plW Y M))
    (u4_0 X (plW Y M) X Y R (plW X N) (plW Y M) X (plW Y M)) (u4_1 X (plW Y M) X Y R (plW X N) (plW Y M) X (plW Y M))
    (plW X R) (plW Y R) (miW (plW X N) R) (miW (plW Y M) R) (IntKind.i64.wrap (R * R)) (IntKind.i64.wrap (IntKind.i64.wrap (IntKind.i64.wrap (0 + IntKind.i64.wrap (R * R)) - IntKind.i64.wrap (IntKind.i64.wrap (R * R) + 0)) - 16))
noncomputable def lawW_needs (p0 p1 n m r : Int) : List Prop :=
  [Int.ofNat 18001 ≠ 0, Int.ofNat 18001 ≠ 0, Int.ofNat 893 ≠ 0, IntKind.i64.wrap (IntKind.i64.wrap (9000 - wL (between_0 r 8 900)) + 1) ≠ 0, IntKind.i64.wrap (IntKind.i64.wrap (9000 - wL (between_0 r 8 900)) + 1) ≠ 0] ++
    allW (between_0 p0 (-9000) 9000) (between_0 p1 (-9000) 9000) (between_0 n (wL (between_0 r 8 900)) 9000) (between_0 m (wL (between_0 r 8 900)) 9000) (between_0 r 8 900)
set_option maxRecDepth 1000000 in
theorem lawW_runs (p0 p1 n m r : Int) (hNeeds : ∀ pN ∈ (lawW_needs p0 p1 n m r), pN) : Runs (runF (sums K_pu) L_law 3) (lawW_tpl.args [.i p0, .i p1, .i n, .i m, .i r]) (lawW_tpl.memo [.i p0, .i p1, .i n, .i m, .i r] []) lawW_tpl.n (SV.one (SC.bool (SB.v (lawW_0 (between_0 r 8 900)))))
    ([]) :=
  Runs.of1 (ps := (lawW_needs p0 p1 n m r)) (by kernel_rfl) hNeeds
/-- A piece inside stays away from a wall. -/
theorem near_not {P0 P1 P2 P3 E0 E1 E2 E3 D a b n c d k : Int} (hab : unit2 a b) (hn : 1 ≤ n ∧ n ≤ 20000) (hcd : unit2 c d) (hk : 1 ≤ k ∧ k ≤ 20000) (bP0 : bd 40000 P0) (bP1 : bd 40000 P1) (bE0 : bd 40000 E0) (bE1 : bd 40000 E1) (bP2 : bd 60000 P2) (bP3 : bd 60000 P3) (bE2 : bd 60000 E2) (bE3 : bd 60000 E3)
    (hE2 : E2 = E0 + n * a) (hE3 : E3 = E1 + n * b) (hP2 : P2 = P0 + k * c) (hP3 : P3 = P1 + k * d) (hD : 1 ≤ D ∧ D ≤ 2000)
    (k0 : D ≤ a * (P1 - E1) - b * (P0 - E0)) (k1 : D ≤ a * (P3 - E1) - b * (P2 - E0))
    (j0 : D ≤ c * (E1 - P1) - d * (E0 - P0) ∨ c * (E1 - P1) - d * (E0 - P0) ≤ -D) (j1 : D ≤ c * (E3 - P1) - d * (E2 - P0) ∨ c * (E3 - P1) - d * (E2 - P0) ≤ -D) : nearW P0 P1 P2 P3 E0 E1 E2 E3 D = false := by
  have f1 := far_line (y := P0) (z := P1) (d := D) 0 0 false hab hn (show bd 60000 E0 by omega) (show bd 60000 E1 by omega) hE2 hE3 (by omega) (by omega) (by omega) (.inl k0)
  have f2 := far_line (y := P2) (z := P3) (d := D) 0 0 false hab hn (show bd 60000 E0 by omega) (show bd 60000 E1 by omega) hE2 hE3 (by omega) (by omega) (by omega) (.inl k1)
  have f3 := far_line (y := E0) (z := E1) (d := D) 0 0 false hcd hk (show bd 60000 P0 by omega) (show bd 60000 P1 by omega) hP2 hP3 (by omega) (by omega) (by omega) j0
  have f4 := far_line (y := E2) (z := E3) (d := D) 0 0 false hcd hk (show bd 60000 P0 by omega) (show bd 60000 P1 by omega) hP2 hP3 (by omega) (by omega) (by omega) j1
  have f5 := no_cross (p0 := P0) (p1 := P1) (p2 := P2) (p3 := P3) hab hn (show bd 60000 E0 by omega) (show bd 60000 E1 by omega) hE2 hE3 (by omega) (by omega) bP2 bP3 (by omega) (by omega)
  unfold nearW capart_0
  rw [f1, f2, f3, f4, f5]; rfl
theorem mov_ne {x y u v a b n : Int} (hab : unit2 a b) (hn : 1 ≤ n) (hu : u = x + n * a) (hv : v = y + n * b) : movW x y u v = true := by
  unfold movW
  rw [fl0, fl0, fl1, fl1, unit_ne hab hn hu hv]; rfl
theorem ux : unit2 1 0 := .inl ⟨rfl, rfl⟩
theorem uy : unit2 0 1 := .inr (.inl ⟨rfl, rfl⟩)
theorem ux' : unit2 (-1) 0 := .inr (.inr (.inl ⟨rfl, rfl⟩))
theorem uy' : unit2 0 (-1) := .inr (.inr (.inr ⟨rfl, rfl⟩))
section
variable {X Y N M R : Int} (hX : bd 9000 X) (hY : bd 9000 Y) (hR : 8 ≤ R ∧ R ≤ 900) (hN : 2 * R + 2 ≤ N ∧ N ≤ 9000) (hM : 2 * R + 2 ≤ M ∧ M ≤ 9000)
include hX hY hR hN hM
theorem nw1 : nearW (X + R) (Y + R) (X + N - R) (Y + R) X Y (X + N) Y (R - 3) = false :=
  near_not (n := N) (k := N - 2 * R) ux (by omega) ux (by omega) (by omega) (by omega) (by omega) (by omega) (by omega) (by omega) (by omega) (by omega) (by omega) (by omega) (by omega) (by omega) (by omega) (by omega) (by omega) (by omega) (by omega) 
theorem nw2 : nearW (X + R) (Y + R) (X + N - R) (Y + R) (X + N) Y (X + N) (Y + M) (R - 3) = false :=
  near_not (n := M) (k := N - 2 * R) uy (by omega) ux (by omega) (by omega) (by omega) (by omega) (by omega) (by omega) (by omega) (by omega) (by omega) (by omega) (by omega) (by omega) (by omega) (by omega) (by omega) (by omega) (by omega) (by omega) 
theorem nw3 : nearW (X + R) (Y + R) (X + N - R) (Y + R) (X + N) (Y + M) X (Y + M) (R - 3) = false :=
  near_not (n := N) (k := N - 2 * R) ux' (by omega) ux (by omega) (by omega) (by omega) (by omega) (by omega) (by omega) (by omega) (by omega) (by omega) (by omega) (by omega) (by omega) (by omega) (by omega) (by omega) (by omega) (by omega) (by omega) 
theorem nw4 : nearW (X + R) (Y + R) (X + N - R) (Y + R) X (Y + M) X Y (R - 3) = false :=
  near_not (n := M) (k := N - 2 * R) uy' (by omega) ux (by omega) (by omega) (by omega) (by omega) (by omega) (by omega) (by omega) (by omega) (by omega) (by omega) (by omega) (by omega) (by omega) (by omega) (by omega) (by omega) (by omega) (by omega) 
theorem nw5 : nearW (X + N - R) (Y + R) (X + N - R) (Y + M - R) X Y (X + N) Y (R - 3) = false :=
  near_not (n := N) (k := M - 2 * R) ux (by omega) uy (by omega) (by omega) (by omega) (by omega) (by omega) (by omega) (by omega) (by omega) (by omega) (by omega) (by omega) (by omega) (by omega) (by omega) (by omega) (by omega) (by omega) (by omega) 
theorem nw6 : nearW (X + N - R) (Y + R) (X + N - R) (Y + M - R) (X + N) Y (X + N) (Y + M) (R - 3) = false :=
  near_not (n := M) (k := M - 2 * R) uy (by omega) uy (by omega) (by omega) (by omega) (by omega) (by omega) (by omega) (by omega) (by omega) (by omega) (by omega) (by omega) (by omega) (by omega) (by omega) (by omega) (by omega) (by omega) (by omega) 
theorem nw7 : nearW (X + N - R) (Y + R) (X + N - R) (Y + M - R) (X + N) (Y + M) X (Y + M) (R - 3) = false :=
  near_not (n := N) (k := M - 2 * R) ux' (by omega) uy (by omega) (by omega) (by omega) (by omega) (by omega) (by omega) (by omega) (by omega) (by omega) (by omega) (by omega) (by omega) (by omega) (by omega) (by omega) (by omega) (by omega) (by omega) 
theorem nw8 : nearW (X + N - R) (Y + R) (X + N - R) (Y + M - R) X (Y + M) X Y (R - 3) = false :=
  near_not (n := M) (k := M - 2 * R) uy' (by omega) uy (by omega) (by omega) (by omega) (by omega) (by omega) (by omega) (by omega) (by omega) (by omega) (by omega) (by omega) (by omega) (by omega) (by omega) (by omega) (by omega) (by omega) (by omega) 
theorem nw0 : nearW X Y (X + N) Y X Y (X + N) Y (R - 3) = true := by
  have h := near_end (a0 := X) (a1 := Y) (a2 := X + N) (a3 := Y) (d := R - 3) 0 0 false (by omega) (by omega) (by omega) (by omega) (by omega)
  unfold nearW capart_0
  rw [h]; rfl
theorem pw1 : ∀ q ∈ u1_needs X (Y - 2 * R) X Y R, q := u1_nd (by omega) (by omega) hR rfl (by omega)
theorem pw2 : ∀ q ∈ u2_needs X Y (X + N) Y R R X Y, q := u2_nd (n := N) ux (by omega) (by omega) (by omega) hR rfl rfl rfl (by omega) (by omega)
theorem pw3 : ∀ q ∈ u3_needs (X + N) Y (X + N) (Y + M) R R X Y (X + N) Y X (Y + R) (X + N) Y, q := u3_nd (t := 0) (n := N) (m := M) ux hR (by omega) (by omega) (by omega) (by omega) (by omega) (by omega) (by omega) (by omega) (by omega) (by omega) (by omega)
theorem pw4 : ∀ q ∈ u4_needs (X + N) (Y + M) X (Y + M) R R (X + N) Y (X + N) (Y + M) (X + N - R) (Y + R) (X + N) (Y + M), q := u4_nd (t := R) (n := M) (m := N) uy hR (by omega) (by omega) (by omega) (by omega) (by omega) (by omega) (by omega) (by omega) (by omega) (by omega) (by omega)
theorem pw5 : ∀ q ∈ u4_needs X (Y + M) X Y R R (X + N) (Y + M) X (Y + M) (X + N - R) (Y + M - R) X (Y + M), q := u4_nd (t := R) (n := N) (m := M) ux' hR (by omega) (by omega) (by omega) (by omega) (by omega) (by omega) (by omega) (by omega) (by omega) (by omega) (by omega)
theorem pw6 : ∀ q ∈ u6_needs X Y (X - 2 * R) Y R X (Y + M) X Y (X + R) (Y + M - R) X Y, q := u6_nd (t := R) (n := M) uy' (by omega) (by omega) (by omega) hR (by omega) (by omega) (by omega) (by omega) (by omega) rfl rfl rfl rfl rfl rfl
theorem mw : movW X Y (X + N) Y = true ∧ movW (X + N) Y (X + N) (Y + M) = true ∧ movW (X + N) (Y + M) X (Y + M) = true ∧ movW X (Y + M) X Y = true :=
  ⟨mov_ne (n := N) ux (by omega) (by omega) (by omega), mov_ne (n := M) uy (by omega) (by omega) (by omega), mov_ne (n := N) ux' (by omega) (by omega) (by omega), mov_ne (n := M) uy' (by omega) (by omega) (by omega)⟩
end
/-- In whole numbers. -/
theorem ends_hold {X Y N M R : Int} (hX : bd 9000 X) (hY : bd 9000 Y) (hR : 8 ≤ R ∧ R ≤ 900) (hN : 2 * R + 2 ≤ N ∧ N ≤ 9000) (hM : 2 * R + 2 ≤ M ∧ M ≤ 9000) {R2 : Int} (r2 : 64 ≤ R2) (r3 : R2 ≤ 810000) :
    ∀ q ∈ endsW X Y N M R (X + N) (Y + M) (Y - 2 * R) (X - 2 * R) (R - 3) X (Y + R) (X + N - R) (Y + R) (X + N - R) (Y + M - R) (X + R) (Y + M - R) (X + R) (Y + R) (X + N - R) (Y + M - R) R2 (-16), q := by
  obtain ⟨m1, m2, m3, m4⟩ := mw hX hY hR hN hM
  unfold endsW
  simp only [List.forall_mem_append, List.forall_mem_cons, List.not_mem_nil, false_implies, implies_true, and_true]
  refine ⟨nw0 hX hY hR hN hM, pw1 hX hY hR hN hM, pw2 hX hY hR hN hM, pw3 hX hY hR hN hM, pw4 hX hY hR hN hM, pw5 hX hY hR hN hM, pw6 hX hY hR hN hM, nw1 hX hY hR hN hM, nw2 hX hY hR hN hM, nw3 hX hY hR hN hM, nw4 hX hY hR hN hM, nw5 hX hY hR hN hM, nw6 hX hY hR hN hM, nw7 hX hY hR hN hM, nw8 hX hY hR hN hM, m1, m2, m3, m4, ?_, ?_, ?_, ?_⟩
  · rw [wrI (x := R2 + 0) (by omega) (by omega), wrI (x := 0 + R2) (by omega) (by omega)]; exact decide_eq_false (by omega)
  · rw [wrI (x := R2 + 0) (by omega) (by omega)]; exact decide_eq_false (by omega)
  · decide
  · exact Bool.and_false _
section
variable {X Y N M R : Int} (hX : bd 9000 X) (hY : bd 9000 Y) (hR : 8 ≤ R ∧ R ≤ 900) (hN : 2 * R + 2 ≤ N ∧ N ≤ 9000) (hM : 2 * R + 2 ≤ M ∧ M ≤ 9000)
include hX hY hR hN hM
theorem at2 : u2_0 X Y (X + N) Y R = X ∧ u2_1 X Y (X + N) Y R = Y + R := by
  obtain ⟨_, y0, y1, _, _⟩ := unit_ends (e0 := X) (e1 := Y) (e2 := X + N) (e3 := Y) (n := N) (R := R) ux (by omega) (by omega) (by omega) (by omega) (by omega) (by omega)
  unfold u2_0 u2_1
  rw [fl0, fl0, fl1, fl1, one_mul_wr hR, y0, y1]; omega
theorem at3 : u3_0 (X + N) Y (X + N) (Y + M) R X Y (X + N) Y = X + N - R ∧ u3_1 (X + N) Y (X + N) (Y + M) R X Y (X + N) Y = Y + R := by
  obtain ⟨_, _, _, _, s4, s5⟩ := u3_vals (ix := X) (iy := Y) (iu := X + N) (iv := Y) (u := X + N) (v := Y + M) (t := 0) (n := N) (m := M) (r := R) ux hR (by omega) (by omega) (by omega) (by omega) (by omega) (by omega) (by omega) (by omega) (by omega)
  exact ⟨(show _ = X + N - R * 1 - R * 0 from s4).trans (by omega), (show _ = Y - R * 0 + R * 1 from s5).trans (by omega)⟩
theorem at4 : u4_0 (X + N) (Y + M) X (Y + M) R (X + N) Y (X + N) (Y + M) = X + N - R ∧ u4_1 (X + N) (Y + M) X (Y + M) R (X + N) Y (X + N) (Y + M) = Y + M - R := by
  obtain ⟨_, _, _, _, s4, s5⟩ := u4_vals (ix := X + N) (iy := Y) (iu := X + N) (iv := Y + M) (u := X) (v := Y + M) (t := R) (n := M) (m := N) (r := R) uy hR (by omega) (by omega) (by omega) (by omega) (by omega) (by omega) (by omega) (by omega) (by omega)
  exact ⟨(show _ = X + N - R * 0 - R * 1 from s4).trans (by omega), (show _ = Y + M - R * 1 + R * 0 from s5).trans (by omega)⟩
theorem at5 : u4_0 X (Y + M) X Y R (X + N) (Y + M) X (Y + M) = X + R ∧ u4_1 X (Y + M) X Y R (X + N) (Y + M) X (Y + M) = Y + M - R := by
  obtain ⟨_, _, _, _, s4, s5⟩ := u4_vals (ix := X + N) (iy := Y + M) (iu := X) (iv := Y + M) (u := X) (v := Y) (t := R) (n := N) (m := M) (r := R) ux' hR (by omega) (by omega) (by omega) (by omega) (by omega) (by omega) (by omega) (by omega) (by omega)
  exact ⟨(show _ = X - R * -1 - R * 0 from s4).trans (by omega), (show _ = Y + M - R * 0 + R * -1 from s5).trans (by omega)⟩
theorem al_hold : ∀ q ∈ allW X Y N M R, q := by
  have r2 : 64 ≤ R * R := Int.mul_le_mul hR.1 hR.1 (by omega) (by omega)
  have r3 : R * R ≤ 810000 := Int.mul_le_mul hR.2 hR.2 (by omega) (by omega)
  have p1 : plW X N = X + N := wrI (by omega) (by omega)
  have p2 : plW Y M = Y + M := wrI (by omega) (by omega)
  have p3 : IntKind.i64.wrap (2 * R) = 2 * R := wrI (by omega) (by omega)
  have q1 : miW Y (2 * R) = Y - 2 * R := wrI (by omega) (by omega)
  have q2 : miW X (2 * R) = X - 2 * R := wrI (by omega) (by omega)
  have q3 : IntKind.i64.wrap ((if 3 > R then 3 else R) - 3) = R - 3 := by rw [if_neg (show ¬ (3 : Int) > R by omega)]; exact wrI (by omega) (by omega)
  have q6 : plW X R = X + R := wrI (by omega) (by omega)
  have q7 : plW Y R = Y + R := wrI (by omega) (by omega)
  have q8 : miW (X + N) R = X + N - R := wrI (by omega) (by omega)
  have q9 : miW (Y + M) R = Y + M - R := wrI (by omega) (by omega)
  have g : IntKind.i64.wrap (R * R) = R * R := wrI (by omega) (by omega)
  have g2 : IntKind.i64.wrap (IntKind.i64.wrap (IntKind.i64.wrap (0 + R * R) - IntKind.i64.wrap (R * R + 0)) - 16) = -16 := by
    rw [wrI (x := 0 + R * R) (by omega) (by omega), wrI (x := R * R + 0) (by omega) (by omega), wrI (x := 0 + R * R - (R * R + 0)) (by omega) (by omega), wrI (by omega) (by omega)]; omega
  have h := ends_hold hX hY hR hN hM r2 r3
  obtain ⟨a2, b2⟩ := at2 hX hY hR hN hM
  obtain ⟨a3, b3⟩ := at3 hX hY hR hN hM
  obtain ⟨a4, b4⟩ := at4 hX hY hR hN hM
  obtain ⟨a5, b5⟩ := at5 hX hY hR hN hM
  unfold allW
  rw [p1, p2, p3, q1, q2, q3, a2, b2, a3, b3, a4, b4, a5, b5, q6, q7, q8, q9, g, g2]
  exact h
end
theorem lawW_hold (p0 p1 n m r : Int) : ∀ q ∈ lawW_needs p0 p1 n m r, q := by
  have hR := between_rng r 8 900 (by omega) (by omega) (by omega)
  have e : wL (between_0 r 8 900) = 2 * between_0 r 8 900 + 2 := by
    unfold wL; rw [wrI (x := 2 * between_0 r 8 900) (by omega) (by omega)]; exact wrI (by omega) (by omega)
  have hN := between_rng n (wL (between_0 r 8 900)) 9000 (by omega) (by omega) (by omega)
  have hM := between_rng m (wL (between_0 r 8 900)) 9000 (by omega) (by omega) (by omega)
  have hX := between_rng p0 (-9000) 9000 (by omega) (by omega) (by omega)
  have hY := between_rng p1 (-9000) 9000 (by omega) (by omega) (by omega)
  have z : IntKind.i64.wrap (IntKind.i64.wrap (9000 - wL (between_0 r 8 900)) + 1) ≠ 0 := by
    rw [e, wrI (x := 9000 - _) (by omega) (by omega), wrI (by omega) (by omega)]; omega
  unfold lawW_needs
  simp only [List.forall_mem_append, List.forall_mem_cons, List.not_mem_nil, false_implies, implies_true, and_true]
  exact ⟨⟨by decide, by decide, by decide, z, z⟩, al_hold (by omega) (by omega) hR (by omega) (by omega)⟩
theorem lawW_0_eq (r : Int) : lawW_0 (between_0 r 8 900) = true := by
  have hR := between_rng r 8 900 (by omega) (by omega) (by omega)
  generalize between_0 r 8 900 = R at *
  have r2 : 64 ≤ R * R := Int.mul_le_mul hR.1 hR.1 (by omega) (by omega)
  have r3 : R * R ≤ 810000 := Int.mul_le_mul hR.2 hR.2 (by omega) (by omega)
  unfold lawW_0
  rw [wrI (x := R * R) (by omega) (by omega), wrI (x := R * R - 0) (by omega) (by omega), show (R * R - 0 == 0) = false by simp; omega]; rfl
end Go.Proofs.YthgiaoidekdpfaaGreat
