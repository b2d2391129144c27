/-
  CUTTER: what Push does along a rectangle. Conditions: those that the path needs.
-/
import Derived.Test.YthgiaoidekdpfaaGreatDE
import Derived.Test.YthgiaoidekdpfaaGreatV2
set_option linter.all false
namespace Go.Proofs.YthgiaoidekdpfaaGreat
open Go.SX Go.RowKit
noncomputable def u3_tpl : Tpl := ⟨[.one (.ptr 0 0), .agg [.ci .i64 2, .ci .i64 0, .int .i64, .int .i64, .ci .i64 0, .int .i64, .int .i64, .ci .i64 0, .ci .i64 17, .ci .i64 0, .ci .i64 0, .ci .i64 0, .ci .i64 0, .cb false, .ci .i64 1000, .cb false, .ci .i64 1, .int .i64, .ci .i64 0, .ci .i64 0, .ci .i64 0, .cb false]], [(0, .blk 82 [(1, .ci .i64 2), (2, .ci .i64 0), (3, .int .i64), (4, .int .i64), (5, .ci .i64 0), (6, .int .i64), (7, .int .i64), (8, .ci .i64 0), (9, .ci .i64 17), (10, .ci .i64 0), (11, .ci .i64 0), (12, .ci .i64 0), (13, .ci .i64 0), (14, .cb false), (15, .ci .i64 1000), (16, .cb false), (17, .ci .i64 1), (18, .int .i64), (19, .ci .i64 0), (20, .ci .i64 0), (21, .ci .i64 0), (22, .cb false), (23, .ci .i64 2), (24, .ci .i64 0), (25, .int .i64), (26, .int .i64), (27, .ci .i64 0), (28, .int .i64), (29, .int .i64), (30, .ci .i64 0), (31, .ci .i64 17), (32, .ci .i64 0), (33, .ci .i64 0), (34, .ci .i64 0), (35, .ci .i64 0), (36, .cb false), (37, .ci .i64 1000), (38, .cb false), (39, .ci .i64 1), (40, .int .i64), (41, .ci .i64 0), (42, .ci .i64 0), (43, .ci .i64 0), (44, .cb false), (45, .int .i64), (46, .int .i64), (47, .cb false), (48, .nilsl), (49, .cb true), (50, .cb false), (51, .cb false), (52, .cb true), (53, .int .i64), (54, .int .i64), (55, .ci .i64 0), (56, .nilsl), (57, .ci .i64 0)])], 58⟩
noncomputable def u3_0 (x : Int) (y : Int) (u : Int) (v : Int) (lr : Int) (ix : Int) (iy : Int) (iu : Int) (iv : Int) : Int :=
  straight_0 (oends_0 (flat_0 17 x y 0) (flat_1 17 x y 0) (flat_0 17 u v 0) (flat_1 17 u v 0) 0 0 0 (IntKind.i64.wrap (1 * lr)))
   (oends_1 (flat_0 17 x y 0) (flat_1 17 x y 0) (flat_0 17 u v 0) (flat_1 17 u v 0) 0 0 0 (IntKind.i64.wrap (1 * lr)))
   (oends_2 (flat_0 17 x y 0) (flat_1 17 x y 0) (flat_0 17 u v 0) (flat_1 17 u v 0) 0 0 0 (IntKind.i64.wrap (1 * lr)))
   (oends_3 (flat_0 17 x y 0) (flat_1 17 x y 0) (flat_0 17 u v 0) (flat_1 17 u v 0) 0 0 0 (IntKind.i64.wrap (1 * lr))) (flat_0 17 ix iy 0) (flat_1 17 ix iy 0) (flat_0 17 iu iv 0) (flat_1 17 iu iv 0) 0
   0 0 false (IntKind.i64.wrap (1 * lr))
noncomputable def u3_1 (x : Int) (y : Int) (u : Int) (v : Int) (lr : Int) (ix : Int) (iy : Int) (iu : Int) (iv : Int) : Int :=
  straight_1 (oends_0 (flat_0 17 x y 0) (flat_1 17 x y 0) (flat_0 17 u v 0) (flat_1 17 u v 0) 0 0 0 (IntKind.i64.wrap (1 * lr)))
   (oends_1 (flat_0 17 x y 0) (flat_1 17 x y 0) (flat_0 17 u v 0) (flat_1 17 u v 0) 0 0 0 (IntKind.i64.wrap (1 * lr)))
   (oends_2 (flat_0 17 x y 0) (flat_1 17 x y 0) (flat_0 17 u v 0) (flat_1 17 u v 0) 0 0 0 (IntKind.i64.wrap (1 * lr)))
   (oends_3 (flat_0 17 x y 0) (flat_1 17 x y 0) (flat_0 17 u v 0) (flat_1 17 u v 0) 0 0 0 (IntKind.i64.wrap (1 * lr))) (flat_0 17 ix iy 0) (flat_1 17 ix iy 0) (flat_0 17 iu iv 0) (flat_1 17 iu iv 0) 0
   0 0 false (IntKind.i64.wrap (1 * lr))
noncomputable def u3_s0 (x : Int) (y : Int) (u : Int) (v : Int) (lr : Int) : Int :=
  oends_0 (flat_0 17 x y 0) (flat_1 17 x y 0) (flat_0 17 u v 0) (flat_1 17 u v 0) 0 0 0 (IntKind.i64.wrap (1 * lr))
noncomputable def u3_s1 (x : Int) (y : Int) (u : Int) (v : Int) (lr : Int) : Int :=
  oends_1 (flat_0 17 x y 0) (flat_1 17 x y 0) (flat_0 17 u v 0) (flat_1 17 u v 0) 0 0 0 (IntKind.i64.wrap (1 * lr))
noncomputable def u3_s2 (x : Int) (y : Int) (u : Int) (v : Int) (lr : Int) : Int :=
  oends_2 (flat_0 17 x y 0) (flat_1 17 x y 0) (flat_0 17 u v 0) (flat_1 17 u v 0) 0 0 0 (IntKind.i64.wrap (1 * lr))
noncomputable def u3_s3 (x : Int) (y : Int) (u : Int) (v : Int) (lr : Int) : Int :=
  oends_3 (flat_0 17 x y 0) (flat_1 17 x y 0) (flat_0 17 u v 0) (flat_1 17 u v 0) 0 0 0 (IntKind.i64.wrap (1 * lr))
noncomputable def u3_2 (x : Int) (y : Int) (u : Int) (v : Int) (lr : Int) (ix : Int) (iy : Int) (iu : Int) (iv : Int) : Int :=
  solid_0 17
   (straight_0 (u3_s0 x y u v lr) (u3_s1 x y u v lr) (u3_s2 x y u v lr) (u3_s3 x y u v lr) (flat_0 17 ix iy 0) (flat_1 17 ix iy 0) (flat_0 17 iu iv 0) (flat_1 17 iu iv 0) 0 0 0 false
   (IntKind.i64.wrap (1 * lr)))
   (straight_1 (u3_s0 x y u v lr) (u3_s1 x y u v lr) (u3_s2 x y u v lr) (u3_s3 x y u v lr) (flat_0 17 ix iy 0) (flat_1 17 ix iy 0) (flat_0 17 iu iv 0) (flat_1 17 iu iv 0) 0 0 0 false
   (IntKind.i64.wrap (1 * lr)))
   (flat_2 17 iu iv 0)
noncomputable def u3_3 (x : Int) (y : Int) (u : Int) (v : Int) (lr : Int) (ix : Int) (iy : Int) (iu : Int) (iv : Int) : Int :=
  solid_1 17
   (straight_0 (u3_s0 x y u v lr) (u3_s1 x y u v lr) (u3_s2 x y u v lr) (u3_s3 x y u v lr) (flat_0 17 ix iy 0) (flat_1 17 ix iy 0) (flat_0 17 iu iv 0) (flat_1 17 iu iv 0) 0 0 0 false
   (IntKind.i64.wrap (1 * lr)))
   (straight_1 (u3_s0 x y u v lr) (u3_s1 x y u v lr) (u3_s2 x y u v lr) (u3_s3 x y u v lr) (flat_0 17 ix iy 0) (flat_1 17 ix iy 0) (flat_0 17 iu iv 0) (flat_1 17 iu iv 0) 0 0 0 false
   (IntKind.i64.wrap (1 * lr)))
   (flat_2 17 iu iv 0)
noncomputable def u3_4 (x : Int) (y : Int) (u : Int) (v : Int) (lr : Int) (ix : Int) (iy : Int) (iu : Int) (iv : Int) : Int :=
  solid_2 17
   (straight_0 (u3_s0 x y u v lr) (u3_s1 x y u v lr) (u3_s2 x y u v lr) (u3_s3 x y u v lr) (flat_0 17 ix iy 0) (flat_1 17 ix iy 0) (flat_0 17 iu iv 0) (flat_1 17 iu iv 0) 0 0 0 false
   (IntKind.i64.wrap (1 * lr)))
   (straight_1 (u3_s0 x y u v lr) (u3_s1 x y u v lr) (u3_s2 x y u v lr) (u3_s3 x y u v lr) (flat_0 17 ix iy 0) (flat_1 17 ix iy 0) (flat_0 17 iu iv 0) (flat_1 17 iu iv 0) 0 0 0 false
   (IntKind.i64.wrap (1 * lr)))
   (flat_2 17 iu iv 0)
noncomputable def u3_s4 (x : Int) (y : Int) (u : Int) (v : Int) (lr : Int) (ix : Int) (iy : Int) (iu : Int) (iv : Int) : Int :=
  straight_0 (u3_s0 x y u v lr) (u3_s1 x y u v lr) (u3_s2 x y u v lr) (u3_s3 x y u v lr) (flat_0 17 ix iy 0) (flat_1 17 ix iy 0) (flat_0 17 iu iv 0) (flat_1 17 iu iv 0) 0 0 0 false
   (IntKind.i64.wrap (1 * lr))
noncomputable def u3_s5 (x : Int) (y : Int) (u : Int) (v : Int) (lr : Int) (ix : Int) (iy : Int) (iu : Int) (iv : Int) : Int :=
  straight_1 (u3_s0 x y u v lr) (u3_s1 x y u v lr) (u3_s2 x y u v lr) (u3_s3 x y u v lr) (flat_0 17 ix iy 0) (flat_1 17 ix iy 0) (flat_0 17 iu iv 0) (flat_1 17 iu iv 0) 0 0 0 false
   (IntKind.i64.wrap (1 * lr))
noncomputable def u3_s6 (x : Int) (y : Int) (u : Int) (v : Int) (lr : Int) (ix : Int) (iy : Int) (iu : Int) (iv : Int) : Int :=
  vinner_0 (minus_0 (u3_s4 x y u v lr ix iy iu iv) (oends_0 (flat_0 17 ix iy 0) (flat_1 17 ix iy 0) (flat_0 17 iu iv 0) (flat_1 17 iu iv 0) 0 0 0 (IntKind.i64.wrap (1 * lr))))
   (minus_0 (u3_s5 x y u v lr ix iy iu iv) (oends_1 (flat_0 17 ix iy 0) (flat_1 17 ix iy 0) (flat_0 17 iu iv 0) (flat_1 17 iu iv 0) 0 0 0 (IntKind.i64.wrap (1 * lr))))
   (minus_0 (flat_0 17 iu iv 0) (flat_0 17 ix iy 0)) (minus_0 (flat_1 17 iu iv 0) (flat_1 17 ix iy 0))
noncomputable def u3_s7 (x : Int) (y : Int) (u : Int) (v : Int) (lr : Int) (ix : Int) (iy : Int) (iu : Int) (iv : Int) (a0 : Int) (a1 : Int) : Int :=
  vinner_0 (IntKind.i64.wrap (u3_s4 x y u v lr ix iy iu iv - a0)) (IntKind.i64.wrap (u3_s5 x y u v lr ix iy iu iv - a1)) (IntKind.i64.wrap (flat_0 17 iu iv 0 - flat_0 17 ix iy 0))
   (IntKind.i64.wrap (flat_1 17 iu iv 0 - flat_1 17 ix iy 0))
noncomputable def u3_needs (x : Int) (y : Int) (u : Int) (v : Int) (r : Int) (lr : Int) (ix : Int) (iy : Int) (iu : Int) (iv : Int) (a0 : Int) (a1 : Int) (q0 : Int) (q1 : Int) : List Prop :=
  [(!vwithin_0 x y 0 || !vwithin_0 u v 0 || !(true && decide (r ≥ 0) && decide (r ≤ 32768))) = false, (!(x == q0 && y == q1)) = false, (r != lr) = false,
   (!!(flat_0 17 x y 0 == flat_0 17 u v 0 && flat_1 17 x y 0 == flat_1 17 u v 0)) = false, (IntKind.i64.wrap (1 * lr) == 0) = false,
   (ocorner_0 (atang_0 2 ix iy 0 iu iv 0 17 0 0 0 0 true) (atang_1 2 ix iy 0 iu iv 0 17 0 0 0 0 true) (atang_0 2 x y 0 u v 0 17 0 0 0 0 false) (atang_1 2 x y 0 u v 0 17 0 0 0 0 false) 1 == 2) = true,
   (oends_4 (flat_0 17 ix iy 0) (flat_1 17 ix iy 0) (flat_0 17 iu iv 0) (flat_1 17 iu iv 0) 0 0 0 (IntKind.i64.wrap (1 * lr)) != 0) = false,
   (oends_4 (flat_0 17 x y 0) (flat_1 17 x y 0) (flat_0 17 u v 0) (flat_1 17 u v 0) 0 0 0 (IntKind.i64.wrap (1 * lr)) != 0) = false,
   (!oclear_0 (flat_0 17 ix iy 0) (flat_1 17 ix iy 0) (flat_0 17 iu iv 0) (flat_1 17 iu iv 0) 0 0 0 (u3_s2 x y u v lr) (u3_s3 x y u v lr) (IntKind.i64.wrap (1 * lr))) = false,
   -1048576 ≤ u3_s0 x y u v lr ∧ u3_s0 x y u v lr ≤ 1048576, -1048576 ≤ u3_s1 x y u v lr ∧ u3_s1 x y u v lr ≤ 1048576, -1048576 ≤ u3_s2 x y u v lr ∧ u3_s2 x y u v lr ≤ 1048576,
   -1048576 ≤ u3_s3 x y u v lr ∧ u3_s3 x y u v lr ≤ 1048576, (!oin_0 (u3_s4 x y u v lr ix iy iu iv) 1048576 || !oin_0 (u3_s5 x y u v lr ix iy iu iv) 1048576) = false, true = true,
   (!decide (u3_s6 x y u v lr ix iy iu iv > 0)) = false, decide (u3_s7 x y u v lr ix iy iu iv a0 a1 ≤ 0) = false,
   (!(solid_0 17 a0 a1 (flat_2 17 ix iy 0) == solid_0 17 (u3_s4 x y u v lr ix iy iu iv) (u3_s5 x y u v lr ix iy iu iv) (flat_2 17 iu iv 0) &&
   (solid_1 17 a0 a1 (flat_2 17 ix iy 0) == solid_1 17 (u3_s4 x y u v lr ix iy iu iv) (u3_s5 x y u v lr ix iy iu iv) (flat_2 17 iu iv 0) &&
   solid_2 17 a0 a1 (flat_2 17 ix iy 0) == solid_2 17 (u3_s4 x y u v lr ix iy iu iv) (u3_s5 x y u v lr ix iy iu iv) (flat_2 17 iu iv 0)))) =
   true]
set_option maxRecDepth 1000000 in
theorem u3_runs (x y u v r lx ly lu lv lr ix iy iu iv ir a0 a1 q0 q1 : Int) (hNeeds : ∀ pN ∈ (u3_needs x y u v r lr ix iy iu iv a0 a1 q0 q1), pN) : Runs (runF (sums K_awake) L_push 23) (u3_tpl.args [.i x, .i y, .i u, .i v, .i r, .i lx, .i ly, .i lu, .i lv, .i lr, .i ix, .i iy, .i iu, .i iv, .i ir, .i a0, .i a1, .i q0, .i q1]) (u3_tpl.memo [.i x, .i y, .i u, .i v, .i r, .i lx, .i ly, .i lu, .i lv, .i lr, .i ix, .i iy, .i iu, .i iv, .i ir, .i a0, .i a1, .i q0, .i q1] []) u3_tpl.n (SV.tup [(false, [SC.wh 29398]), (false, [SC.int IntKind.i64 (SI.c 0)])])
    ([(0,
     Obj.blk 82
     [(1, SC.int IntKind.i64 (SI.c 2)), (2, SC.int IntKind.i64 (SI.c 0)), (3, SC.int IntKind.i64 (SI.v lx)), (4, SC.int IntKind.i64 (SI.v ly)), (5, SC.int IntKind.i64 (SI.c 0)),
     (6, SC.int IntKind.i64 (SI.v lu)), (7, SC.int IntKind.i64 (SI.v lv)), (8, SC.int IntKind.i64 (SI.c 0)), (9, SC.int IntKind.i64 (SI.c 17)), (10, SC.int IntKind.i64 (SI.c 0)),
     (11, SC.int IntKind.i64 (SI.c 0)), (12, SC.int IntKind.i64 (SI.c 0)), (13, SC.int IntKind.i64 (SI.c 0)), (14, SC.bool (SB.c false)), (15, SC.int IntKind.i64 (SI.c 1000)),
     (16, SC.bool (SB.c false)), (17, SC.int IntKind.i64 (SI.c 1)), (18, SC.int IntKind.i64 (SI.v lr)), (19, SC.int IntKind.i64 (SI.c 0)), (20, SC.int IntKind.i64 (SI.c 0)),
     (21, SC.int IntKind.i64 (SI.c 0)), (22, SC.bool (SB.c false)), (29502, SC.int IntKind.i64 (SI.c 2)), (29503, SC.int IntKind.i64 (SI.c 0)), (29504, SC.int IntKind.i64 (SI.v x)),
     (29505, SC.int IntKind.i64 (SI.v y)), (29506, SC.int IntKind.i64 (SI.c 0)), (29507, SC.int IntKind.i64 (SI.v u)), (29508, SC.int IntKind.i64 (SI.v v)), (29509, SC.int IntKind.i64 (SI.c 0)),
     (29510, SC.int IntKind.i64 (SI.c 17)), (29511, SC.int IntKind.i64 (SI.c 0)), (29512, SC.int IntKind.i64 (SI.c 0)), (29513, SC.int IntKind.i64 (SI.c 0)), (29514, SC.int IntKind.i64 (SI.c 0)),
     (29515, SC.bool (SB.c false)), (29516, SC.int IntKind.i64 (SI.c 1000)), (29517, SC.bool (SB.c false)), (29518, SC.int IntKind.i64 (SI.c 1)), (29519, SC.int IntKind.i64 (SI.v r)),
     (29520, SC.int IntKind.i64 (SI.c 0)), (29521, SC.int IntKind.i64 (SI.c 0)), (29522, SC.int IntKind.i64 (SI.c 0)), (29523, SC.bool (SB.c false)),
     (29411, SC.int IntKind.i64 (SI.v (u3_0 x y u v lr ix iy iu iv))), (29412, SC.int IntKind.i64 (SI.v (u3_1 x y u v lr ix iy iu iv))), (29528, SC.bool (SB.c true)), (29493, SC.nilsl),
     (49, SC.bool (SB.c true)), (50, SC.bool (SB.c false)), (601, SC.bool (SB.c false)), (610, SC.bool (SB.c true)), (614, SC.int IntKind.i64 (SI.v u)), (615, SC.int IntKind.i64 (SI.v v)),
     (616, SC.int IntKind.i64 (SI.c 0)), (29611, SC.nilsl), (29538, SC.int IntKind.i64 (SI.c 0))]),
    (29398,
     Obj.row false 30 22
     (RowC.lit 29400
     [[SC.int IntKind.i64 (SI.c 2), SC.int IntKind.i64 (SI.c 0), SC.int IntKind.i64 (SI.v (solid_0 17 a0 a1 (flat_2 17 ix iy 0))), SC.int IntKind.i64 (SI.v (solid_1 17 a0 a1 (flat_2 17 ix iy 0))),
     SC.int IntKind.i64 (SI.v (solid_2 17 a0 a1 (flat_2 17 ix iy 0))), SC.int IntKind.i64 (SI.v (u3_2 x y u v lr ix iy iu iv)), SC.int IntKind.i64 (SI.v (u3_3 x y u v lr ix iy iu iv)),
     SC.int IntKind.i64 (SI.v (u3_4 x y u v lr ix iy iu iv)), SC.int IntKind.i64 (SI.c 0), SC.int IntKind.i64 (SI.c 0), SC.int IntKind.i64 (SI.c 0), SC.int IntKind.i64 (SI.c 0),
     SC.int IntKind.i64 (SI.c 0), SC.bool (SB.c false), SC.int IntKind.i64 (SI.c 1000), SC.bool (SB.c false), SC.int IntKind.i64 (SI.c 0), SC.int IntKind.i64 (SI.c 0),
     SC.int IntKind.i64 (SI.c 0), SC.int IntKind.i64 (SI.c 0), SC.int IntKind.i64 (SI.c 0), SC.bool (SB.c false)]]))]) :=
  Runs.of1 (ps := (u3_needs x y u v r lr ix iy iu iv a0 a1 q0 q1)) (by kernel_rfl) hNeeds
noncomputable def u3_out : List Pm → Lss → Option CRes
  | [.i x, .i y, .i u, .i v, .i r, .i lx, .i ly, .i lu, .i lv, .i lr, .i ix, .i iy, .i iu, .i iv, .i ir, .i a0, .i a1, .i q0, .i q1], [] => some ⟨SV.tup [(false, [SC.wh 29398]), (false, [SC.int IntKind.i64 (SI.c 0)])],
    [(0,
     Obj.blk 82
     [(1, SC.int IntKind.i64 (SI.c 2)), (2, SC.int IntKind.i64 (SI.c 0)), (3, SC.int IntKind.i64 (SI.v lx)), (4, SC.int IntKind.i64 (SI.v ly)), (5, SC.int IntKind.i64 (SI.c 0)),
     (6, SC.int IntKind.i64 (SI.v lu)), (7, SC.int IntKind.i64 (SI.v lv)), (8, SC.int IntKind.i64 (SI.c 0)), (9, SC.int IntKind.i64 (SI.c 17)), (10, SC.int IntKind.i64 (SI.c 0)),
     (11, SC.int IntKind.i64 (SI.c 0)), (12, SC.int IntKind.i64 (SI.c 0)), (13, SC.int IntKind.i64 (SI.c 0)), (14, SC.bool (SB.c false)), (15, SC.int IntKind.i64 (SI.c 1000)),
     (16, SC.bool (SB.c false)), (17, SC.int IntKind.i64 (SI.c 1)), (18, SC.int IntKind.i64 (SI.v lr)), (19, SC.int IntKind.i64 (SI.c 0)), (20, SC.int IntKind.i64 (SI.c 0)),
     (21, SC.int IntKind.i64 (SI.c 0)), (22, SC.bool (SB.c false)), (29502, SC.int IntKind.i64 (SI.c 2)), (29503, SC.int IntKind.i64 (SI.c 0)), (29504, SC.int IntKind.i64 (SI.v x)),
     (29505, SC.int IntKind.i64 (SI.v y)), (29506, SC.int IntKind.i64 (SI.c 0)), (29507, SC.int IntKind.i64 (SI.v u)), (29508, SC.int IntKind.i64 (SI.v v)), (29509, SC.int IntKind.i64 (SI.c 0)),
     (29510, SC.int IntKind.i64 (SI.c 17)), (29511, SC.int IntKind.i64 (SI.c 0)), (29512, SC.int IntKind.i64 (SI.c 0)), (29513, SC.int IntKind.i64 (SI.c 0)), (29514, SC.int IntKind.i64 (SI.c 0)),
     (29515, SC.bool (SB.c false)), (29516, SC.int IntKind.i64 (SI.c 1000)), (29517, SC.bool (SB.c false)), (29518, SC.int IntKind.i64 (SI.c 1)), (29519, SC.int IntKind.i64 (SI.v r)),
     (29520, SC.int IntKind.i64 (SI.c 0)), (29521, SC.int IntKind.i64 (SI.c 0)), (29522, SC.int IntKind.i64 (SI.c 0)), (29523, SC.bool (SB.c false)),
     (29411, SC.int IntKind.i64 (SI.v (u3_0 x y u v lr ix iy iu iv))), (29412, SC.int IntKind.i64 (SI.v (u3_1 x y u v lr ix iy iu iv))), (29528, SC.bool (SB.c true)), (29493, SC.nilsl),
     (49, SC.bool (SB.c true)), (50, SC.bool (SB.c false)), (601, SC.bool (SB.c false)), (610, SC.bool (SB.c true)), (614, SC.int IntKind.i64 (SI.v u)), (615, SC.int IntKind.i64 (SI.v v)),
     (616, SC.int IntKind.i64 (SI.c 0)), (29611, SC.nilsl), (29538, SC.int IntKind.i64 (SI.c 0))]),
    (29398,
     Obj.row false 30 22
     (RowC.lit 29400
     [[SC.int IntKind.i64 (SI.c 2), SC.int IntKind.i64 (SI.c 0), SC.int IntKind.i64 (SI.v (solid_0 17 a0 a1 (flat_2 17 ix iy 0))), SC.int IntKind.i64 (SI.v (solid_1 17 a0 a1 (flat_2 17 ix iy 0))),
     SC.int IntKind.i64 (SI.v (solid_2 17 a0 a1 (flat_2 17 ix iy 0))), SC.int IntKind.i64 (SI.v (u3_2 x y u v lr ix iy iu iv)), SC.int IntKind.i64 (SI.v (u3_3 x y u v lr ix iy iu iv)),
     SC.int IntKind.i64 (SI.v (u3_4 x y u v lr ix iy iu iv)), SC.int IntKind.i64 (SI.c 0), SC.int IntKind.i64 (SI.c 0), SC.int IntKind.i64 (SI.c 0), SC.int IntKind.i64 (SI.c 0),
     SC.int IntKind.i64 (SI.c 0), SC.bool (SB.c false), SC.int IntKind.i64 (SI.c 1000), SC.bool (SB.c false), SC.int IntKind.i64 (SI.c 0), SC.int IntKind.i64 (SI.c 0),
     SC.int IntKind.i64 (SI.c 0), SC.int IntKind.i64 (SI.c 0), SC.int IntKind.i64 (SI.c 0), SC.bool (SB.c false)]]))],
    (u3_needs x y u v r lr ix iy iu iv a0 a1 q0 q1), [], 29626⟩
  | _, _ => none
theorem u3_ok : FOk Tryz.prog 23 (tplS u3_tpl u3_out) := by
  refine tplS_ok (runF_ok known_push 23) fun ps ls r hr hn _ => ?_
  unfold u3_out at hr
  split at hr
  · cases hr; exact ⟨_, u3_runs _ _ _ _ _ _ _ _ _ _ _ _ _ _ _ _ _ _ _ hn, fun _ => rfl⟩
  · cases hr
noncomputable def K_u3 : List (Nat × Summ) := (23, tplS u3_tpl u3_out) :: K_awake
theorem known_u3 : Known Tryz.prog (sums K_u3) L_push := known_cons known_push u3_ok
end Go.Proofs.YthgiaoidekdpfaaGreat
