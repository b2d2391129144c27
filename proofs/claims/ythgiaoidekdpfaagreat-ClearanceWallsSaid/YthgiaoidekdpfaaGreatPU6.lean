/-
  CUTTER: what Push does along a rectangle. Conditions: those that the path needs.
-/
import Derived.Test.YthgiaoidekdpfaaGreatDE
import Derived.Test.YthgiaoidekdpfaaGreatV2
set_option linter.all false
namespace Go.Proofs.YthgiaoidekdpfaaGreat
open Go.SX Go.RowKit
noncomputable def u6_tpl : Tpl := ⟨[.one (.ptr 0 0), .agg [.ci .i64 2, .ci .i64 0, .int .i64, .int .i64, .ci .i64 0, .int .i64, .int .i64, .ci .i64 0, .ci .i64 0, .ci .i64 0, .ci .i64 0, .ci .i64 0, .ci .i64 0, .cb false, .ci .i64 1000, .cb false, .ci .i64 0, .ci .i64 0, .ci .i64 0, .ci .i64 0, .ci .i64 0, .cb false]], [(0, .blk 82 [(1, .ci .i64 2), (2, .ci .i64 0), (3, .int .i64), (4, .int .i64), (5, .ci .i64 0), (6, .int .i64), (7, .int .i64), (8, .ci .i64 0), (9, .ci .i64 17), (10, .ci .i64 0), (11, .ci .i64 0), (12, .ci .i64 0), (13, .ci .i64 0), (14, .cb false), (15, .ci .i64 1000), (16, .cb false), (17, .ci .i64 1), (18, .int .i64), (19, .ci .i64 0), (20, .ci .i64 0), (21, .ci .i64 0), (22, .cb false), (23, .ci .i64 2), (24, .ci .i64 0), (25, .int .i64), (26, .int .i64), (27, .ci .i64 0), (28, .int .i64), (29, .int .i64), (30, .ci .i64 0), (31, .ci .i64 17), (32, .ci .i64 0), (33, .ci .i64 0), (34, .ci .i64 0), (35, .ci .i64 0), (36, .cb false), (37, .ci .i64 1000), (38, .cb false), (39, .ci .i64 1), (40, .int .i64), (41, .ci .i64 0), (42, .ci .i64 0), (43, .ci .i64 0), (44, .cb false), (45, .int .i64), (46, .int .i64), (47, .cb true), (48, .nilsl), (49, .cb true), (50, .cb false), (51, .cb false), (52, .cb true), (53, .int .i64), (54, .int .i64), (55, .ci .i64 0), (56, .nilsl), (57, .ci .i64 0)])], 58⟩
noncomputable def u6_0 (lr : Int) (ix : Int) (iy : Int) (iu : Int) (iv : Int) : Int :=
  solid_0 17 (oends_2 (flat_0 17 ix iy 0) (flat_1 17 ix iy 0) (flat_0 17 iu iv 0) (flat_1 17 iu iv 0) 0 0 0 (IntKind.i64.wrap (1 * lr)))
   (oends_3 (flat_0 17 ix iy 0) (flat_1 17 ix iy 0) (flat_0 17 iu iv 0) (flat_1 17 iu iv 0) 0 0 0 (IntKind.i64.wrap (1 * lr))) (flat_2 17 iu iv 0)
noncomputable def u6_1 (lr : Int) (ix : Int) (iy : Int) (iu : Int) (iv : Int) : Int :=
  solid_1 17 (oends_2 (flat_0 17 ix iy 0) (flat_1 17 ix iy 0) (flat_0 17 iu iv 0) (flat_1 17 iu iv 0) 0 0 0 (IntKind.i64.wrap (1 * lr)))
   (oends_3 (flat_0 17 ix iy 0) (flat_1 17 ix iy 0) (flat_0 17 iu iv 0) (flat_1 17 iu iv 0) 0 0 0 (IntKind.i64.wrap (1 * lr))) (flat_2 17 iu iv 0)
noncomputable def u6_2 (lr : Int) (ix : Int) (iy : Int) (iu : Int) (iv : Int) : Int :=
  solid_2 17 (oends_2 (flat_0 17 ix iy 0) (flat_1 17 ix iy 0) (flat_0 17 iu iv 0) (flat_1 17 iu iv 0) 0 0 0 (IntKind.i64.wrap (1 * lr)))
   (oends_3 (flat_0 17 ix iy 0) (flat_1 17 ix iy 0) (flat_0 17 iu iv 0) (flat_1 17 iu iv 0) 0 0 0 (IntKind.i64.wrap (1 * lr))) (flat_2 17 iu iv 0)
noncomputable def u6_3 (u : Int) (v : Int) (lr : Int) (ix : Int) (iy : Int) (iu : Int) (iv : Int) : Int :=
  solid_0 17 (oends_2 (flat_0 17 ix iy 0) (flat_1 17 ix iy 0) (flat_0 17 iu iv 0) (flat_1 17 iu iv 0) 0 0 0 (IntKind.i64.wrap (1 * lr)))
   (oends_3 (flat_0 17 ix iy 0) (flat_1 17 ix iy 0) (flat_0 17 iu iv 0) (flat_1 17 iu iv 0) 0 0 0 (IntKind.i64.wrap (1 * lr))) (flat_2 17 u v 0)
noncomputable def u6_4 (u : Int) (v : Int) (lr : Int) (ix : Int) (iy : Int) (iu : Int) (iv : Int) : Int :=
  solid_1 17 (oends_2 (flat_0 17 ix iy 0) (flat_1 17 ix iy 0) (flat_0 17 iu iv 0) (flat_1 17 iu iv 0) 0 0 0 (IntKind.i64.wrap (1 * lr)))
   (oends_3 (flat_0 17 ix iy 0) (flat_1 17 ix iy 0) (flat_0 17 iu iv 0) (flat_1 17 iu iv 0) 0 0 0 (IntKind.i64.wrap (1 * lr))) (flat_2 17 u v 0)
noncomputable def u6_5 (u : Int) (v : Int) (lr : Int) (ix : Int) (iy : Int) (iu : Int) (iv : Int) : Int :=
  solid_2 17 (oends_2 (flat_0 17 ix iy 0) (flat_1 17 ix iy 0) (flat_0 17 iu iv 0) (flat_1 17 iu iv 0) 0 0 0 (IntKind.i64.wrap (1 * lr)))
   (oends_3 (flat_0 17 ix iy 0) (flat_1 17 ix iy 0) (flat_0 17 iu iv 0) (flat_1 17 iu iv 0) 0 0 0 (IntKind.i64.wrap (1 * lr))) (flat_2 17 u v 0)
noncomputable def u6_6 (u : Int) (v : Int) : Int :=
  solid_0 17 (flat_0 17 u v 0) (flat_1 17 u v 0) (flat_2 17 u v 0)
noncomputable def u6_7 (u : Int) (v : Int) : Int :=
  solid_1 17 (flat_0 17 u v 0) (flat_1 17 u v 0) (flat_2 17 u v 0)
noncomputable def u6_8 (u : Int) (v : Int) : Int :=
  solid_2 17 (flat_0 17 u v 0) (flat_1 17 u v 0) (flat_2 17 u v 0)
noncomputable def u6_s0 (x : Int) (y : Int) (u : Int) (v : Int) : Int :=
  IntKind.i64.wrap (flat_0 17 u v 0 - flat_0 17 x y 0)
noncomputable def u6_s1 (x : Int) (y : Int) (u : Int) (v : Int) : Int :=
  IntKind.i64.wrap (flat_1 17 u v 0 - flat_1 17 x y 0)
noncomputable def u6_s2 (lr : Int) (ix : Int) (iy : Int) (iu : Int) (iv : Int) : Int :=
  oends_2 (flat_0 17 ix iy 0) (flat_1 17 ix iy 0) (flat_0 17 iu iv 0) (flat_1 17 iu iv 0) 0 0 0 (IntKind.i64.wrap (1 * lr))
noncomputable def u6_s3 (lr : Int) (ix : Int) (iy : Int) (iu : Int) (iv : Int) : Int :=
  oends_3 (flat_0 17 ix iy 0) (flat_1 17 ix iy 0) (flat_0 17 iu iv 0) (flat_1 17 iu iv 0) 0 0 0 (IntKind.i64.wrap (1 * lr))
noncomputable def u6_s4 (lr : Int) (ix : Int) (iy : Int) (iu : Int) (iv : Int) (a0 : Int) (a1 : Int) : Int :=
  vinner_0 (IntKind.i64.wrap (u6_s2 lr ix iy iu iv - a0)) (IntKind.i64.wrap (u6_s3 lr ix iy iu iv - a1)) (IntKind.i64.wrap (flat_0 17 iu iv 0 - flat_0 17 ix iy 0))
   (IntKind.i64.wrap (flat_1 17 iu iv 0 - flat_1 17 ix iy 0))
noncomputable def u6_needs (x : Int) (y : Int) (u : Int) (v : Int) (lr : Int) (ix : Int) (iy : Int) (iu : Int) (iv : Int) (a0 : Int) (a1 : Int) (q0 : Int) (q1 : Int) : List Prop :=
  [(!vwithin_0 x y 0 || !vwithin_0 u v 0) = false, (!(x == q0 && y == q1)) = false,
   (!(flat_2 17 x y 0 == flat_2 17 u v 0 && decide (vinner_0 (u6_s0 x y u v) (u6_s1 x y u v) (u6_s0 x y u v) (u6_s1 x y u v) > 0) &&
   decide (vinner_0 (u6_s0 x y u v) (u6_s1 x y u v) (u6_s0 x y u v) (u6_s1 x y u v) ≥ IntKind.i64.wrap (lr * lr)))) =
   false,
   (oends_4 (flat_0 17 ix iy 0) (flat_1 17 ix iy 0) (flat_0 17 iu iv 0) (flat_1 17 iu iv 0) 0 0 0 (IntKind.i64.wrap (1 * lr)) == 0) = true, decide (u6_s4 lr ix iy iu iv a0 a1 ≤ 0) = false,
   (!(solid_0 17 a0 a1 (flat_2 17 ix iy 0) == solid_0 17 (u6_s2 lr ix iy iu iv) (u6_s3 lr ix iy iu iv) (flat_2 17 iu iv 0) &&
   (solid_1 17 a0 a1 (flat_2 17 ix iy 0) == solid_1 17 (u6_s2 lr ix iy iu iv) (u6_s3 lr ix iy iu iv) (flat_2 17 iu iv 0) &&
   solid_2 17 a0 a1 (flat_2 17 ix iy 0) == solid_2 17 (u6_s2 lr ix iy iu iv) (u6_s3 lr ix iy iu iv) (flat_2 17 iu iv 0)))) =
   true]
set_option maxRecDepth 1000000 in
theorem u6_runs (x y u v lx ly lu lv lr ix iy iu iv ir a0 a1 q0 q1 : Int) (hNeeds : ∀ pN ∈ (u6_needs x y u v lr ix iy iu iv a0 a1 q0 q1), pN) : Runs (runF (sums K_awake) L_push 23) (u6_tpl.args [.i x, .i y, .i u, .i v, .i lx, .i ly, .i lu, .i lv, .i lr, .i ix, .i iy, .i iu, .i iv, .i ir, .i a0, .i a1, .i q0, .i q1]) (u6_tpl.memo [.i x, .i y, .i u, .i v, .i lx, .i ly, .i lu, .i lv, .i lr, .i ix, .i iy, .i iu, .i iv, .i ir, .i a0, .i a1, .i q0, .i q1] []) u6_tpl.n (SV.tup [(false, [SC.wh 14532]), (false, [SC.int IntKind.i64 (SI.c 0)])])
    ([(0,
     Obj.blk 82
     [(14558, SC.int IntKind.i64 (SI.c 0)), (14559, SC.int IntKind.i64 (SI.c 0)), (14560, SC.int IntKind.i64 (SI.c 0)), (14561, SC.int IntKind.i64 (SI.c 0)), (14562, SC.int IntKind.i64 (SI.c 0)),
     (14563, SC.int IntKind.i64 (SI.c 0)), (14564, SC.int IntKind.i64 (SI.c 0)), (14565, SC.int IntKind.i64 (SI.c 0)), (14566, SC.int IntKind.i64 (SI.c 0)), (14567, SC.int IntKind.i64 (SI.c 0)),
     (14568, SC.int IntKind.i64 (SI.c 0)), (14569, SC.int IntKind.i64 (SI.c 0)), (14570, SC.int IntKind.i64 (SI.c 0)), (14571, SC.bool (SB.c false)), (14572, SC.int IntKind.i64 (SI.c 0)),
     (14573, SC.bool (SB.c false)), (14574, SC.int IntKind.i64 (SI.c 0)), (14575, SC.int IntKind.i64 (SI.c 0)), (14576, SC.int IntKind.i64 (SI.c 0)), (14577, SC.int IntKind.i64 (SI.c 0)),
     (14578, SC.int IntKind.i64 (SI.c 0)), (14579, SC.bool (SB.c false)), (14580, SC.int IntKind.i64 (SI.c 0)), (14581, SC.int IntKind.i64 (SI.c 0)), (14582, SC.int IntKind.i64 (SI.c 0)),
     (14583, SC.int IntKind.i64 (SI.c 0)), (14584, SC.int IntKind.i64 (SI.c 0)), (14585, SC.int IntKind.i64 (SI.c 0)), (14586, SC.int IntKind.i64 (SI.c 0)), (14587, SC.int IntKind.i64 (SI.c 0)),
     (14588, SC.int IntKind.i64 (SI.c 0)), (14589, SC.int IntKind.i64 (SI.c 0)), (14590, SC.int IntKind.i64 (SI.c 0)), (14591, SC.int IntKind.i64 (SI.c 0)), (14592, SC.int IntKind.i64 (SI.c 0)),
     (14593, SC.bool (SB.c false)), (14594, SC.int IntKind.i64 (SI.c 0)), (14595, SC.bool (SB.c false)), (14596, SC.int IntKind.i64 (SI.c 0)), (14597, SC.int IntKind.i64 (SI.c 0)),
     (14598, SC.int IntKind.i64 (SI.c 0)), (14599, SC.int IntKind.i64 (SI.c 0)), (14600, SC.int IntKind.i64 (SI.c 0)), (14601, SC.bool (SB.c false)), (14602, SC.int IntKind.i64 (SI.c 0)),
     (14603, SC.int IntKind.i64 (SI.c 0)), (14604, SC.bool (SB.c false)), (14605, SC.nilsl), (14554, SC.bool (SB.c false)), (50, SC.bool (SB.c false)), (495, SC.bool (SB.c false)),
     (504, SC.bool (SB.c true)), (508, SC.int IntKind.i64 (SI.v u)), (509, SC.int IntKind.i64 (SI.v v)), (510, SC.int IntKind.i64 (SI.c 0)), (14686, SC.nilsl),
     (14613, SC.int IntKind.i64 (SI.c 0))]),
    (14532,
     Obj.row false 30 22
     (RowC.lit 14534
     [[SC.int IntKind.i64 (SI.c 2), SC.int IntKind.i64 (SI.c 0), SC.int IntKind.i64 (SI.v (solid_0 17 a0 a1 (flat_2 17 ix iy 0))), SC.int IntKind.i64 (SI.v (solid_1 17 a0 a1 (flat_2 17 ix iy 0))),
     SC.int IntKind.i64 (SI.v (solid_2 17 a0 a1 (flat_2 17 ix iy 0))), SC.int IntKind.i64 (SI.v (u6_0 lr ix iy iu iv)), SC.int IntKind.i64 (SI.v (u6_1 lr ix iy iu iv)),
     SC.int IntKind.i64 (SI.v (u6_2 lr ix iy iu iv)), SC.int IntKind.i64 (SI.c 0), SC.int IntKind.i64 (SI.c 0), SC.int IntKind.i64 (SI.c 0), SC.int IntKind.i64 (SI.c 0),
     SC.int IntKind.i64 (SI.c 0), SC.bool (SB.c false), SC.int IntKind.i64 (SI.c 1000), SC.bool (SB.c false), SC.int IntKind.i64 (SI.c 0), SC.int IntKind.i64 (SI.c 0),
     SC.int IntKind.i64 (SI.c 0), SC.int IntKind.i64 (SI.c 0), SC.int IntKind.i64 (SI.c 0), SC.bool (SB.c false)],
     [SC.int IntKind.i64 (SI.c 2), SC.int IntKind.i64 (SI.c 0), SC.int IntKind.i64 (SI.v (u6_3 u v lr ix iy iu iv)), SC.int IntKind.i64 (SI.v (u6_4 u v lr ix iy iu iv)),
     SC.int IntKind.i64 (SI.v (u6_5 u v lr ix iy iu iv)), SC.int IntKind.i64 (SI.v (u6_6 u v)), SC.int IntKind.i64 (SI.v (u6_7 u v)), SC.int IntKind.i64 (SI.v (u6_8 u v)),
     SC.int IntKind.i64 (SI.c 0), SC.int IntKind.i64 (SI.c 0), SC.int IntKind.i64 (SI.c 0), SC.int IntKind.i64 (SI.c 0), SC.int IntKind.i64 (SI.c 0), SC.bool (SB.c false),
     SC.int IntKind.i64 (SI.c 1000), SC.bool (SB.c false), SC.int IntKind.i64 (SI.c 0), SC.int IntKind.i64 (SI.c 0), SC.int IntKind.i64 (SI.c 0), SC.int IntKind.i64 (SI.c 0),
     SC.int IntKind.i64 (SI.c 0), SC.bool (SB.c false)]]))]) :=
  Runs.of1 (ps := (u6_needs x y u v lr ix iy iu iv a0 a1 q0 q1)) (by kernel_rfl) hNeeds
noncomputable def u6_out : List Pm → Lss → Option CRes
  | [.i x, .i y, .i u, .i v, .i lx, .i ly, .i lu, .i lv, .i lr, .i ix, .i iy, .i iu, .i iv, .i ir, .i a0, .i a1, .i q0, .i q1], [] => some ⟨SV.tup [(false, [SC.wh 14532]), (false, [SC.int IntKind.i64 (SI.c 0)])],
    [(0,
     Obj.blk 82
     [(14558, SC.int IntKind.i64 (SI.c 0)), (14559, SC.int IntKind.i64 (SI.c 0)), (14560, SC.int IntKind.i64 (SI.c 0)), (14561, SC.int IntKind.i64 (SI.c 0)), (14562, SC.int IntKind.i64 (SI.c 0)),
     (14563, SC.int IntKind.i64 (SI.c 0)), (14564, SC.int IntKind.i64 (SI.c 0)), (14565, SC.int IntKind.i64 (SI.c 0)), (14566, SC.int IntKind.i64 (SI.c 0)), (14567, SC.int IntKind.i64 (SI.c 0)),
     (14568, SC.int IntKind.i64 (SI.c 0)), (14569, SC.int IntKind.i64 (SI.c 0)), (14570, SC.int IntKind.i64 (SI.c 0)), (14571, SC.bool (SB.c false)), (14572, SC.int IntKind.i64 (SI.c 0)),
     (14573, SC.bool (SB.c false)), (14574, SC.int IntKind.i64 (SI.c 0)), (14575, SC.int IntKind.i64 (SI.c 0)), (14576, SC.int IntKind.i64 (SI.c 0)), (14577, SC.int IntKind.i64 (SI.c 0)),
     (14578, SC.int IntKind.i64 (SI.c 0)), (14579, SC.bool (SB.c false)), (14580, SC.int IntKind.i64 (SI.c 0)), (14581, SC.int IntKind.i64 (SI.c 0)), (14582, SC.int IntKind.i64 (SI.c 0)),
     (14583, SC.int IntKind.i64 (SI.c 0)), (14584, SC.int IntKind.i64 (SI.c 0)), (14585, SC.int IntKind.i64 (SI.c 0)), (14586, SC.int IntKind.i64 (SI.c 0)), (14587, SC.int IntKind.i64 (SI.c 0)),
     (14588, SC.int IntKind.i64 (SI.c 0)), (14589, SC.int IntKind.i64 (SI.c 0)), (14590, SC.int IntKind.i64 (SI.c 0)), (14591, SC.int IntKind.i64 (SI.c 0)), (14592, SC.int IntKind.i64 (SI.c 0)),
     (14593, SC.bool (SB.c false)), (14594, SC.int IntKind.i64 (SI.c 0)), (14595, SC.bool (SB.c false)), (14596, SC.int IntKind.i64 (SI.c 0)), (14597, SC.int IntKind.i64 (SI.c 0)),
     (14598, SC.int IntKind.i64 (SI.c 0)), (14599, SC.int IntKind.i64 (SI.c 0)), (14600, SC.int IntKind.i64 (SI.c 0)), (14601, SC.bool (SB.c false)), (14602, SC.int IntKind.i64 (SI.c 0)),
     (14603, SC.int IntKind.i64 (SI.c 0)), (14604, SC.bool (SB.c false)), (14605, SC.nilsl), (14554, SC.bool (SB.c false)), (50, SC.bool (SB.c false)), (495, SC.bool (SB.c false)),
     (504, SC.bool (SB.c true)), (508, SC.int IntKind.i64 (SI.v u)), (509, SC.int IntKind.i64 (SI.v v)), (510, SC.int IntKind.i64 (SI.c 0)), (14686, SC.nilsl),
     (14613, SC.int IntKind.i64 (SI.c 0))]),
    (14532,
     Obj.row false 30 22
     (RowC.lit 14534
     [[SC.int IntKind.i64 (SI.c 2), SC.int IntKind.i64 (SI.c 0), SC.int IntKind.i64 (SI.v (solid_0 17 a0 a1 (flat_2 17 ix iy 0))), SC.int IntKind.i64 (SI.v (solid_1 17 a0 a1 (flat_2 17 ix iy 0))),
     SC.int IntKind.i64 (SI.v (solid_2 17 a0 a1 (flat_2 17 ix iy 0))), SC.int IntKind.i64 (SI.v (u6_0 lr ix iy iu iv)), SC.int IntKind.i64 (SI.v (u6_1 lr ix iy iu iv)),
     SC.int IntKind.i64 (SI.v (u6_2 lr ix iy iu iv)), SC.int IntKind.i64 (SI.c 0), SC.int IntKind.i64 (SI.c 0), SC.int IntKind.i64 (SI.c 0), SC.int IntKind.i64 (SI.c 0),
     SC.int IntKind.i64 (SI.c 0), SC.bool (SB.c false), SC.int IntKind.i64 (SI.c 1000), SC.bool (SB.c false), SC.int IntKind.i64 (SI.c 0), SC.int IntKind.i64 (SI.c 0),
     SC.int IntKind.i64 (SI.c 0), SC.int IntKind.i64 (SI.c 0), SC.int IntKind.i64 (SI.c 0), SC.bool (SB.c false)],
     [SC.int IntKind.i64 (SI.c 2), SC.int IntKind.i64 (SI.c 0), SC.int IntKind.i64 (SI.v (u6_3 u v lr ix iy iu iv)), SC.int IntKind.i64 (SI.v (u6_4 u v lr ix iy iu iv)),
     SC.int IntKind.i64 (SI.v (u6_5 u v lr ix iy iu iv)), SC.int IntKind.i64 (SI.v (u6_6 u v)), SC.int IntKind.i64 (SI.v (u6_7 u v)), SC.int IntKind.i64 (SI.v (u6_8 u v)),
     SC.int IntKind.i64 (SI.c 0), SC.int IntKind.i64 (SI.c 0), SC.int IntKind.i64 (SI.c 0), SC.int IntKind.i64 (SI.c 0), SC.int IntKind.i64 (SI.c 0), SC.bool (SB.c false),
     SC.int IntKind.i64 (SI.c 1000), SC.bool (SB.c false), SC.int IntKind.i64 (SI.c 0), SC.int IntKind.i64 (SI.c 0), SC.int IntKind.i64 (SI.c 0), SC.int IntKind.i64 (SI.c 0),
     SC.int IntKind.i64 (SI.c 0), SC.bool (SB.c false)]]))],
    (u6_needs x y u v lr ix iy iu iv a0 a1 q0 q1), [], 14701⟩
  | _, _ => none
theorem u6_ok : FOk Tryz.prog 23 (tplS u6_tpl u6_out) := by
  refine tplS_ok (runF_ok known_push 23) fun ps ls r hr hn _ => ?_
  unfold u6_out at hr
  split at hr
  · cases hr; exact ⟨_, u6_runs _ _ _ _ _ _ _ _ _ _ _ _ _ _ _ _ _ _ hn, fun _ => rfl⟩
  · cases hr
noncomputable def K_u6 : List (Nat × Summ) := (23, tplS u6_tpl u6_out) :: K_awake
theorem known_u6 : Known Tryz.prog (sums K_u6) L_push := known_cons known_push u6_ok
end Go.Proofs.YthgiaoidekdpfaaGreat
