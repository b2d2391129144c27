/-
  CUTTER: what Push does along a rectangle. Conditions: those that the path needs.
-/
import Derived.Test.YthgiaoidekdpfaaGreatDE
import Derived.Test.YthgiaoidekdpfaaGreatV2
set_option linter.all false
namespace Go.Proofs.YthgiaoidekdpfaaGreat
open Go.SX Go.RowKit
noncomputable def u1_tpl : Tpl := ⟨[.one (.ptr 0 0), .agg [.ci .i64 2, .ci .i64 0, .int .i64, .int .i64, .ci .i64 0, .int .i64, .int .i64, .ci .i64 0, .ci .i64 17, .ci .i64 0, .ci .i64 0, .ci .i64 0, .ci .i64 0, .cb false, .ci .i64 1000, .cb false, .ci .i64 1, .int .i64, .ci .i64 0, .ci .i64 0, .ci .i64 0, .cb false]], [(0, .blk 82 [(1, .ci .i64 0), (2, .ci .i64 0), (3, .ci .i64 0), (4, .ci .i64 0), (5, .ci .i64 0), (6, .ci .i64 0), (7, .ci .i64 0), (8, .ci .i64 0), (9, .ci .i64 0), (10, .ci .i64 0), (11, .ci .i64 0), (12, .ci .i64 0), (13, .ci .i64 0), (14, .cb false), (15, .ci .i64 0), (16, .cb false), (17, .ci .i64 0), (18, .ci .i64 0), (19, .ci .i64 0), (20, .ci .i64 0), (21, .ci .i64 0), (22, .cb false), (23, .ci .i64 0), (24, .ci .i64 0), (25, .ci .i64 0), (26, .ci .i64 0), (27, .ci .i64 0), (28, .ci .i64 0), (29, .ci .i64 0), (30, .ci .i64 0), (31, .ci .i64 0), (32, .ci .i64 0), (33, .ci .i64 0), (34, .ci .i64 0), (35, .ci .i64 0), (36, .cb false), (37, .ci .i64 0), (38, .cb false), (39, .ci .i64 0), (40, .ci .i64 0), (41, .ci .i64 0), (42, .ci .i64 0), (43, .ci .i64 0), (44, .cb false), (45, .ci .i64 0), (46, .ci .i64 0), (47, .cb false), (48, .nilsl), (49, .cb false), (50, .cb false), (51, .cb false), (52, .cb false), (53, .ci .i64 0), (54, .ci .i64 0), (55, .ci .i64 0), (56, .nilsl), (57, .ci .i64 0)])], 58⟩
noncomputable def u1_s0 (x : Int) (y : Int) (u : Int) (v : Int) : Int :=
  IntKind.i64.wrap (flat_0 17 u v 0 - flat_0 17 x y 0)
noncomputable def u1_s1 (x : Int) (y : Int) (u : Int) (v : Int) : Int :=
  IntKind.i64.wrap (flat_1 17 u v 0 - flat_1 17 x y 0)
noncomputable def u1_needs (x : Int) (y : Int) (u : Int) (v : Int) (r : Int) : List Prop :=
  [(!vwithin_0 x y 0 || !vwithin_0 u v 0 || !(true && decide (r ≥ 0) && decide (r ≤ 32768))) = false,
   (!(flat_2 17 x y 0 == flat_2 17 u v 0 && decide (vinner_0 (u1_s0 x y u v) (u1_s1 x y u v) (u1_s0 x y u v) (u1_s1 x y u v) > 0) &&
   decide (vinner_0 (u1_s0 x y u v) (u1_s1 x y u v) (u1_s0 x y u v) (u1_s1 x y u v) ≥ IntKind.i64.wrap (r * r)))) =
   false]
set_option maxRecDepth 1000000 in
theorem u1_runs (x y u v r : Int) (hNeeds : ∀ pN ∈ (u1_needs x y u v r), pN) : Runs (runF (sums K_awake) L_push 23) (u1_tpl.args [.i x, .i y, .i u, .i v, .i r]) (u1_tpl.memo [.i x, .i y, .i u, .i v, .i r] []) u1_tpl.n (SV.tup [(false, [SC.nilsl]), (false, [SC.int IntKind.i64 (SI.c 0)])])
    ([(0,
     Obj.blk 82
     [(981, SC.int IntKind.i64 (SI.c 2)), (982, SC.int IntKind.i64 (SI.c 0)), (983, SC.int IntKind.i64 (SI.v x)), (984, SC.int IntKind.i64 (SI.v y)), (985, SC.int IntKind.i64 (SI.c 0)),
     (986, SC.int IntKind.i64 (SI.v u)), (987, SC.int IntKind.i64 (SI.v v)), (988, SC.int IntKind.i64 (SI.c 0)), (989, SC.int IntKind.i64 (SI.c 17)), (990, SC.int IntKind.i64 (SI.c 0)),
     (991, SC.int IntKind.i64 (SI.c 0)), (992, SC.int IntKind.i64 (SI.c 0)), (993, SC.int IntKind.i64 (SI.c 0)), (994, SC.bool (SB.c false)), (995, SC.int IntKind.i64 (SI.c 1000)),
     (996, SC.bool (SB.c false)), (997, SC.int IntKind.i64 (SI.c 1)), (998, SC.int IntKind.i64 (SI.v r)), (999, SC.int IntKind.i64 (SI.c 0)), (1000, SC.int IntKind.i64 (SI.c 0)),
     (1001, SC.int IntKind.i64 (SI.c 0)), (1002, SC.bool (SB.c false)), (1003, SC.int IntKind.i64 (SI.c 0)), (1004, SC.int IntKind.i64 (SI.c 0)), (1005, SC.int IntKind.i64 (SI.c 0)),
     (1006, SC.int IntKind.i64 (SI.c 0)), (1007, SC.int IntKind.i64 (SI.c 0)), (1008, SC.int IntKind.i64 (SI.c 0)), (1009, SC.int IntKind.i64 (SI.c 0)), (1010, SC.int IntKind.i64 (SI.c 0)),
     (1011, SC.int IntKind.i64 (SI.c 0)), (1012, SC.int IntKind.i64 (SI.c 0)), (1013, SC.int IntKind.i64 (SI.c 0)), (1014, SC.int IntKind.i64 (SI.c 0)), (1015, SC.int IntKind.i64 (SI.c 0)),
     (1016, SC.bool (SB.c false)), (1017, SC.int IntKind.i64 (SI.c 0)), (1018, SC.bool (SB.c false)), (1019, SC.int IntKind.i64 (SI.c 0)), (1020, SC.int IntKind.i64 (SI.c 0)),
     (1021, SC.int IntKind.i64 (SI.c 0)), (1022, SC.int IntKind.i64 (SI.c 0)), (1023, SC.int IntKind.i64 (SI.c 0)), (1024, SC.bool (SB.c false)), (1025, SC.int IntKind.i64 (SI.c 0)),
     (1026, SC.int IntKind.i64 (SI.c 0)), (1027, SC.bool (SB.c false)), (1028, SC.nilsl), (977, SC.bool (SB.c true)), (50, SC.bool (SB.c false)), (594, SC.bool (SB.c false)),
     (603, SC.bool (SB.c true)), (607, SC.int IntKind.i64 (SI.v u)), (608, SC.int IntKind.i64 (SI.v v)), (609, SC.int IntKind.i64 (SI.c 0)), (1107, SC.nilsl), (1036, SC.int IntKind.i64 (SI.c 0))])]) :=
  Runs.of1 (ps := (u1_needs x y u v r)) (by kernel_rfl) hNeeds
noncomputable def u1_out : List Pm → Lss → Option CRes
  | [.i x, .i y, .i u, .i v, .i r], [] => some ⟨SV.tup [(false, [SC.nilsl]), (false, [SC.int IntKind.i64 (SI.c 0)])],
    [(0,
     Obj.blk 82
     [(981, SC.int IntKind.i64 (SI.c 2)), (982, SC.int IntKind.i64 (SI.c 0)), (983, SC.int IntKind.i64 (SI.v x)), (984, SC.int IntKind.i64 (SI.v y)), (985, SC.int IntKind.i64 (SI.c 0)),
     (986, SC.int IntKind.i64 (SI.v u)), (987, SC.int IntKind.i64 (SI.v v)), (988, SC.int IntKind.i64 (SI.c 0)), (989, SC.int IntKind.i64 (SI.c 17)), (990, SC.int IntKind.i64 (SI.c 0)),
     (991, SC.int IntKind.i64 (SI.c 0)), (992, SC.int IntKind.i64 (SI.c 0)), (993, SC.int IntKind.i64 (SI.c 0)), (994, SC.bool (SB.c false)), (995, SC.int IntKind.i64 (SI.c 1000)),
     (996, SC.bool (SB.c false)), (997, SC.int IntKind.i64 (SI.c 1)), (998, SC.int IntKind.i64 (SI.v r)), (999, SC.int IntKind.i64 (SI.c 0)), (1000, SC.int IntKind.i64 (SI.c 0)),
     (1001, SC.int IntKind.i64 (SI.c 0)), (1002, SC.bool (SB.c false)), (1003, SC.int IntKind.i64 (SI.c 0)), (1004, SC.int IntKind.i64 (SI.c 0)), (1005, SC.int IntKind.i64 (SI.c 0)),
     (1006, SC.int IntKind.i64 (SI.c 0)), (1007, SC.int IntKind.i64 (SI.c 0)), (1008, SC.int IntKind.i64 (SI.c 0)), (1009, SC.int IntKind.i64 (SI.c 0)), (1010, SC.int IntKind.i64 (SI.c 0)),
     (1011, SC.int IntKind.i64 (SI.c 0)), (1012, SC.int IntKind.i64 (SI.c 0)), (1013, SC.int IntKind.i64 (SI.c 0)), (1014, SC.int IntKind.i64 (SI.c 0)), (1015, SC.int IntKind.i64 (SI.c 0)),
     (1016, SC.bool (SB.c false)), (1017, SC.int IntKind.i64 (SI.c 0)), (1018, SC.bool (SB.c false)), (1019, SC.int IntKind.i64 (SI.c 0)), (1020, SC.int IntKind.i64 (SI.c 0)),
     (1021, SC.int IntKind.i64 (SI.c 0)), (1022, SC.int IntKind.i64 (SI.c 0)), (1023, SC.int IntKind.i64 (SI.c 0)), (1024, SC.bool (SB.c false)), (1025, SC.int IntKind.i64 (SI.c 0)),
     (1026, SC.int IntKind.i64 (SI.c 0)), (1027, SC.bool (SB.c false)), (1028, SC.nilsl), (977, SC.bool (SB.c true)), (50, SC.bool (SB.c false)), (594, SC.bool (SB.c false)),
     (603, SC.bool (SB.c true)), (607, SC.int IntKind.i64 (SI.v u)), (608, SC.int IntKind.i64 (SI.v v)), (609, SC.int IntKind.i64 (SI.c 0)), (1107, SC.nilsl), (1036, SC.int IntKind.i64 (SI.c 0))])],
    (u1_needs x y u v r), [], 1122⟩
  | _, _ => none
theorem u1_ok : FOk Tryz.prog 23 (tplS u1_tpl u1_out) := by
  refine tplS_ok (runF_ok known_push 23) fun ps ls r hr hn _ => ?_
  unfold u1_out at hr
  split at hr
  · cases hr; exact ⟨_, u1_runs _ _ _ _ _ hn, fun _ => rfl⟩
  · cases hr
noncomputable def K_u1 : List (Nat × Summ) := (23, tplS u1_tpl u1_out) :: K_awake
theorem known_u1 : Known Tryz.prog (sums K_u1) L_push := known_cons known_push u1_ok
noncomputable def u2_tpl : Tpl := ⟨[.one (.ptr 0 0), .agg [.ci .i64 2, .ci .i64 0, .int .i64, .int .i64, .ci .i64 0, .int .i64, .int .i64, .ci .i64 0, .ci .i64 17, .ci .i64 0, .ci .i64 0, .ci .i64 0, .ci .i64 0, .cb false, .ci .i64 1000, .cb false, .ci .i64 1, .int .i64, .ci .i64 0, .ci .i64 0, .ci .i64 0, .cb false]], [(0, .blk 82 [(1, .ci .i64 2), (2, .ci .i64 0), (3, .int .i64), (4, .int .i64), (5, .ci .i64 0), (6, .int .i64), (7, .int .i64), (8, .ci .i64 0), (9, .ci .i64 17), (10, .ci .i64 0), (11, .ci .i64 0), (12, .ci .i64 0), (13, .ci .i64 0), (14, .cb false), (15, .ci .i64 1000), (16, .cb false), (17, .ci .i64 1), (18, .int .i64), (19, .ci .i64 0), (20, .ci .i64 0), (21, .ci .i64 0), (22, .cb false), (23, .ci .i64 0), (24, .ci .i64 0), (25, .ci .i64 0), (26, .ci .i64 0), (27, .ci .i64 0), (28, .ci .i64 0), (29, .ci .i64 0), (30, .ci .i64 0), (31, .ci .i64 0), (32, .ci .i64 0), (33, .ci .i64 0), (34, .ci .i64 0), (35, .ci .i64 0), (36, .cb false), (37, .ci .i64 0), (38, .cb false), (39, .ci .i64 0), (40, .ci .i64 0), (41, .ci .i64 0), (42, .ci .i64 0), (43, .ci .i64 0), (44, .cb false), (45, .ci .i64 0), (46, .ci .i64 0), (47, .cb false), (48, .nilsl), (49, .cb true), (50, .cb false), (51, .cb false), (52, .cb true), (53, .int .i64), (54, .int .i64), (55, .ci .i64 0), (56, .nilsl), (57, .ci .i64 0)])], 58⟩
noncomputable def u2_0 (x : Int) (y : Int) (u : Int) (v : Int) (lr : Int) : Int :=
  oends_0 (flat_0 17 x y 0) (flat_1 17 x y 0) (flat_0 17 u v 0) (flat_1 17 u v 0) 0 0 0 (IntKind.i64.wrap (1 * lr))
noncomputable def u2_1 (x : Int) (y : Int) (u : Int) (v : Int) (lr : Int) : Int :=
  oends_1 (flat_0 17 x y 0) (flat_1 17 x y 0) (flat_0 17 u v 0) (flat_1 17 u v 0) 0 0 0 (IntKind.i64.wrap (1 * lr))
noncomputable def u2_2 (lx : Int) (ly : Int) : Int :=
  solid_0 17 (flat_0 17 lx ly 0) (flat_1 17 lx ly 0) (flat_2 17 lx ly 0)
noncomputable def u2_3 (lx : Int) (ly : Int) : Int :=
  solid_1 17 (flat_0 17 lx ly 0) (flat_1 17 lx ly 0) (flat_2 17 lx ly 0)
noncomputable def u2_4 (lx : Int) (ly : Int) : Int :=
  solid_2 17 (flat_0 17 lx ly 0) (flat_1 17 lx ly 0) (flat_2 17 lx ly 0)
noncomputable def u2_5 (x : Int) (y : Int) (u : Int) (v : Int) (lx : Int) (ly : Int) (lr : Int) : Int :=
  solid_0 17 (oends_0 (flat_0 17 x y 0) (flat_1 17 x y 0) (flat_0 17 u v 0) (flat_1 17 u v 0) 0 0 0 (IntKind.i64.wrap (1 * lr)))
   (oends_1 (flat_0 17 x y 0) (flat_1 17 x y 0) (flat_0 17 u v 0) (flat_1 17 u v 0) 0 0 0 (IntKind.i64.wrap (1 * lr))) (flat_2 17 lx ly 0)
noncomputable def u2_6 (x : Int) (y : Int) (u : Int) (v : Int) (lx : Int) (ly : Int) (lr : Int) : Int :=
  solid_1 17 (oends_0 (flat_0 17 x y 0) (flat_1 17 x y 0) (flat_0 17 u v 0) (flat_1 17 u v 0) 0 0 0 (IntKind.i64.wrap (1 * lr)))
   (oends_1 (flat_0 17 x y 0) (flat_1 17 x y 0) (flat_0 17 u v 0) (flat_1 17 u v 0) 0 0 0 (IntKind.i64.wrap (1 * lr))) (flat_2 17 lx ly 0)
noncomputable def u2_7 (x : Int) (y : Int) (u : Int) (v : Int) (lx : Int) (ly : Int) (lr : Int) : Int :=
  solid_2 17 (oends_0 (flat_0 17 x y 0) (flat_1 17 x y 0) (flat_0 17 u v 0) (flat_1 17 u v 0) 0 0 0 (IntKind.i64.wrap (1 * lr)))
   (oends_1 (flat_0 17 x y 0) (flat_1 17 x y 0) (flat_0 17 u v 0) (flat_1 17 u v 0) 0 0 0 (IntKind.i64.wrap (1 * lr))) (flat_2 17 lx ly 0)
noncomputable def u2_needs (x : Int) (y : Int) (u : Int) (v : Int) (r : Int) (lr : Int) (q0 : Int) (q1 : Int) : List Prop :=
  [(!vwithin_0 x y 0 || !vwithin_0 u v 0 || !(true && decide (r ≥ 0) && decide (r ≤ 32768))) = false, (!(x == q0 && y == q1)) = false, (r != lr) = false,
   (!!(flat_0 17 x y 0 == flat_0 17 u v 0 && flat_1 17 x y 0 == flat_1 17 u v 0)) = false,
   (oends_4 (flat_0 17 x y 0) (flat_1 17 x y 0) (flat_0 17 u v 0) (flat_1 17 u v 0) 0 0 0 (IntKind.i64.wrap (1 * lr)) != 0) = false]
set_option maxRecDepth 1000000 in
theorem u2_runs (x y u v r lx ly lu lv lr q0 q1 : Int) (hNeeds : ∀ pN ∈ (u2_needs x y u v r lr q0 q1), pN) : Runs (runF (sums K_u1) L_push 23) (u2_tpl.args [.i x, .i y, .i u, .i v, .i r, .i lx, .i ly, .i lu, .i lv, .i lr, .i q0, .i q1]) (u2_tpl.memo [.i x, .i y, .i u, .i v, .i r, .i lx, .i ly, .i lu, .i lv, .i lr, .i q0, .i q1] []) u2_tpl.n (SV.tup [(false, [SC.wh 13420]), (false, [SC.int IntKind.i64 (SI.c 0)])])
    ([(0,
     Obj.blk 82
     [(1, SC.int IntKind.i64 (SI.c 2)), (2, SC.int IntKind.i64 (SI.c 0)), (3, SC.int IntKind.i64 (SI.v lx)), (4, SC.int IntKind.i64 (SI.v ly)), (5, SC.int IntKind.i64 (SI.c 0)),
     (6, SC.int IntKind.i64 (SI.v lu)), (7, SC.int IntKind.i64 (SI.v lv)), (8, SC.int IntKind.i64 (SI.c 0)), (9, SC.int IntKind.i64 (SI.c 17)), (10, SC.int IntKind.i64 (SI.c 0)),
     (11, SC.int IntKind.i64 (SI.c 0)), (12, SC.int IntKind.i64 (SI.c 0)), (13, SC.int IntKind.i64 (SI.c 0)), (14, SC.bool (SB.c false)), (15, SC.int IntKind.i64 (SI.c 1000)),
     (16, SC.bool (SB.c false)), (17, SC.int IntKind.i64 (SI.c 1)), (18, SC.int IntKind.i64 (SI.v lr)), (19, SC.int IntKind.i64 (SI.c 0)), (20, SC.int IntKind.i64 (SI.c 0)),
     (21, SC.int IntKind.i64 (SI.c 0)), (22, SC.bool (SB.c false)), (13518, SC.int IntKind.i64 (SI.c 2)), (13519, SC.int IntKind.i64 (SI.c 0)), (13520, SC.int IntKind.i64 (SI.v x)),
     (13521, SC.int IntKind.i64 (SI.v y)), (13522, SC.int IntKind.i64 (SI.c 0)), (13523, SC.int IntKind.i64 (SI.v u)), (13524, SC.int IntKind.i64 (SI.v v)), (13525, SC.int IntKind.i64 (SI.c 0)),
     (13526, SC.int IntKind.i64 (SI.c 17)), (13527, SC.int IntKind.i64 (SI.c 0)), (13528, SC.int IntKind.i64 (SI.c 0)), (13529, SC.int IntKind.i64 (SI.c 0)), (13530, SC.int IntKind.i64 (SI.c 0)),
     (13531, SC.bool (SB.c false)), (13532, SC.int IntKind.i64 (SI.c 1000)), (13533, SC.bool (SB.c false)), (13534, SC.int IntKind.i64 (SI.c 1)), (13535, SC.int IntKind.i64 (SI.v r)),
     (13536, SC.int IntKind.i64 (SI.c 0)), (13537, SC.int IntKind.i64 (SI.c 0)), (13538, SC.int IntKind.i64 (SI.c 0)), (13539, SC.bool (SB.c false)),
     (13433, SC.int IntKind.i64 (SI.v (u2_0 x y u v lr))), (13434, SC.int IntKind.i64 (SI.v (u2_1 x y u v lr))), (47, SC.bool (SB.c false)), (13510, SC.nilsl), (49, SC.bool (SB.c true)),
     (50, SC.bool (SB.c false)), (601, SC.bool (SB.c false)), (610, SC.bool (SB.c true)), (614, SC.int IntKind.i64 (SI.v u)), (615, SC.int IntKind.i64 (SI.v v)), (616, SC.int IntKind.i64 (SI.c 0)),
     (13622, SC.nilsl), (13549, SC.int IntKind.i64 (SI.c 0))]),
    (13420,
     Obj.row false 30 22
     (RowC.lit 13422
     [[SC.int IntKind.i64 (SI.c 2), SC.int IntKind.i64 (SI.c 0), SC.int IntKind.i64 (SI.v (u2_2 lx ly)), SC.int IntKind.i64 (SI.v (u2_3 lx ly)), SC.int IntKind.i64 (SI.v (u2_4 lx ly)),
     SC.int IntKind.i64 (SI.v (u2_5 x y u v lx ly lr)), SC.int IntKind.i64 (SI.v (u2_6 x y u v lx ly lr)), SC.int IntKind.i64 (SI.v (u2_7 x y u v lx ly lr)), SC.int IntKind.i64 (SI.c 0),
     SC.int IntKind.i64 (SI.c 0), SC.int IntKind.i64 (SI.c 0), SC.int IntKind.i64 (SI.c 0), SC.int IntKind.i64 (SI.c 0), SC.bool (SB.c false), SC.int IntKind.i64 (SI.c 1000),
     SC.bool (SB.c false), SC.int IntKind.i64 (SI.c 0), SC.int IntKind.i64 (SI.c 0), SC.int IntKind.i64 (SI.c 0), SC.int IntKind.i64 (SI.c 0), SC.int IntKind.i64 (SI.c 0),
     SC.bool (SB.c false)]]))]) :=
  Runs.of1 (ps := (u2_needs x y u v r lr q0 q1)) (by kernel_rfl) hNeeds
noncomputable def u2_out : List Pm → Lss → Option CRes
  | [.i x, .i y, .i u, .i v, .i r, .i lx, .i ly, .i lu, .i lv, .i lr, .i q0, .i q1], [] => some ⟨SV.tup [(false, [SC.wh 13420]), (false, [SC.int IntKind.i64 (SI.c 0)])],
    [(0,
     Obj.blk 82
     [(1, SC.int IntKind.i64 (SI.c 2)), (2, SC.int IntKind.i64 (SI.c 0)), (3, SC.int IntKind.i64 (SI.v lx)), (4, SC.int IntKind.i64 (SI.v ly)), (5, SC.int IntKind.i64 (SI.c 0)),
     (6, SC.int IntKind.i64 (SI.v lu)), (7, SC.int IntKind.i64 (SI.v lv)), (8, SC.int IntKind.i64 (SI.c 0)), (9, SC.int IntKind.i64 (SI.c 17)), (10, SC.int IntKind.i64 (SI.c 0)),
     (11, SC.int IntKind.i64 (SI.c 0)), (12, SC.int IntKind.i64 (SI.c 0)), (13, SC.int IntKind.i64 (SI.c 0)), (14, SC.bool (SB.c false)), (15, SC.int IntKind.i64 (SI.c 1000)),
     (16, SC.bool (SB.c false)), (17, SC.int IntKind.i64 (SI.c 1)), (18, SC.int IntKind.i64 (SI.v lr)), (19, SC.int IntKind.i64 (SI.c 0)), (20, SC.int IntKind.i64 (SI.c 0)),
     (21, SC.int IntKind.i64 (SI.c 0)), (22, SC.bool (SB.c false)), (13518, SC.int IntKind.i64 (SI.c 2)), (13519, SC.int IntKind.i64 (SI.c 0)), (13520, SC.int IntKind.i64 (SI.v x)),
     (13521, SC.int IntKind.i64 (SI.v y)), (13522, SC.int IntKind.i64 (SI.c 0)), (13523, SC.int IntKind.i64 (SI.v u)), (13524, SC.int IntKind.i64 (SI.v v)), (13525, SC.int IntKind.i64 (SI.c 0)),
     (13526, SC.int IntKind.i64 (SI.c 17)), (13527, SC.int IntKind.i64 (SI.c 0)), (13528, SC.int IntKind.i64 (SI.c 0)), (13529, SC.int IntKind.i64 (SI.c 0)), (13530, SC.int IntKind.i64 (SI.c 0)),
     (13531, SC.bool (SB.c false)), (13532, SC.int IntKind.i64 (SI.c 1000)), (13533, SC.bool (SB.c false)), (13534, SC.int IntKind.i64 (SI.c 1)), (13535, SC.int IntKind.i64 (SI.v r)),
     (13536, SC.int IntKind.i64 (SI.c 0)), (13537, SC.int IntKind.i64 (SI.c 0)), (13538, SC.int IntKind.i64 (SI.c 0)), (13539, SC.bool (SB.c false)),
     (13433, SC.int IntKind.i64 (SI.v (u2_0 x y u v lr))), (13434, SC.int IntKind.i64 (SI.v (u2_1 x y u v lr))), (47, SC.bool (SB.c false)), (13510, SC.nilsl), (49, SC.bool (SB.c true)),
     (50, SC.bool (SB.c false)), (601, SC.bool (SB.c false)), (610, SC.bool (SB.c true)), (614, SC.int IntKind.i64 (SI.v u)), (615, SC.int IntKind.i64 (SI.v v)), (616, SC.int IntKind.i64 (SI.c 0)),
     (13622, SC.nilsl), (13549, SC.int IntKind.i64 (SI.c 0))]),
    (13420,
     Obj.row false 30 22
     (RowC.lit 13422
     [[SC.int IntKind.i64 (SI.c 2), SC.int IntKind.i64 (SI.c 0), SC.int IntKind.i64 (SI.v (u2_2 lx ly)), SC.int IntKind.i64 (SI.v (u2_3 lx ly)), SC.int IntKind.i64 (SI.v (u2_4 lx ly)),
     SC.int IntKind.i64 (SI.v (u2_5 x y u v lx ly lr)), SC.int IntKind.i64 (SI.v (u2_6 x y u v lx ly lr)), SC.int IntKind.i64 (SI.v (u2_7 x y u v lx ly lr)), SC.int IntKind.i64 (SI.c 0),
     SC.int IntKind.i64 (SI.c 0), SC.int IntKind.i64 (SI.c 0), SC.int IntKind.i64 (SI.c 0), SC.int IntKind.i64 (SI.c 0), SC.bool (SB.c false), SC.int IntKind.i64 (SI.c 1000),
     SC.bool (SB.c false), SC.int IntKind.i64 (SI.c 0), SC.int IntKind.i64 (SI.c 0), SC.int IntKind.i64 (SI.c 0), SC.int IntKind.i64 (SI.c 0), SC.int IntKind.i64 (SI.c 0),
     SC.bool (SB.c false)]]))],
    (u2_needs x y u v r lr q0 q1), [], 13637⟩
  | _, _ => none
theorem u2_ok : FOk Tryz.prog 23 (tplS u2_tpl u2_out) := by
  refine tplS_ok (runF_ok known_u1 23) fun ps ls r hr hn _ => ?_
  unfold u2_out at hr
  split at hr
  · cases hr; exact ⟨_, u2_runs _ _ _ _ _ _ _ _ _ _ _ _ hn, fun _ => rfl⟩
  · cases hr
noncomputable def K_u2 : List (Nat × Summ) := (23, orS (tplS u2_tpl u2_out) (tplS u1_tpl u1_out)) :: K_u1
theorem known_u2 : Known Tryz.prog (sums K_u2) L_push := known_cons known_u1 (orS_ok u2_ok u1_ok)
end Go.Proofs.YthgiaoidekdpfaaGreat
