/-
  Texts of one claim, laid together. Conditions: none.
-/
import Derived.Test.YtmbfbhimdkjkoaaM3e95db97
set_option linter.all false
namespace Go.Proofs.Ytmbfbhimdkjkoaa
open Go.SX Go.RowKit
noncomputable def within_tpl : Tpl := ⟨[.one (.ptr 0 0), .agg [.int .i64, .int .i64], .one (.bool)], [(0, .blk 66 [(3, .int .i64), (4, .int .i64), (5, .int .i64), (6, .int .i64), (7, .int .i64), (8, .int .i64), (9, .int .i64), (10, .int .i64), (11, .int .i64), (12, .int .i64), (13, .int .i64), (14, .int .i64), (15, .int .i64), (16, .bool), (17, .int .i64), (18, .bool), (19, .int .i64), (20, .int .i64), (21, .int .i64), (22, .int .i64), (23, .int .i64), (24, .bool), (25, .int .i64), (26, .int .i64), (27, .int .i64), (28, .int .i64), (29, .int .i64), (30, .int .i64), (31, .int .i64), (32, .int .i64), (33, .int .i64), (34, .int .i64), (35, .int .i64), (36, .int .i64), (37, .int .i64), (38, .bool), (39, .int .i64), (40, .bool), (41, .int .i64), (42, .int .i64), (43, .int .i64), (44, .int .i64), (45, .int .i64), (46, .bool), (47, .int .i64), (48, .int .i64), (49, .bool), (50, .wh 1), (51, .bool), (52, .bool), (53, .bool), (54, .bool), (55, .int .i64), (56, .int .i64), (57, .int .i64), (58, .wh 2), (59, .int .i64)]), (1, .row false 32 22 60 [.int .i64, .int .i64, .int .i64, .int .i64, .int .i64, .int .i64, .int .i64, .int .i64, .int .i64, .int .i64, .int .i64, .int .i64, .int .i64, .bool, .int .i64, .bool, .int .i64, .int .i64, .int .i64, .int .i64, .int .i64, .bool]), (2, .row false 32 22 61 [.int .i64, .int .i64, .int .i64, .int .i64, .int .i64, .int .i64, .int .i64, .int .i64, .int .i64, .int .i64, .int .i64, .int .i64, .int .i64, .bool, .int .i64, .bool, .int .i64, .int .i64, .int .i64, .int .i64, .int .i64, .bool])], 62⟩
noncomputable def within_sp : List GK := [.i, .i, .b, .v itemB, .v itemB, .i, .i, .b, .b, .b, .b, .b, .i, .i, .i, .i]
noncomputable def within_s0 (u : Int) (l : List GC) (y : List GC) : Int :=
  IntKind.i64.wrap (u - flat_0 (xi l 8) (xi y 9) (xi y 10) (xi y 11))
noncomputable def within_s1 (w : Int) (l : List GC) (y : List GC) : Int :=
  IntKind.i64.wrap (w - flat_1 (xi l 8) (xi y 9) (xi y 10) (xi y 11))
noncomputable def within_0 (u : Int) (w : Int) (tm : Bool) (l : List GC) (y : List GC) (a0 : Int) (a1 : Int) (tr : Bool) : Bool :=
  bif tr then
    bif
        !ainside_0 (xi y 2) (xi y 3) (xi y 4) (xi y 5) (xi y 6) (xi y 7) (xi y 8) (xi y 9) (xi y 10) (xi y 11) (xi y 12) (xb y 13) (IntKind.i64.wrap (a0 - flat_0 (xi l 8) (xi y 9) (xi y 10) (xi y 11)))
            (IntKind.i64.wrap (a1 - flat_1 (xi l 8) (xi y 9) (xi y 10) (xi y 11))) then
      false
    else
      !tm ||
        ainside_0 (solid_0 (xi l 8) a0 a1 (flat_2 (xi l 8) (xi y 2) (xi y 3) (xi y 4))) (solid_1 (xi l 8) a0 a1 (flat_2 (xi l 8) (xi y 2) (xi y 3) (xi y 4)))
          (solid_2 (xi l 8) a0 a1 (flat_2 (xi l 8) (xi y 2) (xi y 3) (xi y 4))) (xi y 5) (xi y 6) (xi y 7) (xi y 8) (xi y 9) (xi y 10) (xi y 11) (xi y 12) (xb y 13) (within_s0 u l y) (within_s1 w l y)
  else !tm || ainside_0 (xi y 2) (xi y 3) (xi y 4) (xi y 5) (xi y 6) (xi y 7) (xi y 8) (xi y 9) (xi y 10) (xi y 11) (xi y 12) (xb y 13) (within_s0 u l y) (within_s1 w l y)
set_option maxRecDepth 1000000 in
theorem within_runs (u w : Int) (tm : Bool) (l y : List GC) (a0 a1 : Int) (tr op cl en mo : Bool) (la0 la1 la2 er : Int) (C O : List (List Int)) : Runs (runF (sums K_line) L_cr 63) (within_tpl.args (spread within_sp [.i u, .i w, .b tm, .v l, .v y, .i a0, .i a1, .b tr, .b op, .b cl, .b en, .b mo, .i la0, .i la1, .i la2, .i er])) (within_tpl.memo (spread within_sp [.i u, .i w, .b tm, .v l, .v y, .i a0, .i a1, .b tr, .b op, .b cl, .b en, .b mo, .i la0, .i la1, .i la2, .i er]) [C, O]) within_tpl.n (SV.one (SC.bool (SB.v (within_0 u w tm l y a0 a1 tr))))
    ([(0,
      Obj.blk 66
        [(3, SC.int IntKind.i64 (SI.v (xi l 0))), (4, SC.int IntKind.i64 (SI.v (xi l 1))), (5, SC.int IntKind.i64 (SI.v (xi l 2))), (6, SC.int IntKind.i64 (SI.v (xi l 3))),
          (7, SC.int IntKind.i64 (SI.v (xi l 4))), (8, SC.int IntKind.i64 (SI.v (xi l 5))), (9, SC.int IntKind.i64 (SI.v (xi l 6))), (10, SC.int IntKind.i64 (SI.v (xi l 7))),
          (11, SC.int IntKind.i64 (SI.v (xi l 8))), (12, SC.int IntKind.i64 (SI.v (xi l 9))), (13, SC.int IntKind.i64 (SI.v (xi l 10))), (14, SC.int IntKind.i64 (SI.v (xi l 11))),
          (15, SC.int IntKind.i64 (SI.v (xi l 12))), (16, SC.bool (SB.v (xb l 13))), (17, SC.int IntKind.i64 (SI.v (xi l 14))), (18, SC.bool (SB.v (xb l 15))), (19, SC.int IntKind.i64 (SI.v (xi l 16))),
          (20, SC.int IntKind.i64 (SI.v (xi l 17))), (21, SC.int IntKind.i64 (SI.v (xi l 18))), (22, SC.int IntKind.i64 (SI.v (xi l 19))), (23, SC.int IntKind.i64 (SI.v (xi l 20))),
          (24, SC.bool (SB.v (xb l 21))), (25, SC.int IntKind.i64 (SI.v (xi y 0))), (26, SC.int IntKind.i64 (SI.v (xi y 1))), (27, SC.int IntKind.i64 (SI.v (xi y 2))),
          (28, SC.int IntKind.i64 (SI.v (xi y 3))), (29, SC.int IntKind.i64 (SI.v (xi y 4))), (30, SC.int IntKind.i64 (SI.v (xi y 5))), (31, SC.int IntKind.i64 (SI.v (xi y 6))),
          (32, SC.int IntKind.i64 (SI.v (xi y 7))), (33, SC.int IntKind.i64 (SI.v (xi y 8))), (34, SC.int IntKind.i64 (SI.v (xi y 9))), (35, SC.int IntKind.i64 (SI.v (xi y 10))),
          (36, SC.int IntKind.i64 (SI.v (xi y 11))), (37, SC.int IntKind.i64 (SI.v (xi y 12))), (38, SC.bool (SB.v (xb y 13))), (39, SC.int IntKind.i64 (SI.v (xi y 14))), (40, SC.bool (SB.v (xb y 15))),
          (41, SC.int IntKind.i64 (SI.v (xi y 16))), (42, SC.int IntKind.i64 (SI.v (xi y 17))), (43, SC.int IntKind.i64 (SI.v (xi y 18))), (44, SC.int IntKind.i64 (SI.v (xi y 19))),
          (45, SC.int IntKind.i64 (SI.v (xi y 20))), (46, SC.bool (SB.v (xb y 21))), (47, SC.int IntKind.i64 (SI.v a0)), (48, SC.int IntKind.i64 (SI.v a1)), (49, SC.bool (SB.v tr)), (50, SC.wh 1),
          (51, SC.bool (SB.v op)), (52, SC.bool (SB.v cl)), (53, SC.bool (SB.v en)), (54, SC.bool (SB.v mo)), (55, SC.int IntKind.i64 (SI.v la0)), (56, SC.int IntKind.i64 (SI.v la1)),
          (57, SC.int IntKind.i64 (SI.v la2)), (58, SC.wh 2), (59, SC.int IntKind.i64 (SI.v er))]),
    (1,
      Obj.row false 32 22
        (RowC.lst 60
          [CK.int IntKind.i64, CK.int IntKind.i64, CK.int IntKind.i64, CK.int IntKind.i64, CK.int IntKind.i64, CK.int IntKind.i64, CK.int IntKind.i64, CK.int IntKind.i64, CK.int IntKind.i64,
            CK.int IntKind.i64, CK.int IntKind.i64, CK.int IntKind.i64, CK.int IntKind.i64, CK.bool, CK.int IntKind.i64, CK.bool, CK.int IntKind.i64, CK.int IntKind.i64, CK.int IntKind.i64,
            CK.int IntKind.i64, CK.int IntKind.i64, CK.bool]
          C)),
    (2,
      Obj.row false 32 22
        (RowC.lst 61
          [CK.int IntKind.i64, CK.int IntKind.i64, CK.int IntKind.i64, CK.int IntKind.i64, CK.int IntKind.i64, CK.int IntKind.i64, CK.int IntKind.i64, CK.int IntKind.i64, CK.int IntKind.i64,
            CK.int IntKind.i64, CK.int IntKind.i64, CK.int IntKind.i64, CK.int IntKind.i64, CK.bool, CK.int IntKind.i64, CK.bool, CK.int IntKind.i64, CK.int IntKind.i64, CK.int IntKind.i64,
            CK.int IntKind.i64, CK.int IntKind.i64, CK.bool]
          O))]) :=
  Runs.of1 (ps := []) (by kernel_rfl) (by simp)
noncomputable def within_out : List Gm → Lss → Option CRes
  | [.i u, .i w, .b tm, .v l, .v y, .i a0, .i a1, .b tr, .b op, .b cl, .b en, .b mo, .i la0, .i la1, .i la2, .i er], [C, O] => some ⟨SV.one (SC.bool (SB.v (within_0 u w tm l y a0 a1 tr))),
    [(0,
      Obj.blk 66
        [(3, SC.int IntKind.i64 (SI.v (xi l 0))), (4, SC.int IntKind.i64 (SI.v (xi l 1))), (5, SC.int IntKind.i64 (SI.v (xi l 2))), (6, SC.int IntKind.i64 (SI.v (xi l 3))),
          (7, SC.int IntKind.i64 (SI.v (xi l 4))), (8, SC.int IntKind.i64 (SI.v (xi l 5))), (9, SC.int IntKind.i64 (SI.v (xi l 6))), (10, SC.int IntKind.i64 (SI.v (xi l 7))),
          (11, SC.int IntKind.i64 (SI.v (xi l 8))), (12, SC.int IntKind.i64 (SI.v (xi l 9))), (13, SC.int IntKind.i64 (SI.v (xi l 10))), (14, SC.int IntKind.i64 (SI.v (xi l 11))),
          (15, SC.int IntKind.i64 (SI.v (xi l 12))), (16, SC.bool (SB.v (xb l 13))), (17, SC.int IntKind.i64 (SI.v (xi l 14))), (18, SC.bool (SB.v (xb l 15))), (19, SC.int IntKind.i64 (SI.v (xi l 16))),
          (20, SC.int IntKind.i64 (SI.v (xi l 17))), (21, SC.int IntKind.i64 (SI.v (xi l 18))), (22, SC.int IntKind.i64 (SI.v (xi l 19))), (23, SC.int IntKind.i64 (SI.v (xi l 20))),
          (24, SC.bool (SB.v (xb l 21))), (25, SC.int IntKind.i64 (SI.v (xi y 0))), (26, SC.int IntKind.i64 (SI.v (xi y 1))), (27, SC.int IntKind.i64 (SI.v (xi y 2))),
          (28, SC.int IntKind.i64 (SI.v (xi y 3))), (29, SC.int IntKind.i64 (SI.v (xi y 4))), (30, SC.int IntKind.i64 (SI.v (xi y 5))), (31, SC.int IntKind.i64 (SI.v (xi y 6))),
          (32, SC.int IntKind.i64 (SI.v (xi y 7))), (33, SC.int IntKind.i64 (SI.v (xi y 8))), (34, SC.int IntKind.i64 (SI.v (xi y 9))), (35, SC.int IntKind.i64 (SI.v (xi y 10))),
          (36, SC.int IntKind.i64 (SI.v (xi y 11))), (37, SC.int IntKind.i64 (SI.v (xi y 12))), (38, SC.bool (SB.v (xb y 13))), (39, SC.int IntKind.i64 (SI.v (xi y 14))), (40, SC.bool (SB.v (xb y 15))),
          (41, SC.int IntKind.i64 (SI.v (xi y 16))), (42, SC.int IntKind.i64 (SI.v (xi y 17))), (43, SC.int IntKind.i64 (SI.v (xi y 18))), (44, SC.int IntKind.i64 (SI.v (xi y 19))),
          (45, SC.int IntKind.i64 (SI.v (xi y 20))), (46, SC.bool (SB.v (xb y 21))), (47, SC.int IntKind.i64 (SI.v a0)), (48, SC.int IntKind.i64 (SI.v a1)), (49, SC.bool (SB.v tr)), (50, SC.wh 1),
          (51, SC.bool (SB.v op)), (52, SC.bool (SB.v cl)), (53, SC.bool (SB.v en)), (54, SC.bool (SB.v mo)), (55, SC.int IntKind.i64 (SI.v la0)), (56, SC.int IntKind.i64 (SI.v la1)),
          (57, SC.int IntKind.i64 (SI.v la2)), (58, SC.wh 2), (59, SC.int IntKind.i64 (SI.v er))]),
    (1,
      Obj.row false 32 22
        (RowC.lst 60
          [CK.int IntKind.i64, CK.int IntKind.i64, CK.int IntKind.i64, CK.int IntKind.i64, CK.int IntKind.i64, CK.int IntKind.i64, CK.int IntKind.i64, CK.int IntKind.i64, CK.int IntKind.i64,
            CK.int IntKind.i64, CK.int IntKind.i64, CK.int IntKind.i64, CK.int IntKind.i64, CK.bool, CK.int IntKind.i64, CK.bool, CK.int IntKind.i64, CK.int IntKind.i64, CK.int IntKind.i64,
            CK.int IntKind.i64, CK.int IntKind.i64, CK.bool]
          C)),
    (2,
      Obj.row false 32 22
        (RowC.lst 61
          [CK.int IntKind.i64, CK.int IntKind.i64, CK.int IntKind.i64, CK.int IntKind.i64, CK.int IntKind.i64, CK.int IntKind.i64, CK.int IntKind.i64, CK.int IntKind.i64, CK.int IntKind.i64,
            CK.int IntKind.i64, CK.int IntKind.i64, CK.int IntKind.i64, CK.int IntKind.i64, CK.bool, CK.int IntKind.i64, CK.bool, CK.int IntKind.i64, CK.int IntKind.i64, CK.int IntKind.i64,
            CK.int IntKind.i64, CK.int IntKind.i64, CK.bool]
          O))],
    [], [], 2498⟩
  | _, _ => none
theorem within_ok : FOk Try.prog 63 (tplG within_sp within_tpl within_out) := by
  refine tplG_ok (runF_ok known_line 63) fun ps ls r hr hn _ => ?_
  unfold within_out at hr
  split at hr
  · cases hr; exact ⟨_, within_runs _ _ _ _ _ _ _ _ _ _ _ _ _ _ _ _ _ _, fun _ => rfl⟩
  · cases hr
noncomputable def K_within : List (Nat × Summ) := (63, tplG within_sp within_tpl within_out) :: K_line
theorem known_within : Known Try.prog (sums K_within) L_cr := known_cons known_line within_ok
noncomputable def shift_tpl : Tpl := ⟨[.one (.ptr 0 0), .agg [.int .i64, .int .i64], .one (.bool)], [(0, .blk 66 [(3, .int .i64), (4, .int .i64), (5, .int .i64), (6, .int .i64), (7, .int .i64), (8, .int .i64), (9, .int .i64), (10, .int .i64), (11, .int .i64), (12, .int .i64), (13, .int .i64), (14, .int .i64), (15, .int .i64), (16, .bool), (17, .int .i64), (18, .bool), (19, .int .i64), (20, .int .i64), (21, .int .i64), (22, .int .i64), (23, .int .i64), (24, .bool), (25, .int .i64), (26, .int .i64), (27, .int .i64), (28, .int .i64), (29, .int .i64), (30, .int .i64), (31, .int .i64), (32, .int .i64), (33, .int .i64), (34, .int .i64), (35, .int .i64), (36, .int .i64), (37, .int .i64), (38, .bool), (39, .int .i64), (40, .bool), (41, .int .i64), (42, .int .i64), (43, .int .i64), (44, .int .i64), (45, .int .i64), (46, .bool), (47, .int .i64), (48, .int .i64), (49, .bool), (50, .wh 1), (51, .bool), (52, .bool), (53, .bool), (54, .bool), (55, .int .i64), (56, .int .i64), (57, .int .i64), (58, .wh 2), (59, .int .i64)]), (1, .row false 32 22 60 [.int .i64, .int .i64, .int .i64, .int .i64, .int .i64, .int .i64, .int .i64, .int .i64, .int .i64, .int .i64, .int .i64, .int .i64, .int .i64, .bool, .int .i64, .bool, .int .i64, .int .i64, .int .i64, .int .i64, .int .i64, .bool]), (2, .row false 32 22 61 [.int .i64, .int .i64, .int .i64, .int .i64, .int .i64, .int .i64, .int .i64, .int .i64, .int .i64, .int .i64, .int .i64, .int .i64, .int .i64, .bool, .int .i64, .bool, .int .i64, .int .i64, .int .i64, .int .i64, .int .i64, .bool])], 62⟩
noncomputable def shift_sp : List GK := [.i, .i, .b, .v itemB, .v itemB, .i, .i, .b, .b, .b, .b, .b, .i, .i, .i, .i]
noncomputable def shift_s0 (u : Int) (w : Int) (l : List GC) (y : List GC) (a0 : Int) (a1 : Int) : Int :=
  vinner_0 (IntKind.i64.wrap (u - a0)) (IntKind.i64.wrap (w - a1)) (IntKind.i64.wrap (flat_0 (xi l 8) (xi y 5) (xi y 6) (xi y 7) - flat_0 (xi l 8) (xi y 2) (xi y 3) (xi y 4)))
    (IntKind.i64.wrap (flat_1 (xi l 8) (xi y 5) (xi y 6) (xi y 7) - flat_1 (xi l 8) (xi y 2) (xi y 3) (xi y 4)))
noncomputable def shift_0 (u : Int) (w : Int) (tm : Bool) (l : List GC) (y : List GC) (a0 : Int) (a1 : Int) (tr : Bool) : Int :=
  bif xi y 0 == 2 then bif (tm || tr) && decide (shift_s0 u w l y a0 a1 ≤ 0) then 16 else 0
  else
    bif (tm || tr) && !xb y 13 && !within_0 u w tm (nrm l) (nrm y) a0 a1 tr then 16
    else
      bif
          acheck_0 (xi y 0) (solid_0 (xi l 8) a0 a1 (flat_2 (xi l 8) (xi y 2) (xi y 3) (xi y 4))) (solid_1 (xi l 8) a0 a1 (flat_2 (xi l 8) (xi y 2) (xi y 3) (xi y 4)))
              (solid_2 (xi l 8) a0 a1 (flat_2 (xi l 8) (xi y 2) (xi y 3) (xi y 4))) (solid_0 (xi l 8) u w (flat_2 (xi l 8) (xi y 5) (xi y 6) (xi y 7)))
              (solid_1 (xi l 8) u w (flat_2 (xi l 8) (xi y 5) (xi y 6) (xi y 7))) (solid_2 (xi l 8) u w (flat_2 (xi l 8) (xi y 5) (xi y 6) (xi y 7))) (bif xi y 0 != 3 then 0 else xi y 8) (xi y 9)
              (xi y 10) (xi y 11) (xi y 12) (xb y 13 && !tm && !tr) !=
            0 then
        16
      else 0
noncomputable def shift_45 (u : Int) (w : Int) (tm : Bool) (l : List GC) (y : List GC) (a0 : Int) (a1 : Int) (tr : Bool) : Int :=
  bif xi y 0 == 2 then bif (tm || tr) && decide (shift_s0 u w l y a0 a1 ≤ 0) then a0 else u
  else
    bif (tm || tr) && !xb y 13 && !within_0 u w tm (nrm l) (nrm y) a0 a1 tr then a0
    else
      bif
          acheck_0 (xi y 0) (solid_0 (xi l 8) a0 a1 (flat_2 (xi l 8) (xi y 2) (xi y 3) (xi y 4))) (solid_1 (xi l 8) a0 a1 (flat_2 (xi l 8) (xi y 2) (xi y 3) (xi y 4)))
              (solid_2 (xi l 8) a0 a1 (flat_2 (xi l 8) (xi y 2) (xi y 3) (xi y 4))) (solid_0 (xi l 8) u w (flat_2 (xi l 8) (xi y 5) (xi y 6) (xi y 7)))
              (solid_1 (xi l 8) u w (flat_2 (xi l 8) (xi y 5) (xi y 6) (xi y 7))) (solid_2 (xi l 8) u w (flat_2 (xi l 8) (xi y 5) (xi y 6) (xi y 7))) (bif xi y 0 != 3 then 0 else xi y 8) (xi y 9)
              (xi y 10) (xi y 11) (xi y 12) (xb y 13 && !tm && !tr) !=
            0 then
        a0
      else u
noncomputable def shift_46 (u : Int) (w : Int) (tm : Bool) (l : List GC) (y : List GC) (a0 : Int) (a1 : Int) (tr : Bool) : Int :=
  bif xi y 0 == 2 then bif (tm || tr) && decide (shift_s0 u w l y a0 a1 ≤ 0) then a1 else w
  else
    bif (tm || tr) && !xb y 13 && !within_0 u w tm (nrm l) (nrm y) a0 a1 tr then a1
    else
      bif
          acheck_0 (xi y 0) (solid_0 (xi l 8) a0 a1 (flat_2 (xi l 8) (xi y 2) (xi y 3) (xi y 4))) (solid_1 (xi l 8) a0 a1 (flat_2 (xi l 8) (xi y 2) (xi y 3) (xi y 4)))
              (solid_2 (xi l 8) a0 a1 (flat_2 (xi l 8) (xi y 2) (xi y 3) (xi y 4))) (solid_0 (xi l 8) u w (flat_2 (xi l 8) (xi y 5) (xi y 6) (xi y 7)))
              (solid_1 (xi l 8) u w (flat_2 (xi l 8) (xi y 5) (xi y 6) (xi y 7))) (solid_2 (xi l 8) u w (flat_2 (xi l 8) (xi y 5) (xi y 6) (xi y 7))) (bif xi y 0 != 3 then 0 else xi y 8) (xi y 9)
              (xi y 10) (xi y 11) (xi y 12) (xb y 13 && !tm && !tr) !=
            0 then
        a1
      else w
noncomputable def shift_s1 (y : List GC) : Int :=
  bif xi y 0 != 3 then 0 else xi y 8
noncomputable def shift_47 (u : Int) (w : Int) (tm : Bool) (l : List GC) (y : List GC) (a0 : Int) (a1 : Int) (tr : Bool) (O : List (List Int)) : List (List Int) :=
  bif xi y 0 == 2 then
    bif (tm || tr) && decide (shift_s0 u w l y a0 a1 ≤ 0) then O else line_46 (nrm y) u w (flat_2 (xi l 8) (xi y 2) (xi y 3) (xi y 4)) (flat_2 (xi l 8) (xi y 5) (xi y 6) (xi y 7)) false (nrm l) a0 a1 O
  else
    bif (tm || tr) && !xb y 13 && !within_0 u w tm (nrm l) (nrm y) a0 a1 tr then O
    else
      bif
          acheck_0 (xi y 0) (solid_0 (xi l 8) a0 a1 (flat_2 (xi l 8) (xi y 2) (xi y 3) (xi y 4))) (solid_1 (xi l 8) a0 a1 (flat_2 (xi l 8) (xi y 2) (xi y 3) (xi y 4)))
              (solid_2 (xi l 8) a0 a1 (flat_2 (xi l 8) (xi y 2) (xi y 3) (xi y 4))) (solid_0 (xi l 8) u w (flat_2 (xi l 8) (xi y 5) (xi y 6) (xi y 7)))
              (solid_1 (xi l 8) u w (flat_2 (xi l 8) (xi y 5) (xi y 6) (xi y 7))) (solid_2 (xi l 8) u w (flat_2 (xi l 8) (xi y 5) (xi y 6) (xi y 7))) (shift_s1 y) (xi y 9) (xi y 10) (xi y 11) (xi y 12)
              (xb y 13 && !tm && !tr) !=
            0 then
        O
      else
        O ++
          [[xi y 0, xi y 1, solid_0 (xi l 8) a0 a1 (flat_2 (xi l 8) (xi y 2) (xi y 3) (xi y 4)), solid_1 (xi l 8) a0 a1 (flat_2 (xi l 8) (xi y 2) (xi y 3) (xi y 4)),
              solid_2 (xi l 8) a0 a1 (flat_2 (xi l 8) (xi y 2) (xi y 3) (xi y 4)), solid_0 (xi l 8) u w (flat_2 (xi l 8) (xi y 5) (xi y 6) (xi y 7)),
              solid_1 (xi l 8) u w (flat_2 (xi l 8) (xi y 5) (xi y 6) (xi y 7)), solid_2 (xi l 8) u w (flat_2 (xi l 8) (xi y 5) (xi y 6) (xi y 7)), shift_s1 y, xi y 9, xi y 10, xi y 11, xi y 12,
              bif xb y 13 && !tm && !tr then 1 else 0, xi y 14, bif xb y 15 then 1 else 0, 0, 0, xi y 18, xi y 19, xi y 20, bif xb y 21 then 1 else 0]]
noncomputable def shift_needs (u : Int) (w : Int) (tm : Bool) (l : List GC) (y : List GC) (a0 : Int) (a1 : Int) (tr : Bool) (O : List (List Int)) : List Prop :=
  [(xi y 0 == 2) = true → ((tm || tr) && decide (shift_s0 u w l y a0 a1 ≤ 0)) = false → O.length ≤ 1000000,
    (xi y 0 == 2) = false →
      ((tm || tr) && !xb y 13 && !within_0 u w tm (nrm l) (nrm y) a0 a1 tr) = false →
        (acheck_0 (xi y 0) (solid_0 (xi l 8) a0 a1 (flat_2 (xi l 8) (xi y 2) (xi y 3) (xi y 4))) (solid_1 (xi l 8) a0 a1 (flat_2 (xi l 8) (xi y 2) (xi y 3) (xi y 4)))
                (solid_2 (xi l 8) a0 a1 (flat_2 (xi l 8) (xi y 2) (xi y 3) (xi y 4))) (solid_0 (xi l 8) u w (flat_2 (xi l 8) (xi y 5) (xi y 6) (xi y 7)))
                (solid_1 (xi l 8) u w (flat_2 (xi l 8) (xi y 5) (xi y 6) (xi y 7))) (solid_2 (xi l 8) u w (flat_2 (xi l 8) (xi y 5) (xi y 6) (xi y 7))) (bif xi y 0 != 3 then 0 else xi y 8) (xi y 9)
                (xi y 10) (xi y 11) (xi y 12) (xb y 13 && !tm && !tr) !=
              0) =
            false →
          (O.length + 1) * 176 ≤ 140737488355328 ∧ O.length + 1 ≤ 9223372036854775807]
theorem shift_weak {u : Int} {w : Int} {tm : Bool} {l : List GC} {y : List GC} {a0 : Int} {a1 : Int} {tr : Bool} {O : List (List Int)} (hW : ∀ q ∈ ([O.length ≤ 1000000] : List Prop), q) : ∀ q ∈ (shift_needs u w tm l y a0 a1 tr O), q := by
  simp only [List.mem_cons, List.not_mem_nil, or_false, forall_eq_or_imp, forall_eq] at hW
  unfold shift_needs
  simp only [List.forall_mem_cons, List.not_mem_nil, false_implies, implies_true, and_true]
  exact ⟨fun _ _ => hW, fun _ _ _ => ⟨by omega, by omega⟩⟩
set_option maxRecDepth 1000000 in
theorem shift_runs (u w : Int) (tm : Bool) (l y : List GC) (a0 a1 : Int) (tr op cl en mo : Bool) (la0 la1 la2 er : Int) (C O : List (List Int)) (hNeeds : ∀ pN ∈ (shift_needs u w tm l y a0 a1 tr O), pN) : Runs (runF (sums K_within) L_cr 45) (shift_tpl.args (spread shift_sp [.i u, .i w, .b tm, .v l, .v y, .i a0, .i a1, .b tr, .b op, .b cl, .b en, .b mo, .i la0, .i la1, .i la2, .i er])) (shift_tpl.memo (spread shift_sp [.i u, .i w, .b tm, .v l, .v y, .i a0, .i a1, .b tr, .b op, .b cl, .b en, .b mo, .i la0, .i la1, .i la2, .i er]) [C, O]) shift_tpl.n (SV.one (SC.int IntKind.i64 (SI.v (shift_0 u w tm l y a0 a1 tr))))
    ([(0,
      Obj.blk 66
        [(3, SC.int IntKind.i64 (SI.v (xi l 0))), (4, SC.int IntKind.i64 (SI.v (xi l 1))), (5, SC.int IntKind.i64 (SI.v (xi l 2))), (6, SC.int IntKind.i64 (SI.v (xi l 3))),
          (7, SC.int IntKind.i64 (SI.v (xi l 4))), (8, SC.int IntKind.i64 (SI.v (xi l 5))), (9, SC.int IntKind.i64 (SI.v (xi l 6))), (10, SC.int IntKind.i64 (SI.v (xi l 7))),
          (11, SC.int IntKind.i64 (SI.v (xi l 8))), (12, SC.int IntKind.i64 (SI.v (xi l 9))), (13, SC.int IntKind.i64 (SI.v (xi l 10))), (14, SC.int IntKind.i64 (SI.v (xi l 11))),
          (15, SC.int IntKind.i64 (SI.v (xi l 12))), (16, SC.bool (SB.v (xb l 13))), (17, SC.int IntKind.i64 (SI.v (xi l 14))), (18, SC.bool (SB.v (xb l 15))), (19, SC.int IntKind.i64 (SI.v (xi l 16))),
          (20, SC.int IntKind.i64 (SI.v (xi l 17))), (21, SC.int IntKind.i64 (SI.v (xi l 18))), (22, SC.int IntKind.i64 (SI.v (xi l 19))), (23, SC.int IntKind.i64 (SI.v (xi l 20))),
          (24, SC.bool (SB.v (xb l 21))), (25, SC.int IntKind.i64 (SI.v (xi y 0))), (26, SC.int IntKind.i64 (SI.v (xi y 1))), (27, SC.int IntKind.i64 (SI.v (xi y 2))),
          (28, SC.int IntKind.i64 (SI.v (xi y 3))), (29, SC.int IntKind.i64 (SI.v (xi y 4))), (30, SC.int IntKind.i64 (SI.v (xi y 5))), (31, SC.int IntKind.i64 (SI.v (xi y 6))),
          (32, SC.int IntKind.i64 (SI.v (xi y 7))), (33, SC.int IntKind.i64 (SI.v (xi y 8))), (34, SC.int IntKind.i64 (SI.v (xi y 9))), (35, SC.int IntKind.i64 (SI.v (xi y 10))),
          (36, SC.int IntKind.i64 (SI.v (xi y 11))), (37, SC.int IntKind.i64 (SI.v (xi y 12))), (38, SC.bool (SB.v (xb y 13))), (39, SC.int IntKind.i64 (SI.v (xi y 14))), (40, SC.bool (SB.v (xb y 15))),
          (41, SC.int IntKind.i64 (SI.v (xi y 16))), (42, SC.int IntKind.i64 (SI.v (xi y 17))), (43, SC.int IntKind.i64 (SI.v (xi y 18))), (44, SC.int IntKind.i64 (SI.v (xi y 19))),
          (45, SC.int IntKind.i64 (SI.v (xi y 20))), (46, SC.bool (SB.v (xb y 21))), (5758, SC.int IntKind.i64 (SI.v (shift_45 u w tm l y a0 a1 tr))),
          (5759, SC.int IntKind.i64 (SI.v (shift_46 u w tm l y a0 a1 tr))), (49, SC.bool (SB.v tr)), (50, SC.wh 1), (51, SC.bool (SB.v op)), (52, SC.bool (SB.v cl)), (53, SC.bool (SB.v en)),
          (54, SC.bool (SB.v mo)), (55, SC.int IntKind.i64 (SI.v la0)), (56, SC.int IntKind.i64 (SI.v la1)), (57, SC.int IntKind.i64 (SI.v la2)), (5734, SC.wh 5732),
          (59, SC.int IntKind.i64 (SI.v er))]),
    (5732,
      Obj.row false 32 22
        (RowC.lst 5757
          [CK.int IntKind.i64, CK.int IntKind.i64, CK.int IntKind.i64, CK.int IntKind.i64, CK.int IntKind.i64, CK.int IntKind.i64, CK.int IntKind.i64, CK.int IntKind.i64, CK.int IntKind.i64,
            CK.int IntKind.i64, CK.int IntKind.i64, CK.int IntKind.i64, CK.int IntKind.i64, CK.bool, CK.int IntKind.i64, CK.bool, CK.int IntKind.i64, CK.int IntKind.i64, CK.int IntKind.i64,
            CK.int IntKind.i64, CK.int IntKind.i64, CK.bool]
          (shift_47 u w tm l y a0 a1 tr O))),
    (1,
      Obj.row false 32 22
        (RowC.lst 60
          [CK.int IntKind.i64, CK.int IntKind.i64, CK.int IntKind.i64, CK.int IntKind.i64, CK.int IntKind.i64, CK.int IntKind.i64, CK.int IntKind.i64, CK.int IntKind.i64, CK.int IntKind.i64,
            CK.int IntKind.i64, CK.int IntKind.i64, CK.int IntKind.i64, CK.int IntKind.i64, CK.bool, CK.int IntKind.i64, CK.bool, CK.int IntKind.i64, CK.int IntKind.i64, CK.int IntKind.i64,
            CK.int IntKind.i64, CK.int IntKind.i64, CK.bool]
          C))]) :=
  Runs.of1 (ps := (shift_needs u w tm l y a0 a1 tr O)) (by kernel_rfl) hNeeds
noncomputable def shift_out : List Gm → Lss → Option CRes
  | [.i u, .i w, .b tm, .v l, .v y, .i a0, .i a1, .b tr, .b op, .b cl, .b en, .b mo, .i la0, .i la1, .i la2, .i er], [C, O] => some ⟨SV.one (SC.int IntKind.i64 (SI.v (shift_0 u w tm l y a0 a1 tr))),
    [(0,
      Obj.blk 66
        [(3, SC.int IntKind.i64 (SI.v (xi l 0))), (4, SC.int IntKind.i64 (SI.v (xi l 1))), (5, SC.int IntKind.i64 (SI.v (xi l 2))), (6, SC.int IntKind.i64 (SI.v (xi l 3))),
          (7, SC.int IntKind.i64 (SI.v (xi l 4))), (8, SC.int IntKind.i64 (SI.v (xi l 5))), (9, SC.int IntKind.i64 (SI.v (xi l 6))), (10, SC.int IntKind.i64 (SI.v (xi l 7))),
          (11, SC.int IntKind.i64 (SI.v (xi l 8))), (12, SC.int IntKind.i64 (SI.v (xi l 9))), (13, SC.int IntKind.i64 (SI.v (xi l 10))), (14, SC.int IntKind.i64 (SI.v (xi l 11))),
          (15, SC.int IntKind.i64 (SI.v (xi l 12))), (16, SC.bool (SB.v (xb l 13))), (17, SC.int IntKind.i64 (SI.v (xi l 14))), (18, SC.bool (SB.v (xb l 15))), (19, SC.int IntKind.i64 (SI.v (xi l 16))),
          (20, SC.int IntKind.i64 (SI.v (xi l 17))), (21, SC.int IntKind.i64 (SI.v (xi l 18))), (22, SC.int IntKind.i64 (SI.v (xi l 19))), (23, SC.int IntKind.i64 (SI.v (xi l 20))),
          (24, SC.bool (SB.v (xb l 21))), (25, SC.int IntKind.i64 (SI.v (xi y 0))), (26, SC.int IntKind.i64 (SI.v (xi y 1))), (27, SC.int IntKind.i64 (SI.v (xi y 2))),
          (28, SC.int IntKind.i64 (SI.v (xi y 3))), (29, SC.int IntKind.i64 (SI.v (xi y 4))), (30, SC.int IntKind.i64 (SI.v (xi y 5))), (31, SC.int IntKind.i64 (SI.v (xi y 6))),
          (32, SC.int IntKind.i64 (SI.v (xi y 7))), (33, SC.int IntKind.i64 (SI.v (xi y 8))), (34, SC.int IntKind.i64 (SI.v (xi y 9))), (35, SC.int IntKind.i64 (SI.v (xi y 10))),
          (36, SC.int IntKind.i64 (SI.v (xi y 11))), (37, SC.int IntKind.i64 (SI.v (xi y 12))), (38, SC.bool (SB.v (xb y 13))), (39, SC.int IntKind.i64 (SI.v (xi y 14))), (40, SC.bool (SB.v (xb y 15))),
          (41, SC.int IntKind.i64 (SI.v (xi y 16))), (42, SC.int IntKind.i64 (SI.v (xi y 17))), (43, SC.int IntKind.i64 (SI.v (xi y 18))), (44, SC.int IntKind.i64 (SI.v (xi y 19))),
          (45, SC.int IntKind.i64 (SI.v (xi y 20))), (46, SC.bool (SB.v (xb y 21))), (5758, SC.int IntKind.i64 (SI.v (shift_45 u w tm l y a0 a1 tr))),
          (5759, SC.int IntKind.i64 (SI.v (shift_46 u w tm l y a0 a1 tr))), (49, SC.bool (SB.v tr)), (50, SC.wh 1), (51, SC.bool (SB.v op)), (52, SC.bool (SB.v cl)), (53, SC.bool (SB.v en)),
          (54, SC.bool (SB.v mo)), (55, SC.int IntKind.i64 (SI.v la0)), (56, SC.int IntKind.i64 (SI.v la1)), (57, SC.int IntKind.i64 (SI.v la2)), (5734, SC.wh 5732),
          (59, SC.int IntKind.i64 (SI.v er))]),
    (5732,
      Obj.row false 32 22
        (RowC.lst 5757
          [CK.int IntKind.i64, CK.int IntKind.i64, CK.int IntKind.i64, CK.int IntKind.i64, CK.int IntKind.i64, CK.int IntKind.i64, CK.int IntKind.i64, CK.int IntKind.i64, CK.int IntKind.i64,
            CK.int IntKind.i64, CK.int IntKind.i64, CK.int IntKind.i64, CK.int IntKind.i64, CK.bool, CK.int IntKind.i64, CK.bool, CK.int IntKind.i64, CK.int IntKind.i64, CK.int IntKind.i64,
            CK.int IntKind.i64, CK.int IntKind.i64, CK.bool]
          (shift_47 u w tm l y a0 a1 tr O))),
    (1,
      Obj.row false 32 22
        (RowC.lst 60
          [CK.int IntKind.i64, CK.int IntKind.i64, CK.int IntKind.i64, CK.int IntKind.i64, CK.int IntKind.i64, CK.int IntKind.i64, CK.int IntKind.i64, CK.int IntKind.i64, CK.int IntKind.i64,
            CK.int IntKind.i64, CK.int IntKind.i64, CK.int IntKind.i64, CK.int IntKind.i64, CK.bool, CK.int IntKind.i64, CK.bool, CK.int IntKind.i64, CK.int IntKind.i64, CK.int IntKind.i64,
            CK.int IntKind.i64, CK.int IntKind.i64, CK.bool]
          C))],
    [O.length ≤ 1000000], [], 5760⟩
  | _, _ => none
theorem shift_ok : FOk Try.prog 45 (tplG shift_sp shift_tpl shift_out) := by
  refine tplG_ok (runF_ok known_within 45) fun ps ls r hr hn _ => ?_
  unfold shift_out at hr
  split at hr
  · cases hr; exact ⟨_, shift_runs _ _ _ _ _ _ _ _ _ _ _ _ _ _ _ _ _ _ (shift_weak (by exact hn)), fun _ => rfl⟩
  · cases hr
noncomputable def K_shift : List (Nat × Summ) := (45, tplG shift_sp shift_tpl shift_out) :: K_within
theorem known_shift : Known Try.prog (sums K_shift) L_cr := known_cons known_within shift_ok
noncomputable def LenIn (O A : List (List Int)) : Prop := O.length ≤ A.length ∧ A.length ≤ O.length + 1
theorem LenIn.self (O : List (List Int)) : LenIn O O := ⟨Nat.le_refl _, Nat.le_succ _⟩
theorem LenIn.one (O : List (List Int)) (r : List Int) : LenIn O (O ++ [r]) := by
  unfold LenIn; simp only [List.length_append, List.length_cons, List.length_nil]; omega
theorem LenIn.ite {c : Bool} {O A B : List (List Int)} (h : LenIn O A) (k : LenIn O B) : LenIn O (bif c then A else B) := by cases c <;> assumption
theorem shift_47_len (u w : Int) (tm : Bool) (l y : List GC) (a0 a1 : Int) (tr : Bool) (O : List (List Int)) : LenIn O (shift_47 u w tm l y a0 a1 tr O) := by
  unfold shift_47
  exact .ite (.ite (.self O) (line_46_len ..)) (.ite (.self O) (.ite (.self O) (.one O _)))
noncomputable def join_tpl : Tpl := ⟨[.one (.ptr 0 0), .agg [.int .i64, .int .i64, .int .i64, .int .i64, .int .i64, .int .i64, .int .i64, .int .i64, .int .i64, .int .i64, .int .i64, .int .i64, .int .i64, .bool, .int .i64, .bool, .int .i64, .int .i64, .int .i64, .int .i64, .int .i64, .bool], .agg [.int .i64, .int .i64], .one (.bool)], [(0, .blk 66 [(3, .int .i64), (4, .int .i64), (5, .int .i64), (6, .int .i64), (7, .int .i64), (8, .int .i64), (9, .int .i64), (10, .int .i64), (11, .int .i64), (12, .int .i64), (13, .int .i64), (14, .int .i64), (15, .int .i64), (16, .bool), (17, .int .i64), (18, .bool), (19, .int .i64), (20, .int .i64), (21, .int .i64), (22, .int .i64), (23, .int .i64), (24, .bool), (25, .int .i64), (26, .int .i64), (27, .int .i64), (28, .int .i64), (29, .int .i64), (30, .int .i64), (31, .int .i64), (32, .int .i64), (33, .int .i64), (34, .int .i64), (35, .int .i64), (36, .int .i64), (37, .int .i64), (38, .bool), (39, .int .i64), (40, .bool), (41, .int .i64), (42, .int .i64), (43, .int .i64), (44, .int .i64), (45, .int .i64), (46, .bool), (47, .int .i64), (48, .int .i64), (49, .bool), (50, .wh 1), (51, .bool), (52, .bool), (53, .bool), (54, .bool), (55, .int .i64), (56, .int .i64), (57, .int .i64), (58, .wh 2), (59, .int .i64)]), (1, .row false 32 22 60 [.int .i64, .int .i64, .int .i64, .int .i64, .int .i64, .int .i64, .int .i64, .int .i64, .int .i64, .int .i64, .int .i64, .int .i64, .int .i64, .bool, .int .i64, .bool, .int .i64, .int .i64, .int .i64, .int .i64, .int .i64, .bool]), (2, .row false 32 22 61 [.int .i64, .int .i64, .int .i64, .int .i64, .int .i64, .int .i64, .int .i64, .int .i64, .int .i64, .int .i64, .int .i64, .int .i64, .int .i64, .bool, .int .i64, .bool, .int .i64, .int .i64, .int .i64, .int .i64, .int .i64, .bool])], 62⟩
noncomputable def join_sp : List GK := [.v itemB, .i, .i, .b, .v itemB, .v itemB, .i, .i, .b, .b, .b, .b, .b, .i, .i, .i, .i]
noncomputable def join_s0 (x : List GC) (l : List GC) (a0 : Int) : Int :=
  IntKind.i64.wrap (a0 - flat_0 (xi l 8) (xi x 2) (xi x 3) (xi x 4))
noncomputable def join_s1 (x : List GC) (l : List GC) (a1 : Int) : Int :=
  IntKind.i64.wrap (a1 - flat_1 (xi l 8) (xi x 2) (xi x 3) (xi x 4))
noncomputable def join_s2 (x : List GC) (u : Int) (l : List GC) : Int :=
  IntKind.i64.wrap (u - flat_0 (xi l 8) (xi x 2) (xi x 3) (xi x 4))
noncomputable def join_s3 (x : List GC) (w : Int) (l : List GC) : Int :=
  IntKind.i64.wrap (w - flat_1 (xi l 8) (xi x 2) (xi x 3) (xi x 4))
noncomputable def join_s4 (x : List GC) (u : Int) (w : Int) (l : List GC) (a0 : Int) (a1 : Int) : Int :=
  IntKind.i64.wrap (vcross_0 (join_s0 x l a0) (join_s1 x l a1) (join_s2 x u l) (join_s3 x w l) * IntKind.i64.wrap (0 - xi l 16))
noncomputable def join_44 (x : List GC) (u : Int) (w : Int) (ou : Bool) (l : List GC) (a0 : Int) (a1 : Int) : Int :=
  bif
      ou && (decide (join_s4 x u w l a0 a1 > 0) || join_s4 x u w l a0 a1 == 0 && decide (vinner_0 (join_s0 x l a0) (join_s1 x l a1) (join_s2 x u l) (join_s3 x w l) < 0)) &&
          decide (vinner_0 (join_s0 x l a0) (join_s1 x l a1) (join_s0 x l a0) (join_s1 x l a1) ≥ 64) &&
        decide (vinner_0 (join_s2 x u l) (join_s3 x w l) (join_s2 x u l) (join_s3 x w l) ≥ 64) then
    u
  else u
noncomputable def join_45 (x : List GC) (u : Int) (w : Int) (ou : Bool) (l : List GC) (a0 : Int) (a1 : Int) : Int :=
  bif
      ou && (decide (join_s4 x u w l a0 a1 > 0) || join_s4 x u w l a0 a1 == 0 && decide (vinner_0 (join_s0 x l a0) (join_s1 x l a1) (join_s2 x u l) (join_s3 x w l) < 0)) &&
          decide (vinner_0 (join_s0 x l a0) (join_s1 x l a1) (join_s0 x l a0) (join_s1 x l a1) ≥ 64) &&
        decide (vinner_0 (join_s2 x u l) (join_s3 x w l) (join_s2 x u l) (join_s3 x w l) ≥ 64) then
    w
  else w
noncomputable def join_46 (x : List GC) (u : Int) (w : Int) (ou : Bool) (l : List GC) (a0 : Int) (a1 : Int) (O : List (List Int)) : List (List Int) :=
  bif
      ou && (decide (join_s4 x u w l a0 a1 > 0) || join_s4 x u w l a0 a1 == 0 && decide (vinner_0 (join_s0 x l a0) (join_s1 x l a1) (join_s2 x u l) (join_s3 x w l) < 0)) &&
          decide (vinner_0 (join_s0 x l a0) (join_s1 x l a1) (join_s0 x l a0) (join_s1 x l a1) ≥ 64) &&
        decide (vinner_0 (join_s2 x u l) (join_s3 x w l) (join_s2 x u l) (join_s3 x w l) ≥ 64) then
    O ++
      [[3, xi x 1, solid_0 (xi l 8) a0 a1 (flat_2 (xi l 8) (xi x 2) (xi x 3) (xi x 4)), solid_1 (xi l 8) a0 a1 (flat_2 (xi l 8) (xi x 2) (xi x 3) (xi x 4)),
          solid_2 (xi l 8) a0 a1 (flat_2 (xi l 8) (xi x 2) (xi x 3) (xi x 4)), solid_0 (xi l 8) u w (flat_2 (xi l 8) (xi x 2) (xi x 3) (xi x 4)),
          solid_1 (xi l 8) u w (flat_2 (xi l 8) (xi x 2) (xi x 3) (xi x 4)), solid_2 (xi l 8) u w (flat_2 (xi l 8) (xi x 2) (xi x 3) (xi x 4)), xi l 8,
          solid_0 (xi l 8) (flat_0 (xi l 8) (xi x 2) (xi x 3) (xi x 4)) (flat_1 (xi l 8) (xi x 2) (xi x 3) (xi x 4)) (flat_2 (xi l 8) (xi x 2) (xi x 3) (xi x 4)),
          solid_1 (xi l 8) (flat_0 (xi l 8) (xi x 2) (xi x 3) (xi x 4)) (flat_1 (xi l 8) (xi x 2) (xi x 3) (xi x 4)) (flat_2 (xi l 8) (xi x 2) (xi x 3) (xi x 4)),
          solid_2 (xi l 8) (flat_0 (xi l 8) (xi x 2) (xi x 3) (xi x 4)) (flat_1 (xi l 8) (xi x 2) (xi x 3) (xi x 4)) (flat_2 (xi l 8) (xi x 2) (xi x 3) (xi x 4)), IntKind.i64.wrap (0 - xi l 16), 0,
          xi x 14, bif xb x 15 then 1 else 0, 0, 0, 0, 0, 0, 0]]
  else
    line_46
      [GC.i 2, GC.i (xi x 1), GC.i 0, GC.i 0, GC.i 0, GC.i 0, GC.i 0, GC.i 0, GC.i 0, GC.i 0, GC.i 0, GC.i 0, GC.i 0, GC.b false, GC.i (xi x 14), GC.b (xb x 15), GC.i 0, GC.i 0, GC.i 0, GC.i 0, GC.i 0,
        GC.b false]
      u w (flat_2 (xi l 8) (xi x 2) (xi x 3) (xi x 4)) (flat_2 (xi l 8) (xi x 2) (xi x 3) (xi x 4)) false (nrm l) a0 a1 O
noncomputable def join_needs (x : List GC) (u : Int) (w : Int) (ou : Bool) (l : List GC) (a0 : Int) (a1 : Int) (O : List (List Int)) : List Prop :=
  [(ou && (decide (join_s4 x u w l a0 a1 > 0) || join_s4 x u w l a0 a1 == 0 && decide (vinner_0 (join_s0 x l a0) (join_s1 x l a1) (join_s2 x u l) (join_s3 x w l) < 0)) &&
            decide (vinner_0 (join_s0 x l a0) (join_s1 x l a1) (join_s0 x l a0) (join_s1 x l a1) ≥ 64) &&
          decide (vinner_0 (join_s2 x u l) (join_s3 x w l) (join_s2 x u l) (join_s3 x w l) ≥ 64)) =
        true →
      (O.length + 1) * 176 ≤ 140737488355328 ∧ O.length + 1 ≤ 9223372036854775807,
    (ou && (decide (join_s4 x u w l a0 a1 > 0) || join_s4 x u w l a0 a1 == 0 && decide (vinner_0 (join_s0 x l a0) (join_s1 x l a1) (join_s2 x u l) (join_s3 x w l) < 0)) &&
            decide (vinner_0 (join_s0 x l a0) (join_s1 x l a1) (join_s0 x l a0) (join_s1 x l a1) ≥ 64) &&
          decide (vinner_0 (join_s2 x u l) (join_s3 x w l) (join_s2 x u l) (join_s3 x w l) ≥ 64)) =
        false →
      O.length ≤ 1000000]
theorem join_weak {x : List GC} {u : Int} {w : Int} {ou : Bool} {l : List GC} {a0 : Int} {a1 : Int} {O : List (List Int)} (hW : ∀ q ∈ ([O.length ≤ 1000000] : List Prop), q) : ∀ q ∈ (join_needs x u w ou l a0 a1 O), q := by
  simp only [List.mem_cons, List.not_mem_nil, or_false, forall_eq_or_imp, forall_eq] at hW
  unfold join_needs
  simp only [List.forall_mem_cons, List.not_mem_nil, false_implies, implies_true, and_true]
  exact ⟨fun _ => ⟨by omega, by omega⟩, fun _ => hW⟩
set_option maxRecDepth 1000000 in
theorem join_runs (x : List GC) (u w : Int) (ou : Bool) (l y : List GC) (a0 a1 : Int) (tr op cl en mo : Bool) (la0 la1 la2 er : Int) (C O : List (List Int)) (hNeeds : ∀ pN ∈ (join_needs x u w ou l a0 a1 O), pN) : Runs (runF (sums K_shift) L_cr 68) (join_tpl.args (spread join_sp [.v x, .i u, .i w, .b ou, .v l, .v y, .i a0, .i a1, .b tr, .b op, .b cl, .b en, .b mo, .i la0, .i la1, .i la2, .i er])) (join_tpl.memo (spread join_sp [.v x, .i u, .i w, .b ou, .v l, .v y, .i a0, .i a1, .b tr, .b op, .b cl, .b en, .b mo, .i la0, .i la1, .i la2, .i er]) [C, O]) join_tpl.n (SV.tup [])
    ([(0,
      Obj.blk 66
        [(3, SC.int IntKind.i64 (SI.v (xi l 0))), (4, SC.int IntKind.i64 (SI.v (xi l 1))), (5, SC.int IntKind.i64 (SI.v (xi l 2))), (6, SC.int IntKind.i64 (SI.v (xi l 3))),
          (7, SC.int IntKind.i64 (SI.v (xi l 4))), (8, SC.int IntKind.i64 (SI.v (xi l 5))), (9, SC.int IntKind.i64 (SI.v (xi l 6))), (10, SC.int IntKind.i64 (SI.v (xi l 7))),
          (11, SC.int IntKind.i64 (SI.v (xi l 8))), (12, SC.int IntKind.i64 (SI.v (xi l 9))), (13, SC.int IntKind.i64 (SI.v (xi l 10))), (14, SC.int IntKind.i64 (SI.v (xi l 11))),
          (15, SC.int IntKind.i64 (SI.v (xi l 12))), (16, SC.bool (SB.v (xb l 13))), (17, SC.int IntKind.i64 (SI.v (xi l 14))), (18, SC.bool (SB.v (xb l 15))), (19, SC.int IntKind.i64 (SI.v (xi l 16))),
          (20, SC.int IntKind.i64 (SI.v (xi l 17))), (21, SC.int IntKind.i64 (SI.v (xi l 18))), (22, SC.int IntKind.i64 (SI.v (xi l 19))), (23, SC.int IntKind.i64 (SI.v (xi l 20))),
          (24, SC.bool (SB.v (xb l 21))), (25, SC.int IntKind.i64 (SI.v (xi y 0))), (26, SC.int IntKind.i64 (SI.v (xi y 1))), (27, SC.int IntKind.i64 (SI.v (xi y 2))),
          (28, SC.int IntKind.i64 (SI.v (xi y 3))), (29, SC.int IntKind.i64 (SI.v (xi y 4))), (30, SC.int IntKind.i64 (SI.v (xi y 5))), (31, SC.int IntKind.i64 (SI.v (xi y 6))),
          (32, SC.int IntKind.i64 (SI.v (xi y 7))), (33, SC.int IntKind.i64 (SI.v (xi y 8))), (34, SC.int IntKind.i64 (SI.v (xi y 9))), (35, SC.int IntKind.i64 (SI.v (xi y 10))),
          (36, SC.int IntKind.i64 (SI.v (xi y 11))), (37, SC.int IntKind.i64 (SI.v (xi y 12))), (38, SC.bool (SB.v (xb y 13))), (39, SC.int IntKind.i64 (SI.v (xi y 14))), (40, SC.bool (SB.v (xb y 15))),
          (41, SC.int IntKind.i64 (SI.v (xi y 16))), (42, SC.int IntKind.i64 (SI.v (xi y 17))), (43, SC.int IntKind.i64 (SI.v (xi y 18))), (44, SC.int IntKind.i64 (SI.v (xi y 19))),
          (45, SC.int IntKind.i64 (SI.v (xi y 20))), (46, SC.bool (SB.v (xb y 21))), (1678, SC.int IntKind.i64 (SI.v (join_44 x u w ou l a0 a1))),
          (1679, SC.int IntKind.i64 (SI.v (join_45 x u w ou l a0 a1))), (49, SC.bool (SB.v tr)), (50, SC.wh 1), (51, SC.bool (SB.v op)), (52, SC.bool (SB.v cl)), (53, SC.bool (SB.v en)),
          (54, SC.bool (SB.v mo)), (55, SC.int IntKind.i64 (SI.v la0)), (56, SC.int IntKind.i64 (SI.v la1)), (57, SC.int IntKind.i64 (SI.v la2)), (1664, SC.wh 1662),
          (59, SC.int IntKind.i64 (SI.v er))]),
    (1662,
      Obj.row false 32 22
        (RowC.lst 1677
          [CK.int IntKind.i64, CK.int IntKind.i64, CK.int IntKind.i64, CK.int IntKind.i64, CK.int IntKind.i64, CK.int IntKind.i64, CK.int IntKind.i64, CK.int IntKind.i64, CK.int IntKind.i64,
            CK.int IntKind.i64, CK.int IntKind.i64, CK.int IntKind.i64, CK.int IntKind.i64, CK.bool, CK.int IntKind.i64, CK.bool, CK.int IntKind.i64, CK.int IntKind.i64, CK.int IntKind.i64,
            CK.int IntKind.i64, CK.int IntKind.i64, CK.bool]
          (join_46 x u w ou l a0 a1 O))),
    (1,
      Obj.row false 32 22
        (RowC.lst 60
          [CK.int IntKind.i64, CK.int IntKind.i64, CK.int IntKind.i64, CK.int IntKind.i64, CK.int IntKind.i64, CK.int IntKind.i64, CK.int IntKind.i64, CK.int IntKind.i64, CK.int IntKind.i64,
            CK.int IntKind.i64, CK.int IntKind.i64, CK.int IntKind.i64, CK.int IntKind.i64, CK.bool, CK.int IntKind.i64, CK.bool, CK.int IntKind.i64, CK.int IntKind.i64, CK.int IntKind.i64,
            CK.int IntKind.i64, CK.int IntKind.i64, CK.bool]
          C))]) :=
  Runs.of1 (ps := (join_needs x u w ou l a0 a1 O)) (by kernel_rfl) hNeeds
noncomputable def join_out : List Gm → Lss → Option CRes
  | [.v x, .i u, .i w, .b ou, .v l, .v y, .i a0, .i a1, .b tr, .b op, .b cl, .b en, .b mo, .i la0, .i la1, .i la2, .i er], [C, O] => some ⟨SV.tup [],
    [(0,
      Obj.blk 66
        [(3, SC.int IntKind.i64 (SI.v (xi l 0))), (4, SC.int IntKind.i64 (SI.v (xi l 1))), (5, SC.int IntKind.i64 (SI.v (xi l 2))), (6, SC.int IntKind.i64 (SI.v (xi l 3))),
          (7, SC.int IntKind.i64 (SI.v (xi l 4))), (8, SC.int IntKind.i64 (SI.v (xi l 5))), (9, SC.int IntKind.i64 (SI.v (xi l 6))), (10, SC.int IntKind.i64 (SI.v (xi l 7))),
          (11, SC.int IntKind.i64 (SI.v (xi l 8))), (12, SC.int IntKind.i64 (SI.v (xi l 9))), (13, SC.int IntKind.i64 (SI.v (xi l 10))), (14, SC.int IntKind.i64 (SI.v (xi l 11))),
          (15, SC.int IntKind.i64 (SI.v (xi l 12))), (16, SC.bool (SB.v (xb l 13))), (17, SC.int IntKind.i64 (SI.v (xi l 14))), (18, SC.bool (SB.v (xb l 15))), (19, SC.int IntKind.i64 (SI.v (xi l 16))),
          (20, SC.int IntKind.i64 (SI.v (xi l 17))), (21, SC.int IntKind.i64 (SI.v (xi l 18))), (22, SC.int IntKind.i64 (SI.v (xi l 19))), (23, SC.int IntKind.i64 (SI.v (xi l 20))),
          (24, SC.bool (SB.v (xb l 21))), (25, SC.int IntKind.i64 (SI.v (xi y 0))), (26, SC.int IntKind.i64 (SI.v (xi y 1))), (27, SC.int IntKind.i64 (SI.v (xi y 2))),
          (28, SC.int IntKind.i64 (SI.v (xi y 3))), (29, SC.int IntKind.i64 (SI.v (xi y 4))), (30, SC.int IntKind.i64 (SI.v (xi y 5))), (31, SC.int IntKind.i64 (SI.v (xi y 6))),
          (32, SC.int IntKind.i64 (SI.v (xi y 7))), (33, SC.int IntKind.i64 (SI.v (xi y 8))), (34, SC.int IntKind.i64 (SI.v (xi y 9))), (35, SC.int IntKind.i64 (SI.v (xi y 10))),
          (36, SC.int IntKind.i64 (SI.v (xi y 11))), (37, SC.int IntKind.i64 (SI.v (xi y 12))), (38, SC.bool (SB.v (xb y 13))), (39, SC.int IntKind.i64 (SI.v (xi y 14))), (40, SC.bool (SB.v (xb y 15))),
          (41, SC.int IntKind.i64 (SI.v (xi y 16))), (42, SC.int IntKind.i64 (SI.v (xi y 17))), (43, SC.int IntKind.i64 (SI.v (xi y 18))), (44, SC.int IntKind.i64 (SI.v (xi y 19))),
          (45, SC.int IntKind.i64 (SI.v (xi y 20))), (46, SC.bool (SB.v (xb y 21))), (1678, SC.int IntKind.i64 (SI.v (u))),
          (1679, SC.int IntKind.i64 (SI.v (w))), (49, SC.bool (SB.v tr)), (50, SC.wh 1), (51, SC.bool (SB.v op)), (52, SC.bool (SB.v cl)), (53, SC.bool (SB.v en)),
          (54, SC.bool (SB.v mo)), (55, SC.int IntKind.i64 (SI.v la0)), (56, SC.int IntKind.i64 (SI.v la1)), (57, SC.int IntKind.i64 (SI.v la2)), (1664, SC.wh 1662),
          (59, SC.int IntKind.i64 (SI.v er))]),
    (1662,
      Obj.row false 32 22
        (RowC.lst 1677
          [CK.int IntKind.i64, CK.int IntKind.i64, CK.int IntKind.i64, CK.int IntKind.i64, CK.int IntKind.i64, CK.int IntKind.i64, CK.int IntKind.i64, CK.int IntKind.i64, CK.int IntKind.i64,
            CK.int IntKind.i64, CK.int IntKind.i64, CK.int IntKind.i64, CK.int IntKind.i64, CK.bool, CK.int IntKind.i64, CK.bool, CK.int IntKind.i64, CK.int IntKind.i64, CK.int IntKind.i64,
            CK.int IntKind.i64, CK.int IntKind.i64, CK.bool]
          (join_46 x u w ou l a0 a1 O))),
    (1,
      Obj.row false 32 22
        (RowC.lst 60
          [CK.int IntKind.i64, CK.int IntKind.i64, CK.int IntKind.i64, CK.int IntKind.i64, CK.int IntKind.i64, CK.int IntKind.i64, CK.int IntKind.i64, CK.int IntKind.i64, CK.int IntKind.i64,
            CK.int IntKind.i64, CK.int IntKind.i64, CK.int IntKind.i64, CK.int IntKind.i64, CK.bool, CK.int IntKind.i64, CK.bool, CK.int IntKind.i64, CK.int IntKind.i64, CK.int IntKind.i64,
            CK.int IntKind.i64, CK.int IntKind.i64, CK.bool]
          C))],
    [O.length ≤ 1000000], [], 1680⟩
  | _, _ => none
theorem join_turned (x : List GC) (u w : Int) (ou : Bool) (l y : List GC) (a0 a1 : Int) (tr op cl en mo : Bool) (la0 la1 la2 er : Int) (C O : List (List Int)) (hNeeds : ∀ pN ∈ (join_needs x u w ou l a0 a1 O), pN) : Runs (runF (sums K_shift) L_cr 68) (join_tpl.args (spread join_sp [.v x, .i u, .i w, .b ou, .v l, .v y, .i a0, .i a1, .b tr, .b op, .b cl, .b en, .b mo, .i la0, .i la1, .i la2, .i er])) (join_tpl.memo (spread join_sp [.v x, .i u, .i w, .b ou, .v l, .v y, .i a0, .i a1, .b tr, .b op, .b cl, .b en, .b mo, .i la0, .i la1, .i la2, .i er]) [C, O]) join_tpl.n (SV.tup [])
    ([(0,
      Obj.blk 66
        [(3, SC.int IntKind.i64 (SI.v (xi l 0))), (4, SC.int IntKind.i64 (SI.v (xi l 1))), (5, SC.int IntKind.i64 (SI.v (xi l 2))), (6, SC.int IntKind.i64 (SI.v (xi l 3))),
          (7, SC.int IntKind.i64 (SI.v (xi l 4))), (8, SC.int IntKind.i64 (SI.v (xi l 5))), (9, SC.int IntKind.i64 (SI.v (xi l 6))), (10, SC.int IntKind.i64 (SI.v (xi l 7))),
          (11, SC.int IntKind.i64 (SI.v (xi l 8))), (12, SC.int IntKind.i64 (SI.v (xi l 9))), (13, SC.int IntKind.i64 (SI.v (xi l 10))), (14, SC.int IntKind.i64 (SI.v (xi l 11))),
          (15, SC.int IntKind.i64 (SI.v (xi l 12))), (16, SC.bool (SB.v (xb l 13))), (17, SC.int IntKind.i64 (SI.v (xi l 14))), (18, SC.bool (SB.v (xb l 15))), (19, SC.int IntKind.i64 (SI.v (xi l 16))),
          (20, SC.int IntKind.i64 (SI.v (xi l 17))), (21, SC.int IntKind.i64 (SI.v (xi l 18))), (22, SC.int IntKind.i64 (SI.v (xi l 19))), (23, SC.int IntKind.i64 (SI.v (xi l 20))),
          (24, SC.bool (SB.v (xb l 21))), (25, SC.int IntKind.i64 (SI.v (xi y 0))), (26, SC.int IntKind.i64 (SI.v (xi y 1))), (27, SC.int IntKind.i64 (SI.v (xi y 2))),
          (28, SC.int IntKind.i64 (SI.v (xi y 3))), (29, SC.int IntKind.i64 (SI.v (xi y 4))), (30, SC.int IntKind.i64 (SI.v (xi y 5))), (31, SC.int IntKind.i64 (SI.v (xi y 6))),
          (32, SC.int IntKind.i64 (SI.v (xi y 7))), (33, SC.int IntKind.i64 (SI.v (xi y 8))), (34, SC.int IntKind.i64 (SI.v (xi y 9))), (35, SC.int IntKind.i64 (SI.v (xi y 10))),
          (36, SC.int IntKind.i64 (SI.v (xi y 11))), (37, SC.int IntKind.i64 (SI.v (xi y 12))), (38, SC.bool (SB.v (xb y 13))), (39, SC.int IntKind.i64 (SI.v (xi y 14))), (40, SC.bool (SB.v (xb y 15))),
          (41, SC.int IntKind.i64 (SI.v (xi y 16))), (42, SC.int IntKind.i64 (SI.v (xi y 17))), (43, SC.int IntKind.i64 (SI.v (xi y 18))), (44, SC.int IntKind.i64 (SI.v (xi y 19))),
          (45, SC.int IntKind.i64 (SI.v (xi y 20))), (46, SC.bool (SB.v (xb y 21))), (1678, SC.int IntKind.i64 (SI.v (u))),
          (1679, SC.int IntKind.i64 (SI.v (w))), (49, SC.bool (SB.v tr)), (50, SC.wh 1), (51, SC.bool (SB.v op)), (52, SC.bool (SB.v cl)), (53, SC.bool (SB.v en)),
          (54, SC.bool (SB.v mo)), (55, SC.int IntKind.i64 (SI.v la0)), (56, SC.int IntKind.i64 (SI.v la1)), (57, SC.int IntKind.i64 (SI.v la2)), (1664, SC.wh 1662),
          (59, SC.int IntKind.i64 (SI.v er))]),
    (1662,
      Obj.row false 32 22
        (RowC.lst 1677
          [CK.int IntKind.i64, CK.int IntKind.i64, CK.int IntKind.i64, CK.int IntKind.i64, CK.int IntKind.i64, CK.int IntKind.i64, CK.int IntKind.i64, CK.int IntKind.i64, CK.int IntKind.i64,
            CK.int IntKind.i64, CK.int IntKind.i64, CK.int IntKind.i64, CK.int IntKind.i64, CK.bool, CK.int IntKind.i64, CK.bool, CK.int IntKind.i64, CK.int IntKind.i64, CK.int IntKind.i64,
            CK.int IntKind.i64, CK.int IntKind.i64, CK.bool]
          (join_46 x u w ou l a0 a1 O))),
    (1,
      Obj.row false 32 22
        (RowC.lst 60
          [CK.int IntKind.i64, CK.int IntKind.i64, CK.int IntKind.i64, CK.int IntKind.i64, CK.int IntKind.i64, CK.int IntKind.i64, CK.int IntKind.i64, CK.int IntKind.i64, CK.int IntKind.i64,
            CK.int IntKind.i64, CK.int IntKind.i64, CK.int IntKind.i64, CK.int IntKind.i64, CK.bool, CK.int IntKind.i64, CK.bool, CK.int IntKind.i64, CK.int IntKind.i64, CK.int IntKind.i64,
            CK.int IntKind.i64, CK.int IntKind.i64, CK.bool]
          C))]) :=
  (join_runs x u w ou l y a0 a1 tr op cl en mo la0 la1 la2 er C O hNeeds).to (by first | rfl | (simp only [])) ((by simp only [join_44, join_45, Bool.cond_self]))
theorem join_ok : FOk Try.prog 68 (tplG join_sp join_tpl join_out) := by
  refine tplG_ok (runF_ok known_shift 68) fun ps ls r hr hn _ => ?_
  unfold join_out at hr
  split at hr
  · cases hr; exact ⟨_, join_turned _ _ _ _ _ _ _ _ _ _ _ _ _ _ _ _ _ _ _ (join_weak (by exact hn)), fun _ => rfl⟩
  · cases hr
noncomputable def K_join : List (Nat × Summ) := (68, tplG join_sp join_tpl join_out) :: K_shift
theorem known_join : Known Try.prog (sums K_join) L_cr := known_cons known_shift join_ok
theorem join_46_len (x : List GC) (u w : Int) (ou : Bool) (l : List GC) (a0 a1 : Int) (O : List (List Int)) : LenIn O (join_46 x u w ou l a0 a1 O) := by
  unfold join_46
  exact .ite (.one O _) (line_46_len ..)
end Go.Proofs.Ytmbfbhimdkjkoaa
namespace Go.Proofs.Ytmbfbhimdkjkoaa
open Go.SX Go.RowKit
noncomputable def B (x : Bool) : SC := .bool (.v x)
noncomputable def CKi : List CK := [.int .i64, .int .i64, .int .i64, .int .i64, .int .i64, .int .i64, .int .i64, .int .i64, .int .i64, .int .i64, .int .i64, .int .i64, .int .i64, .bool, .int .i64, .bool, .int .i64, .int .i64, .int .i64, .int .i64, .int .i64, .bool]
noncomputable def rowI (id tag : Nat) (xs : List (List Int)) : Nat × SX.Obj := (id, .row false 32 22 (.lst tag CKi xs))
noncomputable def fcells (g : Nat → Nat) (l y : List GC) (a0 a1 : Int) (tr : Bool) (c : Nat) (op cl en mo : Bool) (la0 la1 la2 : Int) (o : Nat) (er : Int) : List (Nat × SC) :=
  [(g 0, I (xi l 0)), (g 1, I (xi l 1)), (g 2, I (xi l 2)), (g 3, I (xi l 3)), (g 4, I (xi l 4)), (g 5, I (xi l 5)), (g 6, I (xi l 6)), (g 7, I (xi l 7)), (g 8, I (xi l 8)), (g 9, I (xi l 9)), (g 10, I (xi l 10)), (g 11, I (xi l 11)), (g 12, I (xi l 12)), (g 13, B (xb l 13)), (g 14, I (xi l 14)), (g 15, B (xb l 15)), (g 16, I (xi l 16)), (g 17, I (xi l 17)), (g 18, I (xi l 18)), (g 19, I (xi l 19)), (g 20, I (xi l 20)), (g 21, B (xb l 21)), (g 22, I (xi y 0)), (g 23, I (xi y 1)), (g 24, I (xi y 2)), (g 25, I (xi y 3)), (g 26, I (xi y 4)), (g 27, I (xi y 5)), (g 28, I (xi y 6)), (g 29, I (xi y 7)), (g 30, I (xi y 8)), (g 31, I (xi y 9)), (g 32, I (xi y 10)), (g 33, I (xi y 11)), (g 34, I (xi y 12)), (g 35, B (xb y 13)), (g 36, I (xi y 14)), (g 37, B (xb y 15)), (g 38, I (xi y 16)), (g 39, I (xi y 17)), (g 40, I (xi y 18)), (g 41, I (xi y 19)), (g 42, I (xi y 20)), (g 43, B (xb y 21)), (g 44, I a0), (g 45, I a1), (g 46, B tr), (g 47, .wh c), (g 48, B op), (g 49, B cl), (g 50, B en), (g 51, B mo), (g 52, I la0), (g 53, I la1), (g 54, I la2), (g 55, .wh o), (g 56, I er)]
noncomputable def gI (cs : List (Nat × SC)) (k : Nat) : Int := match cs.drop k with
  | (_, .int _ x) :: _ => x.val
  | _ => 0
noncomputable def gB (cs : List (Nat × SC)) (k : Nat) : Bool := match cs.drop k with
  | (_, .bool x) :: _ => x.val
  | _ => false
noncomputable def gV (cs : List (Nat × SC)) (k : Nat) : List GC := [.i (gI cs (k + 0)), .i (gI cs (k + 1)), .i (gI cs (k + 2)), .i (gI cs (k + 3)), .i (gI cs (k + 4)), .i (gI cs (k + 5)), .i (gI cs (k + 6)), .i (gI cs (k + 7)), .i (gI cs (k + 8)), .i (gI cs (k + 9)), .i (gI cs (k + 10)), .i (gI cs (k + 11)), .i (gI cs (k + 12)), .b (gB cs (k + 13)), .i (gI cs (k + 14)), .b (gB cs (k + 15)), .i (gI cs (k + 16)), .i (gI cs (k + 17)), .i (gI cs (k + 18)), .i (gI cs (k + 19)), .i (gI cs (k + 20)), .b (gB cs (k + 21))]
noncomputable def takeC : List Bool → List (Nat × SC) → Option (List GC × List (Nat × SC))
  | [], r => some ([], r)
  | false :: ks, (_, .int _ x) :: r => match takeC ks r with
    | some (l, q) => some (.i x.val :: l, q)
    | none => none
  | true :: ks, (_, .bool x) :: r => match takeC ks r with
    | some (l, q) => some (.b x.val :: l, q)
    | none => none
  | _, _ => none
end Go.Proofs.Ytmbfbhimdkjkoaa
namespace Go.Proofs.Ytmbfbhimdkjkoaa
open Go.SX Go.RowKit
noncomputable def relS (l : List GC) (a0 a1 : Int) (O : List (List Int)) (r : List Int) : List (List Int) :=
  bif cmotion_0 (r.getD 0 0) then line_46 (ofRow r) a0 a1 (flat_2 (xi l 8) (r.getD 2 0) (r.getD 3 0) (r.getD 4 0)) (flat_2 (xi l 8) (r.getD 5 0) (r.getD 6 0) (r.getD 7 0)) false (nrm l) a0 a1 O else O ++ [cpRow r]
noncomputable def relJ (l : List GC) (a0 a1 : Int) (O C : List (List Int)) (j : Nat) : List (List Int) := (C.take j).foldl (relS l a0 a1) O
/-- What release makes of the settled and the carried items. -/
noncomputable def relL (l : List GC) (a0 a1 : Int) (O C : List (List Int)) : List (List Int) := C.foldl (relS l a0 a1) O
theorem relJ_succ (l : List GC) (a0 a1 : Int) (O C : List (List Int)) (j : Nat) (h : j < C.length) : relJ l a0 a1 O C (j + 1) = relS l a0 a1 (relJ l a0 a1 O C j) (C.getD j []) := by
  have e : C.getD j [] = C[j] := by simp [List.getD, List.getElem?_eq_getElem h]
  unfold relJ
  rw [List.take_succ_eq_append_getElem h, List.foldl_append, e]
  rfl
theorem relJ_all (l : List GC) (a0 a1 : Int) (O C : List (List Int)) : relJ l a0 a1 O C C.length = relL l a0 a1 O C := by
  unfold relJ; rw [List.take_length]; rfl
theorem relS_len (l : List GC) (a0 a1 : Int) (O : List (List Int)) (r : List Int) : LenIn O (relS l a0 a1 O r) := by
  unfold relS
  exact .ite (line_46_len ..) (.one O _)
theorem relL_len (l : List GC) (a0 a1 : Int) : ∀ (C O : List (List Int)), O.length ≤ (relL l a0 a1 O C).length ∧ (relL l a0 a1 O C).length ≤ O.length + C.length
  | [], O => ⟨Nat.le_refl _, Nat.le_refl _⟩
  | r :: C, O => by
    have h := relS_len l a0 a1 O r
    have k := relL_len l a0 a1 C (relS l a0 a1 O r)
    unfold LenIn at h
    have e : relL l a0 a1 O (r :: C) = relL l a0 a1 (relS l a0 a1 O r) C := rfl
    rw [e, List.length_cons]; omega
theorem relJ_len (l : List GC) (a0 a1 : Int) (O C : List (List Int)) (j : Nat) : (relJ l a0 a1 O C j).length ≤ O.length + C.length := by
  have h := relL_len l a0 a1 (C.take j) O
  have k : (C.take j).length ≤ C.length := by rw [List.length_take]; omega
  have e : relJ l a0 a1 O C j = relL l a0 a1 O (C.take j) := rfl
  rw [e]; omega
noncomputable def relG (k : Nat) : Nat := bif Nat.beq k 44 || Nat.beq k 45 || Nat.beq k 55 then 1000000000 + k else k + 3
noncomputable def relH (k : Nat) : Nat := bif Nat.beq k 44 || Nat.beq k 45 || Nat.beq k 55 then 69 + k else k + 3
noncomputable def relF (l y : List GC) (a0 a1 : Int) (tr op cl en mo : Bool) (la0 la1 la2 er : Int) (C O : List (List Int)) : Fam Nat Unit where
  k := 120
  E j := [(14, ent 1000000060 (.one (I (Int.ofNat j)))), (13, ent 1000000061 (.one (I (Int.ofNat C.length)))), (12, ent 1000000062 (.one (.wh 1))), (0, ent 0 (.one (.ptr 0 0)))]
  M j := [(0, .blk 66 (fcells relG l y a0 a1 tr 1 op cl en mo la0 la1 la2 71 er)), rowI 1 60 C, rowI 71 1000000070 (relJ l a0 a1 O C j)]
  out _ := .leaf (.exit 0) [(0, ent 0 (.one (.ptr 0 0)))] [(0, .blk 66 (fcells relH l y a0 a1 tr 1 op cl en mo la0 la1 la2 71 er)), rowI 1 60 C, rowI 71 130 (relL l a0 a1 O C)]
  fin _ := ()
  next j _ := j + 1
  J j := j ≤ C.length ∧ C.length ≤ 1000 ∧ O.length ≤ 900000
  μ j := C.length - j
noncomputable def rel_s0 (C : List (List Int)) (j : Nat) : Prop :=
  decide (Int.ofNat j < Int.ofNat C.length) = true
noncomputable def rel_s1 (C : List (List Int)) (j : Nat) : Prop :=
  (!cmotion_0 ((C.getD (Int.ofNat j).toNat []).getD 0 0)) = true
noncomputable def rel_s2 (C : List (List Int)) (j : Nat) : Prop :=
  (!cmotion_0 ((C.getD (Int.ofNat j).toNat []).getD 0 0)) = false
noncomputable def rel_s3 (C : List (List Int)) (O : List (List Int)) : Prop :=
  C.length ≤ 1000 ∧ O.length ≤ 900000
noncomputable def rel_needs (l : List GC) (y : List GC) (a0 : Int) (a1 : Int) (tr : Bool) (op : Bool) (cl : Bool) (en : Bool) (mo : Bool) (la0 : Int) (la1 : Int) (la2 : Int) (er : Int) (C : List (List Int)) (O : List (List Int)) (j : Nat) : List Prop :=
  [rel_s0 C j →
      0 ≤ Int.ofNat j ∧
        (Int.ofNat j).toNat < C.length ∧
          (Int.ofNat j).toNat < C.length ∧
            (rel_s1 C j → ((relJ l a0 a1 O C j).length + 1) * 176 ≤ 140737488355328 ∧ (relJ l a0 a1 O C j).length + 1 ≤ 9223372036854775807) ∧ (rel_s2 C j → (relJ l a0 a1 O C j).length ≤ 1000000),
    rel_s0 C j →
      (rel_s1 C j →
          ((relF l y a0 a1 tr op cl en mo la0 la1 la2 er C O).next j 0 ≤ C.length ∧ rel_s3 C O) ∧
            (relF l y a0 a1 tr op cl en mo la0 la1 la2 er C O).μ ((relF l y a0 a1 tr op cl en mo la0 la1 la2 er C O).next j 0) < (relF l y a0 a1 tr op cl en mo la0 la1 la2 er C O).μ j ∧
              (relF l y a0 a1 tr op cl en mo la0 la1 la2 er C O).fin ((relF l y a0 a1 tr op cl en mo la0 la1 la2 er C O).next j 0) = (relF l y a0 a1 tr op cl en mo la0 la1 la2 er C O).fin j ∧
                Int.ofNat ((relF l y a0 a1 tr op cl en mo la0 la1 la2 er C O).next j 0) = IntKind.i64.wrap (Int.ofNat j + 1) ∧
                  Int.ofNat C.length = Int.ofNat C.length ∧
                    a0 = a0 ∧ a1 = a1 ∧ relJ l a0 a1 O C ((relF l y a0 a1 tr op cl en mo la0 la1 la2 er C O).next j 0) = relJ l a0 a1 O C j ++ [cpRow (C.getD (Int.ofNat j).toNat [])]) ∧
        (rel_s2 C j →
          ((relF l y a0 a1 tr op cl en mo la0 la1 la2 er C O).next j 1 ≤ C.length ∧ rel_s3 C O) ∧
            (relF l y a0 a1 tr op cl en mo la0 la1 la2 er C O).μ ((relF l y a0 a1 tr op cl en mo la0 la1 la2 er C O).next j 1) < (relF l y a0 a1 tr op cl en mo la0 la1 la2 er C O).μ j ∧
              (relF l y a0 a1 tr op cl en mo la0 la1 la2 er C O).fin ((relF l y a0 a1 tr op cl en mo la0 la1 la2 er C O).next j 1) = (relF l y a0 a1 tr op cl en mo la0 la1 la2 er C O).fin j ∧
                Int.ofNat ((relF l y a0 a1 tr op cl en mo la0 la1 la2 er C O).next j 1) = IntKind.i64.wrap (Int.ofNat j + 1) ∧
                  Int.ofNat C.length = Int.ofNat C.length ∧
                    a0 = a0 ∧
                      a1 = a1 ∧
                        relJ l a0 a1 O C ((relF l y a0 a1 tr op cl en mo la0 la1 la2 er C O).next j 1) =
                          line_46 (ofRow (C.getD (Int.ofNat j).toNat [])) a0 a1
                            (flat_2 (xi l 8) ((C.getD (Int.ofNat j).toNat []).getD 2 0) ((C.getD (Int.ofNat j).toNat []).getD 3 0) ((C.getD (Int.ofNat j).toNat []).getD 4 0))
                            (flat_2 (xi l 8) ((C.getD (Int.ofNat j).toNat []).getD 5 0) ((C.getD (Int.ofNat j).toNat []).getD 6 0) ((C.getD (Int.ofNat j).toNat []).getD 7 0)) false (nrm l) a0 a1
                            (relJ l a0 a1 O C j)),
    decide (Int.ofNat j < Int.ofNat C.length) = false → a0 = a0 ∧ a1 = a1 ∧ relL l a0 a1 O C = relJ l a0 a1 O C j]
theorem rel_round (l y : List GC) (a0 a1 : Int) (tr op cl en mo : Bool) (la0 la1 la2 er : Int) (C O : List (List Int)) (j : Nat) (hNeeds : ∀ pN ∈ (rel_needs l y a0 a1 tr op cl en mo la0 la1 la2 er C O j), pN) : RoundOk (roundC (relF l y a0 a1 tr op cl en mo la0 la1 la2 er C O) (bodyOf Try.prog (sums K_join) L_cr 46 0) 69 j) :=
  RoundOk.of (ps := (rel_needs l y a0 a1 tr op cl en mo la0 la1 la2 er C O j)) (by kernel_rfl) (by kernel_rfl) hNeeds
theorem rel_rounds (l y : List GC) (a0 a1 : Int) (tr op cl en mo : Bool) (la0 la1 la2 er : Int) (C O : List (List Int)) : RoundsOk (relF l y a0 a1 tr op cl en mo la0 la1 la2 er C O) (bodyOf Try.prog (sums K_join) L_cr 46 0) 69 := by
  intro j hJ
  obtain ⟨h1, h2, h3⟩ : j ≤ C.length ∧ C.length ≤ 1000 ∧ O.length ≤ 900000 := hJ
  refine rel_round l y a0 a1 tr op cl en mo la0 la1 la2 er C O j ?_
  unfold rel_needs
  have hl := relJ_len l a0 a1 O C j
  have lt : rel_s0 C j → j < C.length := by unfold rel_s0; simp
  simp only [List.forall_mem_cons, List.not_mem_nil, false_implies, implies_true, and_true]
  refine ⟨fun h => ⟨by simp, lt h, lt h, fun _ => ⟨by omega, by omega⟩, fun _ => by omega⟩, fun h => ?_, fun h => ?_⟩
  · have hj := lt h
    have hs := relJ_succ l a0 a1 O C j hj
    have e6 : IntKind.i64.wrap (Int.ofNat j + 1) = Int.ofNat (j + 1) := wrI (by simp; omega) (by simp; omega)
    refine ⟨fun h1 => ⟨⟨hj, h2, h3⟩, by show C.length - (j + 1) < C.length - j; omega, trivial, e6.symm, trivial, trivial, trivial, ?_⟩, fun h1 => ⟨⟨hj, h2, h3⟩, by show C.length - (j + 1) < C.length - j; omega, trivial, e6.symm, trivial, trivial, trivial, ?_⟩⟩
    · show relJ l a0 a1 O C (j + 1) = _
      rw [hs]; unfold relS
      unfold rel_s1 at h1
      rw [show cmotion_0 ((C.getD j []).getD 0 0) = false by simpa using h1]; rfl
    · show relJ l a0 a1 O C (j + 1) = _
      rw [hs]; unfold relS
      unfold rel_s2 at h1
      rw [show cmotion_0 ((C.getD j []).getD 0 0) = true by simpa using h1]; rfl
  · have : j = C.length := by simp at h; omega
    rw [this]; exact ⟨trivial, trivial, (relJ_all ..).symm⟩
noncomputable def relLp : LoopS := fun env mem m => match SX.look mem 0, SX.look mem 1, SX.look mem 2 with
  | some (.blk _ cs), some (.row _ _ _ (.lst _ _ C)), some (.row _ _ _ (.lst _ _ O)) => (match takeC itemB cs with
    | some (l, r) => (match takeC itemB r with
      | some (y, [(_, .int _ a0), (_, .int _ a1), (_, .bool tr), _, (_, .bool op), (_, .bool cl), (_, .bool en), (_, .bool mo), (_, .int _ la0), (_, .int _ la1), (_, .int _ la2), _, (_, .int _ er)]) => famS (relF l y a0.val a1.val tr.val op.val cl.val en.val mo.val la0.val la1.val la2.val er.val C O) 69 (fun _ _ => some 0) env mem m
      | _ => none)
    | none => none)
  | _, _, _ => none
noncomputable def L_rel : FuncId → Nat → Option LoopS := addL L_cr 46 1 relLp
theorem known_relL : Known Try.prog (sums K_join) L_rel := by
  refine known_addL 0 known_join (by kernel_rfl) (codeOk_of fun env mem m x h => ?_)
  unfold relLp at h
  have hlen : (loopList Try.prog 46).length = 1 := by kernel_rfl
  split at h
  · split at h
    · split at h
      · exact ⟨_, fam_ok (bodyOf_ok plainN known_join (by omega)) (rel_rounds _ _ _ _ _ _ _ _ _ _ _ _ _ _ _), h⟩
      · cases h
    · cases h
  · cases h
noncomputable def release_tpl : Tpl := ⟨[.one (.ptr 0 0)], [(0, .blk 66 [(3, .int .i64), (4, .int .i64), (5, .int .i64), (6, .int .i64), (7, .int .i64), (8, .int .i64), (9, .int .i64), (10, .int .i64), (11, .int .i64), (12, .int .i64), (13, .int .i64), (14, .int .i64), (15, .int .i64), (16, .bool), (17, .int .i64), (18, .bool), (19, .int .i64), (20, .int .i64), (21, .int .i64), (22, .int .i64), (23, .int .i64), (24, .bool), (25, .int .i64), (26, .int .i64), (27, .int .i64), (28, .int .i64), (29, .int .i64), (30, .int .i64), (31, .int .i64), (32, .int .i64), (33, .int .i64), (34, .int .i64), (35, .int .i64), (36, .int .i64), (37, .int .i64), (38, .bool), (39, .int .i64), (40, .bool), (41, .int .i64), (42, .int .i64), (43, .int .i64), (44, .int .i64), (45, .int .i64), (46, .bool), (47, .int .i64), (48, .int .i64), (49, .bool), (50, .wh 1), (51, .bool), (52, .bool), (53, .bool), (54, .bool), (55, .int .i64), (56, .int .i64), (57, .int .i64), (58, .wh 2), (59, .int .i64)]), (1, .row false 32 22 60 [.int .i64, .int .i64, .int .i64, .int .i64, .int .i64, .int .i64, .int .i64, .int .i64, .int .i64, .int .i64, .int .i64, .int .i64, .int .i64, .bool, .int .i64, .bool, .int .i64, .int .i64, .int .i64, .int .i64, .int .i64, .bool]), (2, .row false 32 22 61 [.int .i64, .int .i64, .int .i64, .int .i64, .int .i64, .int .i64, .int .i64, .int .i64, .int .i64, .int .i64, .int .i64, .int .i64, .int .i64, .bool, .int .i64, .bool, .int .i64, .int .i64, .int .i64, .int .i64, .int .i64, .bool])], 62⟩
noncomputable def release_sp : List GK := [.v itemB, .v itemB, .i, .i, .b, .b, .b, .b, .b, .i, .i, .i, .i]
noncomputable def release_44 (l : List GC) (a0 : Int) (a1 : Int) (C : List (List Int)) (O : List (List Int)) : List (List Int) :=
  relL (nrm l) a0 a1 O C
noncomputable def release_needs (l : List GC) (a0 : Int) (a1 : Int) (C : List (List Int)) (O : List (List Int)) : List Prop :=
  [0 ≤ C.length ∧ C.length ≤ 1000 ∧ O.length ≤ 900000, Int.ofNat 0 = 0, Int.ofNat C.length = Int.ofNat C.length, a0 = a0, a1 = a1, relJ (nrm l) a0 a1 O C 0 = O]
theorem release_weak {l : List GC} {a0 : Int} {a1 : Int} {C : List (List Int)} {O : List (List Int)} (hW : ∀ q ∈ ([C.length ≤ 1000, O.length ≤ 900000] : List Prop), q) : ∀ q ∈ (release_needs l a0 a1 C O), q := by
  simp only [List.mem_cons, List.not_mem_nil, or_false, forall_eq_or_imp, forall_eq] at hW
  unfold release_needs
  simp only [List.forall_mem_cons, List.not_mem_nil, false_implies, implies_true, and_true]
  exact ⟨⟨Nat.zero_le _, hW⟩, rfl, trivial, trivial, trivial, rfl⟩
set_option maxRecDepth 1000000 in
theorem release_runs (l y : List GC) (a0 a1 : Int) (tr op cl en mo : Bool) (la0 la1 la2 er : Int) (C O : List (List Int)) (hNeeds : ∀ pN ∈ (release_needs l a0 a1 C O), pN) : Runs (runF (sums K_join) L_rel 46) (release_tpl.args (spread release_sp [.v l, .v y, .i a0, .i a1, .b tr, .b op, .b cl, .b en, .b mo, .i la0, .i la1, .i la2, .i er])) (release_tpl.memo (spread release_sp [.v l, .v y, .i a0, .i a1, .b tr, .b op, .b cl, .b en, .b mo, .i la0, .i la1, .i la2, .i er]) [C, O]) release_tpl.n (SV.tup [])
    ([(0,
      Obj.blk 66
        [(3, SC.int IntKind.i64 (SI.v (xi l 0))), (4, SC.int IntKind.i64 (SI.v (xi l 1))), (5, SC.int IntKind.i64 (SI.v (xi l 2))), (6, SC.int IntKind.i64 (SI.v (xi l 3))),
          (7, SC.int IntKind.i64 (SI.v (xi l 4))), (8, SC.int IntKind.i64 (SI.v (xi l 5))), (9, SC.int IntKind.i64 (SI.v (xi l 6))), (10, SC.int IntKind.i64 (SI.v (xi l 7))),
          (11, SC.int IntKind.i64 (SI.v (xi l 8))), (12, SC.int IntKind.i64 (SI.v (xi l 9))), (13, SC.int IntKind.i64 (SI.v (xi l 10))), (14, SC.int IntKind.i64 (SI.v (xi l 11))),
          (15, SC.int IntKind.i64 (SI.v (xi l 12))), (16, SC.bool (SB.v (xb l 13))), (17, SC.int IntKind.i64 (SI.v (xi l 14))), (18, SC.bool (SB.v (xb l 15))), (19, SC.int IntKind.i64 (SI.v (xi l 16))),
          (20, SC.int IntKind.i64 (SI.v (xi l 17))), (21, SC.int IntKind.i64 (SI.v (xi l 18))), (22, SC.int IntKind.i64 (SI.v (xi l 19))), (23, SC.int IntKind.i64 (SI.v (xi l 20))),
          (24, SC.bool (SB.v (xb l 21))), (25, SC.int IntKind.i64 (SI.v (xi y 0))), (26, SC.int IntKind.i64 (SI.v (xi y 1))), (27, SC.int IntKind.i64 (SI.v (xi y 2))),
          (28, SC.int IntKind.i64 (SI.v (xi y 3))), (29, SC.int IntKind.i64 (SI.v (xi y 4))), (30, SC.int IntKind.i64 (SI.v (xi y 5))), (31, SC.int IntKind.i64 (SI.v (xi y 6))),
          (32, SC.int IntKind.i64 (SI.v (xi y 7))), (33, SC.int IntKind.i64 (SI.v (xi y 8))), (34, SC.int IntKind.i64 (SI.v (xi y 9))), (35, SC.int IntKind.i64 (SI.v (xi y 10))),
          (36, SC.int IntKind.i64 (SI.v (xi y 11))), (37, SC.int IntKind.i64 (SI.v (xi y 12))), (38, SC.bool (SB.v (xb y 13))), (39, SC.int IntKind.i64 (SI.v (xi y 14))), (40, SC.bool (SB.v (xb y 15))),
          (41, SC.int IntKind.i64 (SI.v (xi y 16))), (42, SC.int IntKind.i64 (SI.v (xi y 17))), (43, SC.int IntKind.i64 (SI.v (xi y 18))), (44, SC.int IntKind.i64 (SI.v (xi y 19))),
          (45, SC.int IntKind.i64 (SI.v (xi y 20))), (46, SC.bool (SB.v (xb y 21))), (113, SC.int IntKind.i64 (SI.v a0)), (114, SC.int IntKind.i64 (SI.v a1)), (49, SC.bool (SB.v tr)), (197, SC.wh 195),
          (51, SC.bool (SB.v op)), (52, SC.bool (SB.v cl)), (53, SC.bool (SB.v en)), (54, SC.bool (SB.v mo)), (55, SC.int IntKind.i64 (SI.v la0)), (56, SC.int IntKind.i64 (SI.v la1)),
          (57, SC.int IntKind.i64 (SI.v la2)), (124, SC.wh 71), (59, SC.int IntKind.i64 (SI.v er))]),
    (195, Obj.row false 32 22 (RowC.lit 196 [])),
    (1,
      Obj.row false 32 22
        (RowC.lst 60
          [CK.int IntKind.i64, CK.int IntKind.i64, CK.int IntKind.i64, CK.int IntKind.i64, CK.int IntKind.i64, CK.int IntKind.i64, CK.int IntKind.i64, CK.int IntKind.i64, CK.int IntKind.i64,
            CK.int IntKind.i64, CK.int IntKind.i64, CK.int IntKind.i64, CK.int IntKind.i64, CK.bool, CK.int IntKind.i64, CK.bool, CK.int IntKind.i64, CK.int IntKind.i64, CK.int IntKind.i64,
            CK.int IntKind.i64, CK.int IntKind.i64, CK.bool]
          C)),
    (71,
      Obj.row false 32 22
        (RowC.lst 130
          [CK.int IntKind.i64, CK.int IntKind.i64, CK.int IntKind.i64, CK.int IntKind.i64, CK.int IntKind.i64, CK.int IntKind.i64, CK.int IntKind.i64, CK.int IntKind.i64, CK.int IntKind.i64,
            CK.int IntKind.i64, CK.int IntKind.i64, CK.int IntKind.i64, CK.int IntKind.i64, CK.bool, CK.int IntKind.i64, CK.bool, CK.int IntKind.i64, CK.int IntKind.i64, CK.int IntKind.i64,
            CK.int IntKind.i64, CK.int IntKind.i64, CK.bool]
          (release_44 l a0 a1 C O)))]) :=
  Runs.of1 (ps := (release_needs l a0 a1 C O)) (by kernel_rfl) hNeeds
noncomputable def release_out : List Gm → Lss → Option CRes
  | [.v l, .v y, .i a0, .i a1, .b tr, .b op, .b cl, .b en, .b mo, .i la0, .i la1, .i la2, .i er], [C, O] => some ⟨SV.tup [],
    [(0,
      Obj.blk 66
        [(3, SC.int IntKind.i64 (SI.v (xi l 0))), (4, SC.int IntKind.i64 (SI.v (xi l 1))), (5, SC.int IntKind.i64 (SI.v (xi l 2))), (6, SC.int IntKind.i64 (SI.v (xi l 3))),
          (7, SC.int IntKind.i64 (SI.v (xi l 4))), (8, SC.int IntKind.i64 (SI.v (xi l 5))), (9, SC.int IntKind.i64 (SI.v (xi l 6))), (10, SC.int IntKind.i64 (SI.v (xi l 7))),
          (11, SC.int IntKind.i64 (SI.v (xi l 8))), (12, SC.int IntKind.i64 (SI.v (xi l 9))), (13, SC.int IntKind.i64 (SI.v (xi l 10))), (14, SC.int IntKind.i64 (SI.v (xi l 11))),
          (15, SC.int IntKind.i64 (SI.v (xi l 12))), (16, SC.bool (SB.v (xb l 13))), (17, SC.int IntKind.i64 (SI.v (xi l 14))), (18, SC.bool (SB.v (xb l 15))), (19, SC.int IntKind.i64 (SI.v (xi l 16))),
          (20, SC.int IntKind.i64 (SI.v (xi l 17))), (21, SC.int IntKind.i64 (SI.v (xi l 18))), (22, SC.int IntKind.i64 (SI.v (xi l 19))), (23, SC.int IntKind.i64 (SI.v (xi l 20))),
          (24, SC.bool (SB.v (xb l 21))), (25, SC.int IntKind.i64 (SI.v (xi y 0))), (26, SC.int IntKind.i64 (SI.v (xi y 1))), (27, SC.int IntKind.i64 (SI.v (xi y 2))),
          (28, SC.int IntKind.i64 (SI.v (xi y 3))), (29, SC.int IntKind.i64 (SI.v (xi y 4))), (30, SC.int IntKind.i64 (SI.v (xi y 5))), (31, SC.int IntKind.i64 (SI.v (xi y 6))),
          (32, SC.int IntKind.i64 (SI.v (xi y 7))), (33, SC.int IntKind.i64 (SI.v (xi y 8))), (34, SC.int IntKind.i64 (SI.v (xi y 9))), (35, SC.int IntKind.i64 (SI.v (xi y 10))),
          (36, SC.int IntKind.i64 (SI.v (xi y 11))), (37, SC.int IntKind.i64 (SI.v (xi y 12))), (38, SC.bool (SB.v (xb y 13))), (39, SC.int IntKind.i64 (SI.v (xi y 14))), (40, SC.bool (SB.v (xb y 15))),
          (41, SC.int IntKind.i64 (SI.v (xi y 16))), (42, SC.int IntKind.i64 (SI.v (xi y 17))), (43, SC.int IntKind.i64 (SI.v (xi y 18))), (44, SC.int IntKind.i64 (SI.v (xi y 19))),
          (45, SC.int IntKind.i64 (SI.v (xi y 20))), (46, SC.bool (SB.v (xb y 21))), (113, SC.int IntKind.i64 (SI.v a0)), (114, SC.int IntKind.i64 (SI.v a1)), (49, SC.bool (SB.v tr)), (197, SC.wh 195),
          (51, SC.bool (SB.v op)), (52, SC.bool (SB.v cl)), (53, SC.bool (SB.v en)), (54, SC.bool (SB.v mo)), (55, SC.int IntKind.i64 (SI.v la0)), (56, SC.int IntKind.i64 (SI.v la1)),
          (57, SC.int IntKind.i64 (SI.v la2)), (124, SC.wh 71), (59, SC.int IntKind.i64 (SI.v er))]),
    (195, Obj.row false 32 22 (RowC.lit 196 [])),
    (1,
      Obj.row false 32 22
        (RowC.lst 60
          [CK.int IntKind.i64, CK.int IntKind.i64, CK.int IntKind.i64, CK.int IntKind.i64, CK.int IntKind.i64, CK.int IntKind.i64, CK.int IntKind.i64, CK.int IntKind.i64, CK.int IntKind.i64,
            CK.int IntKind.i64, CK.int IntKind.i64, CK.int IntKind.i64, CK.int IntKind.i64, CK.bool, CK.int IntKind.i64, CK.bool, CK.int IntKind.i64, CK.int IntKind.i64, CK.int IntKind.i64,
            CK.int IntKind.i64, CK.int IntKind.i64, CK.bool]
          C)),
    (71,
      Obj.row false 32 22
        (RowC.lst 130
          [CK.int IntKind.i64, CK.int IntKind.i64, CK.int IntKind.i64, CK.int IntKind.i64, CK.int IntKind.i64, CK.int IntKind.i64, CK.int IntKind.i64, CK.int IntKind.i64, CK.int IntKind.i64,
            CK.int IntKind.i64, CK.int IntKind.i64, CK.int IntKind.i64, CK.int IntKind.i64, CK.bool, CK.int IntKind.i64, CK.bool, CK.int IntKind.i64, CK.int IntKind.i64, CK.int IntKind.i64,
            CK.int IntKind.i64, CK.int IntKind.i64, CK.bool]
          (release_44 l a0 a1 C O)))],
    [C.length ≤ 1000, O.length ≤ 900000], [], 198⟩
  | _, _ => none
theorem release_ok : FOk Try.prog 46 (tplG release_sp release_tpl release_out) := by
  refine tplG_ok (runF_ok known_relL 46) fun ps ls r hr hn _ => ?_
  unfold release_out at hr
  split at hr
  · cases hr; exact ⟨_, release_runs _ _ _ _ _ _ _ _ _ _ _ _ _ _ _ (release_weak (by exact hn)), fun _ => rfl⟩
  · cases hr
noncomputable def K_release : List (Nat × Summ) := (46, tplG release_sp release_tpl release_out) :: K_join
theorem known_release : Known Try.prog (sums K_release) L_rel := known_cons known_relL release_ok
end Go.Proofs.Ytmbfbhimdkjkoaa
namespace Go.Proofs.Ytmbfbhimdkjkoaa
open Go.SX Go.RowKit
theorem release_len (l : List GC) (a0 a1 : Int) (C O : List (List Int)) : (release_44 l a0 a1 C O).length ≤ O.length + C.length := (relL_len l a0 a1 C O).2
theorem ite_le {c : Bool} {a b : List (List Int)} {k : Nat} (h : a.length ≤ k) (h' : b.length ≤ k) : (bif c then a else b).length ≤ k := by cases c <;> assumption
noncomputable def begin_tpl : Tpl := ⟨[.one (.ptr 0 0), .agg [.int .i64, .int .i64, .int .i64, .int .i64, .int .i64, .int .i64, .int .i64, .int .i64, .int .i64, .int .i64, .int .i64, .int .i64, .int .i64, .bool, .int .i64, .bool, .int .i64, .int .i64, .int .i64, .int .i64, .int .i64, .bool]], [(0, .blk 66 [(3, .int .i64), (4, .int .i64), (5, .int .i64), (6, .int .i64), (7, .int .i64), (8, .int .i64), (9, .int .i64), (10, .int .i64), (11, .int .i64), (12, .int .i64), (13, .int .i64), (14, .int .i64), (15, .int .i64), (16, .bool), (17, .int .i64), (18, .bool), (19, .int .i64), (20, .int .i64), (21, .int .i64), (22, .int .i64), (23, .int .i64), (24, .bool), (25, .int .i64), (26, .int .i64), (27, .int .i64), (28, .int .i64), (29, .int .i64), (30, .int .i64), (31, .int .i64), (32, .int .i64), (33, .int .i64), (34, .int .i64), (35, .int .i64), (36, .int .i64), (37, .int .i64), (38, .bool), (39, .int .i64), (40, .bool), (41, .int .i64), (42, .int .i64), (43, .int .i64), (44, .int .i64), (45, .int .i64), (46, .bool), (47, .int .i64), (48, .int .i64), (49, .bool), (50, .wh 1), (51, .bool), (52, .bool), (53, .bool), (54, .bool), (55, .int .i64), (56, .int .i64), (57, .int .i64), (58, .wh 2), (59, .int .i64)]), (1, .row false 32 22 60 [.int .i64, .int .i64, .int .i64, .int .i64, .int .i64, .int .i64, .int .i64, .int .i64, .int .i64, .int .i64, .int .i64, .int .i64, .int .i64, .bool, .int .i64, .bool, .int .i64, .int .i64, .int .i64, .int .i64, .int .i64, .bool]), (2, .row false 32 22 61 [.int .i64, .int .i64, .int .i64, .int .i64, .int .i64, .int .i64, .int .i64, .int .i64, .int .i64, .int .i64, .int .i64, .int .i64, .int .i64, .bool, .int .i64, .bool, .int .i64, .int .i64, .int .i64, .int .i64, .int .i64, .bool])], 62⟩
noncomputable def begin_sp : List GK := [.v itemB, .v itemB, .v itemB, .i, .i, .b, .b, .b, .b, .b, .i, .i, .i, .i]
noncomputable def begin_0 (x : List GC) : Int := bif !leads_0 (nrm x) (xi x 8) (xi x 17) then 14 else 0
noncomputable def begin_1 (x : List GC) (l : List GC) : Int := bif !leads_0 (nrm x) (xi x 8) (xi x 17) then xi l 0 else xi x 0
noncomputable def begin_2 (x : List GC) (l : List GC) : Int := bif !leads_0 (nrm x) (xi x 8) (xi x 17) then xi l 1 else xi x 1
noncomputable def begin_3 (x : List GC) (l : List GC) : Int := bif !leads_0 (nrm x) (xi x 8) (xi x 17) then xi l 2 else xi x 2
noncomputable def begin_4 (x : List GC) (l : List GC) : Int := bif !leads_0 (nrm x) (xi x 8) (xi x 17) then xi l 3 else xi x 3
noncomputable def begin_5 (x : List GC) (l : List GC) : Int := bif !leads_0 (nrm x) (xi x 8) (xi x 17) then xi l 4 else xi x 4
noncomputable def begin_6 (x : List GC) (l : List GC) : Int := bif !leads_0 (nrm x) (xi x 8) (xi x 17) then xi l 5 else xi x 5
noncomputable def begin_7 (x : List GC) (l : List GC) : Int := bif !leads_0 (nrm x) (xi x 8) (xi x 17) then xi l 6 else xi x 6
noncomputable def begin_8 (x : List GC) (l : List GC) : Int := bif !leads_0 (nrm x) (xi x 8) (xi x 17) then xi l 7 else xi x 7
noncomputable def begin_9 (x : List GC) (l : List GC) : Int := bif !leads_0 (nrm x) (xi x 8) (xi x 17) then xi l 8 else xi x 8
noncomputable def begin_10 (x : List GC) (l : List GC) : Int := bif !leads_0 (nrm x) (xi x 8) (xi x 17) then xi l 9 else xi x 9
noncomputable def begin_11 (x : List GC) (l : List GC) : Int := bif !leads_0 (nrm x) (xi x 8) (xi x 17) then xi l 10 else xi x 10
noncomputable def begin_12 (x : List GC) (l : List GC) : Int := bif !leads_0 (nrm x) (xi x 8) (xi x 17) then xi l 11 else xi x 11
noncomputable def begin_13 (x : List GC) (l : List GC) : Int := bif !leads_0 (nrm x) (xi x 8) (xi x 17) then xi l 12 else xi x 12
noncomputable def begin_14 (x : List GC) (l : List GC) : Bool := bif !leads_0 (nrm x) (xi x 8) (xi x 17) then xb l 13 else xb x 13
noncomputable def begin_15 (x : List GC) (l : List GC) : Int := bif !leads_0 (nrm x) (xi x 8) (xi x 17) then xi l 14 else xi x 14
noncomputable def begin_16 (x : List GC) (l : List GC) : Bool := bif !leads_0 (nrm x) (xi x 8) (xi x 17) then xb l 15 else xb x 15
noncomputable def begin_17 (x : List GC) (l : List GC) : Int := bif !leads_0 (nrm x) (xi x 8) (xi x 17) then xi l 16 else xi x 16
noncomputable def begin_18 (x : List GC) (l : List GC) : Int := bif !leads_0 (nrm x) (xi x 8) (xi x 17) then xi l 17 else xi x 17
noncomputable def begin_19 (x : List GC) (l : List GC) : Int := bif !leads_0 (nrm x) (xi x 8) (xi x 17) then xi l 18 else xi x 18
noncomputable def begin_20 (x : List GC) (l : List GC) : Int := bif !leads_0 (nrm x) (xi x 8) (xi x 17) then xi l 19 else xi x 19
noncomputable def begin_21 (x : List GC) (l : List GC) : Int := bif !leads_0 (nrm x) (xi x 8) (xi x 17) then xi l 20 else xi x 20
noncomputable def begin_22 (x : List GC) (l : List GC) : Bool := bif !leads_0 (nrm x) (xi x 8) (xi x 17) then xb l 21 else xb x 21
noncomputable def begin_23 (x : List GC) (y : List GC) : Int := bif !leads_0 (nrm x) (xi x 8) (xi x 17) then xi y 0 else 0
noncomputable def begin_24 (x : List GC) (y : List GC) : Int := bif !leads_0 (nrm x) (xi x 8) (xi x 17) then xi y 1 else 0
noncomputable def begin_25 (x : List GC) (y : List GC) : Int := bif !leads_0 (nrm x) (xi x 8) (xi x 17) then xi y 2 else 0
noncomputable def begin_26 (x : List GC) (y : List GC) : Int := bif !leads_0 (nrm x) (xi x 8) (xi x 17) then xi y 3 else 0
noncomputable def begin_27 (x : List GC) (y : List GC) : Int := bif !leads_0 (nrm x) (xi x 8) (xi x 17) then xi y 4 else 0
noncomputable def begin_28 (x : List GC) (y : List GC) : Int := bif !leads_0 (nrm x) (xi x 8) (xi x 17) then xi y 5 else 0
noncomputable def begin_29 (x : List GC) (y : List GC) : Int := bif !leads_0 (nrm x) (xi x 8) (xi x 17) then xi y 6 else 0
noncomputable def begin_30 (x : List GC) (y : List GC) : Int := bif !leads_0 (nrm x) (xi x 8) (xi x 17) then xi y 7 else 0
noncomputable def begin_31 (x : List GC) (y : List GC) : Int := bif !leads_0 (nrm x) (xi x 8) (xi x 17) then xi y 8 else 0
noncomputable def begin_32 (x : List GC) (y : List GC) : Int := bif !leads_0 (nrm x) (xi x 8) (xi x 17) then xi y 9 else 0
noncomputable def begin_33 (x : List GC) (y : List GC) : Int := bif !leads_0 (nrm x) (xi x 8) (xi x 17) then xi y 10 else 0
noncomputable def begin_34 (x : List GC) (y : List GC) : Int := bif !leads_0 (nrm x) (xi x 8) (xi x 17) then xi y 11 else 0
noncomputable def begin_35 (x : List GC) (y : List GC) : Int := bif !leads_0 (nrm x) (xi x 8) (xi x 17) then xi y 12 else 0
noncomputable def begin_36 (x : List GC) (y : List GC) : Bool := !leads_0 (nrm x) (xi x 8) (xi x 17) && xb y 13
noncomputable def begin_37 (x : List GC) (y : List GC) : Int := bif !leads_0 (nrm x) (xi x 8) (xi x 17) then xi y 14 else 0
noncomputable def begin_38 (x : List GC) (y : List GC) : Bool := !leads_0 (nrm x) (xi x 8) (xi x 17) && xb y 15
noncomputable def begin_39 (x : List GC) (y : List GC) : Int := bif !leads_0 (nrm x) (xi x 8) (xi x 17) then xi y 16 else 0
noncomputable def begin_40 (x : List GC) (y : List GC) : Int := bif !leads_0 (nrm x) (xi x 8) (xi x 17) then xi y 17 else 0
noncomputable def begin_41 (x : List GC) (y : List GC) : Int := bif !leads_0 (nrm x) (xi x 8) (xi x 17) then xi y 18 else 0
noncomputable def begin_42 (x : List GC) (y : List GC) : Int := bif !leads_0 (nrm x) (xi x 8) (xi x 17) then xi y 19 else 0
noncomputable def begin_43 (x : List GC) (y : List GC) : Int := bif !leads_0 (nrm x) (xi x 8) (xi x 17) then xi y 20 else 0
noncomputable def begin_44 (x : List GC) (y : List GC) : Bool := !leads_0 (nrm x) (xi x 8) (xi x 17) && xb y 21
noncomputable def begin_45 (x : List GC) (a0 : Int) : Int := bif !leads_0 (nrm x) (xi x 8) (xi x 17) then a0 else 0
noncomputable def begin_47 (x : List GC) (tr : Bool) : Bool := !leads_0 (nrm x) (xi x 8) (xi x 17) && tr
noncomputable def begin_48 (x : List GC) (op : Bool) : Bool := bif !leads_0 (nrm x) (xi x 8) (xi x 17) then op else true
noncomputable def begin_49 (x : List GC) (C : List (List Int)) : List (List Int) := bif !leads_0 (nrm x) (xi x 8) (xi x 17) then C else []
noncomputable def v9_c7 := [CK.int IntKind.i64, CK.int IntKind.i64, CK.int IntKind.i64, CK.int IntKind.i64, CK.int IntKind.i64, CK.int IntKind.i64, CK.int IntKind.i64, CK.int IntKind.i64, CK.int IntKind.i64, CK.int
   IntKind.i64, CK.int IntKind.i64, CK.int IntKind.i64, CK.int IntKind.i64, CK.bool, CK.int IntKind.i64, CK.bool, CK.int IntKind.i64, CK.int IntKind.i64, CK.int IntKind.i64, CK.int IntKind.i64, CK.int IntKind.i64, CK.bool]
noncomputable def v9_c10 (x : List GC) (l : List GC) (y : List GC) (a0 : Int) (a1 : Int) (tr : Bool) (op : Bool) (cl : Bool) (en : Bool) (mo : Bool) (la0 : Int) (la1 : Int) (la2 : Int) (er : Int) (C : List (List Int)) (O : List (List Int)) := [(0, Obj.blk 66 [(413, SC.int IntKind.i64 (SI.v (begin_1 x l))), (414, SC.int IntKind.i64 (SI.v (begin_2 x l))), (415, SC.int IntKind.i64 (SI.v (begin_3 x l))), (416, SC.int IntKind.i64 (SI.v
   (begin_4 x l))), (417, SC.int IntKind.i64 (SI.v (begin_5 x l))), (418, SC.int IntKind.i64 (SI.v (begin_6 x l))), (419, SC.int IntKind.i64 (SI.v (begin_7 x l))), (420, SC.int IntKind.i64 (SI.v
   (begin_8 x l))), (421, SC.int IntKind.i64 (SI.v (begin_9 x l))), (422, SC.int IntKind.i64 (SI.v (begin_10 x l))), (423, SC.int IntKind.i64 (SI.v (begin_11 x l))), (424, SC.int IntKind.i64 (SI.v
   (begin_12 x l))), (425, SC.int IntKind.i64 (SI.v (begin_13 x l))), (426, SC.bool (SB.v (begin_14 x l))), (427, SC.int IntKind.i64 (SI.v (begin_15 x l))), (428, SC.bool (SB.v (begin_16 x l))), (429,
   SC.int IntKind.i64 (SI.v (begin_17 x l))), (430, SC.int IntKind.i64 (SI.v (begin_18 x l))), (431, SC.int IntKind.i64 (SI.v (begin_19 x l))), (432, SC.int IntKind.i64 (SI.v (begin_20 x l))), (433,
   SC.int IntKind.i64 (SI.v (begin_21 x l))), (434, SC.bool (SB.v (begin_22 x l))), (435, SC.int IntKind.i64 (SI.v (begin_23 x y))), (436, SC.int IntKind.i64 (SI.v (begin_24 x y))), (437, SC.int
   IntKind.i64 (SI.v (begin_25 x y))), (438, SC.int IntKind.i64 (SI.v (begin_26 x y))), (439, SC.int IntKind.i64 (SI.v (begin_27 x y))), (440, SC.int IntKind.i64 (SI.v (begin_28 x y))), (441, SC.int
   IntKind.i64 (SI.v (begin_29 x y))), (442, SC.int IntKind.i64 (SI.v (begin_30 x y))), (443, SC.int IntKind.i64 (SI.v (begin_31 x y))), (444, SC.int IntKind.i64 (SI.v (begin_32 x y))), (445, SC.int
   IntKind.i64 (SI.v (begin_33 x y))), (446, SC.int IntKind.i64 (SI.v (begin_34 x y))), (447, SC.int IntKind.i64 (SI.v (begin_35 x y))), (448, SC.bool (SB.v (begin_36 x y))), (449, SC.int IntKind.i64
   (SI.v (begin_37 x y))), (450, SC.bool (SB.v (begin_38 x y))), (451, SC.int IntKind.i64 (SI.v (begin_39 x y))), (452, SC.int IntKind.i64 (SI.v (begin_40 x y))), (453, SC.int IntKind.i64 (SI.v
   (begin_41 x y))), (454, SC.int IntKind.i64 (SI.v (begin_42 x y))), (455, SC.int IntKind.i64 (SI.v (begin_43 x y))), (456, SC.bool (SB.v (begin_44 x y))), (457, SC.int IntKind.i64 (SI.v (begin_45 x
   a0))), (458, SC.int IntKind.i64 (SI.v (begin_45 x a1))), (459, SC.bool (SB.v (begin_47 x tr))), (411, SC.wh 409), (460, SC.bool (SB.v (begin_48 x op))), (52, SC.bool (SB.v cl)), (53, SC.bool (SB.v
   en)), (54, SC.bool (SB.v mo)), (55, SC.int IntKind.i64 (SI.v la0)), (56, SC.int IntKind.i64 (SI.v la1)), (57, SC.int IntKind.i64 (SI.v la2)), (58, SC.wh 2), (59, SC.int IntKind.i64 (SI.v er))]),
   (409, Obj.row false 32 22 (RowC.lst 412 v9_c7 (begin_49 x C))), (2, Obj.row false 32 22 (RowC.lst 61 v9_c7 O))]
set_option maxRecDepth 1000000 in
theorem begin_runs (x l y : List GC) (a0 a1 : Int) (tr op cl en mo : Bool) (la0 la1 la2 er : Int) (C O : List (List Int)) : Runs (runF (sums K_release) L_rel 37) (begin_tpl.args (spread begin_sp [.v x, .v l, .v y, .i a0, .i a1, .b tr, .b op, .b cl, .b en, .b mo, .i la0, .i la1, .i la2, .i er])) (begin_tpl.memo (spread begin_sp [.v x, .v l, .v y, .i a0, .i a1, .b tr, .b op, .b cl, .b en, .b mo, .i la0, .i la1, .i la2, .i er]) [C, O]) begin_tpl.n (SV.one (SC.int IntKind.i64 (SI.v (begin_0 x)))) ((v9_c10 x l y a0 a1 tr op cl en mo la0 la1 la2 er C O)) :=
  Runs.of1 (ps := []) (by kernel_rfl) (by simp)
noncomputable def begin_out : List Gm → Lss → Option CRes
  | [.v x, .v l, .v y, .i a0, .i a1, .b tr, .b op, .b cl, .b en, .b mo, .i la0, .i la1, .i la2, .i er], [C, O] => some ⟨SV.one (SC.int IntKind.i64 (SI.v (begin_0 x))), (v9_c10 x l y a0 a1 tr op cl en mo la0 la1 la2 er C O), [], [], 461⟩
  | _, _ => none
theorem begin_ok : FOk Try.prog 37 (tplG begin_sp begin_tpl begin_out) := by
  refine tplG_ok (runF_ok known_release 37) fun ps ls r hr hn _ => ?_
  unfold begin_out at hr
  split at hr
  · cases hr; exact ⟨_, begin_runs _ _ _ _ _ _ _ _ _ _ _ _ _ _ _ _, fun _ => rfl⟩
  · cases hr
noncomputable def K_begin : List (Nat × Summ) := (37, tplG begin_sp begin_tpl begin_out) :: K_release
theorem known_begin : Known Try.prog (sums K_begin) L_rel := known_cons known_release begin_ok
noncomputable def enter_tpl : Tpl := ⟨[.one (.ptr 0 0), .agg [.int .i64, .int .i64, .int .i64, .int .i64, .int .i64, .int .i64, .int .i64, .int .i64, .int .i64, .int .i64, .int .i64, .int .i64, .int .i64, .bool, .int .i64, .bool, .int .i64, .int .i64, .int .i64, .int .i64, .int .i64, .bool]], [(0, .blk 66 [(3, .int .i64), (4, .int .i64), (5, .int .i64), (6, .int .i64), (7, .int .i64), (8, .int .i64), (9, .int .i64), (10, .int .i64), (11, .int .i64), (12, .int .i64), (13, .int .i64), (14, .int .i64), (15, .int .i64), (16, .bool), (17, .int .i64), (18, .bool), (19, .int .i64), (20, .int .i64), (21, .int .i64), (22, .int .i64), (23, .int .i64), (24, .bool), (25, .int .i64), (26, .int .i64), (27, .int .i64), (28, .int .i64), (29, .int .i64), (30, .int .i64), (31, .int .i64), (32, .int .i64), (33, .int .i64), (34, .int .i64), (35, .int .i64), (36, .int .i64), (37, .int .i64), (38, .bool), (39, .int .i64), (40, .bool), (41, .int .i64), (42, .int .i64), (43, .int .i64), (44, .int .i64), (45, .int .i64), (46, .bool), (47, .int .i64), (48, .int .i64), (49, .bool), (50, .wh 1), (51, .bool), (52, .bool), (53, .bool), (54, .bool), (55, .int .i64), (56, .int .i64), (57, .int .i64), (58, .wh 2), (59, .int .i64)]), (1, .row false 32 22 60 [.int .i64, .int .i64, .int .i64, .int .i64, .int .i64, .int .i64, .int .i64, .int .i64, .int .i64, .int .i64, .int .i64, .int .i64, .int .i64, .bool, .int .i64, .bool, .int .i64, .int .i64, .int .i64, .int .i64, .int .i64, .bool]), (2, .row false 32 22 61 [.int .i64, .int .i64, .int .i64, .int .i64, .int .i64, .int .i64, .int .i64, .int .i64, .int .i64, .int .i64, .int .i64, .int .i64, .int .i64, .bool, .int .i64, .bool, .int .i64, .int .i64, .int .i64, .int .i64, .int .i64, .bool])], 62⟩
noncomputable def enter_sp : List GK := [.v itemB, .v itemB, .v itemB, .i, .i, .b, .b, .b, .b, .b, .i, .i, .i, .i]
noncomputable def enter_s0 (x : List GC) (l : List GC) : Int := oends_4 (flat_0 (xi l 8) (xi x 2) (xi x 3) (xi x 4)) (flat_1 (xi l 8) (xi x 2) (xi x 3) (xi x 4)) (flat_0 (xi l 8) (xi x 5) (xi x 6) (xi x 7)) (flat_1 (xi l 8) (xi x 5) (xi x 6) (xi x 7)) (bif xi x
   0 == 3 then flat_0 (xi l 8) (xi x 9) (xi x 10) (xi x 11) else 0) (bif xi x 0 == 3 then flat_1 (xi l 8) (xi x 9) (xi x 10) (xi x 11) else 0) (bif xi x 0 == 3 then xi x 12 else 0) (IntKind.i64.wrap (xi l 16 * xi l 17))
noncomputable def enter_0 (x : List GC) (l : List GC) : Int := bif enter_s0 x l != 0 then enter_s0 x l else 0
noncomputable def enter_23 (x : List GC) (l : List GC) (y : List GC) : Int := bif oends_4 (flat_0 (xi l 8) (xi x 2) (xi x 3) (xi x 4)) (flat_1 (xi l 8) (xi x 2) (xi x 3) (xi x 4)) (flat_0 (xi l 8) (xi x 5) (xi x 6) (xi x 7)) (flat_1 (xi l 8) (xi x 5) (xi x 6) (xi x 7)) (bif
   xi x 0 == 3 then flat_0 (xi l 8) (xi x 9) (xi x 10) (xi x 11) else 0) (bif xi x 0 == 3 then flat_1 (xi l 8) (xi x 9) (xi x 10) (xi x 11) else 0) (bif xi x 0 == 3 then xi x 12 else 0)
   (IntKind.i64.wrap (xi l 16 * xi l 17)) != 0 then xi y 0 else xi x 0
noncomputable def enter_24 (x : List GC) (l : List GC) (y : List GC) : Int := bif oends_4 (flat_0 (xi l 8) (xi x 2) (xi x 3) (xi x 4)) (flat_1 (xi l 8) (xi x 2) (xi x 3) (xi x 4)) (flat_0 (xi l 8) (xi x 5) (xi x 6) (xi x 7)) (flat_1 (xi l 8) (xi x 5) (xi x 6) (xi x 7)) (bif
   xi x 0 == 3 then flat_0 (xi l 8) (xi x 9) (xi x 10) (xi x 11) else 0) (bif xi x 0 == 3 then flat_1 (xi l 8) (xi x 9) (xi x 10) (xi x 11) else 0) (bif xi x 0 == 3 then xi x 12 else 0)
   (IntKind.i64.wrap (xi l 16 * xi l 17)) != 0 then xi y 1 else xi x 1
noncomputable def enter_25 (x : List GC) (l : List GC) (y : List GC) : Int := bif oends_4 (flat_0 (xi l 8) (xi x 2) (xi x 3) (xi x 4)) (flat_1 (xi l 8) (xi x 2) (xi x 3) (xi x 4)) (flat_0 (xi l 8) (xi x 5) (xi x 6) (xi x 7)) (flat_1 (xi l 8) (xi x 5) (xi x 6) (xi x 7)) (bif
   xi x 0 == 3 then flat_0 (xi l 8) (xi x 9) (xi x 10) (xi x 11) else 0) (bif xi x 0 == 3 then flat_1 (xi l 8) (xi x 9) (xi x 10) (xi x 11) else 0) (bif xi x 0 == 3 then xi x 12 else 0)
   (IntKind.i64.wrap (xi l 16 * xi l 17)) != 0 then xi y 2 else xi x 2
noncomputable def enter_26 (x : List GC) (l : List GC) (y : List GC) : Int := bif oends_4 (flat_0 (xi l 8) (xi x 2) (xi x 3) (xi x 4)) (flat_1 (xi l 8) (xi x 2) (xi x 3) (xi x 4)) (flat_0 (xi l 8) (xi x 5) (xi x 6) (xi x 7)) (flat_1 (xi l 8) (xi x 5) (xi x 6) (xi x 7)) (bif
   xi x 0 == 3 then flat_0 (xi l 8) (xi x 9) (xi x 10) (xi x 11) else 0) (bif xi x 0 == 3 then flat_1 (xi l 8) (xi x 9) (xi x 10) (xi x 11) else 0) (bif xi x 0 == 3 then xi x 12 else 0)
   (IntKind.i64.wrap (xi l 16 * xi l 17)) != 0 then xi y 3 else xi x 3
noncomputable def enter_27 (x : List GC) (l : List GC) (y : List GC) : Int := bif oends_4 (flat_0 (xi l 8) (xi x 2) (xi x 3) (xi x 4)) (flat_1 (xi l 8) (xi x 2) (xi x 3) (xi x 4)) (flat_0 (xi l 8) (xi x 5) (xi x 6) (xi x 7)) (flat_1 (xi l 8) (xi x 5) (xi x 6) (xi x 7)) (bif
   xi x 0 == 3 then flat_0 (xi l 8) (xi x 9) (xi x 10) (xi x 11) else 0) (bif xi x 0 == 3 then flat_1 (xi l 8) (xi x 9) (xi x 10) (xi x 11) else 0) (bif xi x 0 == 3 then xi x 12 else 0)
   (IntKind.i64.wrap (xi l 16 * xi l 17)) != 0 then xi y 4 else xi x 4
noncomputable def enter_28 (x : List GC) (l : List GC) (y : List GC) : Int := bif oends_4 (flat_0 (xi l 8) (xi x 2) (xi x 3) (xi x 4)) (flat_1 (xi l 8) (xi x 2) (xi x 3) (xi x 4)) (flat_0 (xi l 8) (xi x 5) (xi x 6) (xi x 7)) (flat_1 (xi l 8) (xi x 5) (xi x 6) (xi x 7)) (bif
   xi x 0 == 3 then flat_0 (xi l 8) (xi x 9) (xi x 10) (xi x 11) else 0) (bif xi x 0 == 3 then flat_1 (xi l 8) (xi x 9) (xi x 10) (xi x 11) else 0) (bif xi x 0 == 3 then xi x 12 else 0)
   (IntKind.i64.wrap (xi l 16 * xi l 17)) != 0 then xi y 5 else xi x 5
noncomputable def enter_29 (x : List GC) (l : List GC) (y : List GC) : Int := bif oends_4 (flat_0 (xi l 8) (xi x 2) (xi x 3) (xi x 4)) (flat_1 (xi l 8) (xi x 2) (xi x 3) (xi x 4)) (flat_0 (xi l 8) (xi x 5) (xi x 6) (xi x 7)) (flat_1 (xi l 8) (xi x 5) (xi x 6) (xi x 7)) (bif
   xi x 0 == 3 then flat_0 (xi l 8) (xi x 9) (xi x 10) (xi x 11) else 0) (bif xi x 0 == 3 then flat_1 (xi l 8) (xi x 9) (xi x 10) (xi x 11) else 0) (bif xi x 0 == 3 then xi x 12 else 0)
   (IntKind.i64.wrap (xi l 16 * xi l 17)) != 0 then xi y 6 else xi x 6
noncomputable def enter_30 (x : List GC) (l : List GC) (y : List GC) : Int := bif oends_4 (flat_0 (xi l 8) (xi x 2) (xi x 3) (xi x 4)) (flat_1 (xi l 8) (xi x 2) (xi x 3) (xi x 4)) (flat_0 (xi l 8) (xi x 5) (xi x 6) (xi x 7)) (flat_1 (xi l 8) (xi x 5) (xi x 6) (xi x 7)) (bif
   xi x 0 == 3 then flat_0 (xi l 8) (xi x 9) (xi x 10) (xi x 11) else 0) (bif xi x 0 == 3 then flat_1 (xi l 8) (xi x 9) (xi x 10) (xi x 11) else 0) (bif xi x 0 == 3 then xi x 12 else 0)
   (IntKind.i64.wrap (xi l 16 * xi l 17)) != 0 then xi y 7 else xi x 7
noncomputable def enter_31 (x : List GC) (l : List GC) (y : List GC) : Int := bif oends_4 (flat_0 (xi l 8) (xi x 2) (xi x 3) (xi x 4)) (flat_1 (xi l 8) (xi x 2) (xi x 3) (xi x 4)) (flat_0 (xi l 8) (xi x 5) (xi x 6) (xi x 7)) (flat_1 (xi l 8) (xi x 5) (xi x 6) (xi x 7)) (bif
   xi x 0 == 3 then flat_0 (xi l 8) (xi x 9) (xi x 10) (xi x 11) else 0) (bif xi x 0 == 3 then flat_1 (xi l 8) (xi x 9) (xi x 10) (xi x 11) else 0) (bif xi x 0 == 3 then xi x 12 else 0)
   (IntKind.i64.wrap (xi l 16 * xi l 17)) != 0 then xi y 8 else xi x 8
noncomputable def enter_32 (x : List GC) (l : List GC) (y : List GC) : Int := bif oends_4 (flat_0 (xi l 8) (xi x 2) (xi x 3) (xi x 4)) (flat_1 (xi l 8) (xi x 2) (xi x 3) (xi x 4)) (flat_0 (xi l 8) (xi x 5) (xi x 6) (xi x 7)) (flat_1 (xi l 8) (xi x 5) (xi x 6) (xi x 7)) (bif
   xi x 0 == 3 then flat_0 (xi l 8) (xi x 9) (xi x 10) (xi x 11) else 0) (bif xi x 0 == 3 then flat_1 (xi l 8) (xi x 9) (xi x 10) (xi x 11) else 0) (bif xi x 0 == 3 then xi x 12 else 0)
   (IntKind.i64.wrap (xi l 16 * xi l 17)) != 0 then xi y 9 else xi x 9
noncomputable def enter_33 (x : List GC) (l : List GC) (y : List GC) : Int := bif oends_4 (flat_0 (xi l 8) (xi x 2) (xi x 3) (xi x 4)) (flat_1 (xi l 8) (xi x 2) (xi x 3) (xi x 4)) (flat_0 (xi l 8) (xi x 5) (xi x 6) (xi x 7)) (flat_1 (xi l 8) (xi x 5) (xi x 6) (xi x 7)) (bif
   xi x 0 == 3 then flat_0 (xi l 8) (xi x 9) (xi x 10) (xi x 11) else 0) (bif xi x 0 == 3 then flat_1 (xi l 8) (xi x 9) (xi x 10) (xi x 11) else 0) (bif xi x 0 == 3 then xi x 12 else 0)
   (IntKind.i64.wrap (xi l 16 * xi l 17)) != 0 then xi y 10 else xi x 10
noncomputable def enter_34 (x : List GC) (l : List GC) (y : List GC) : Int := bif oends_4 (flat_0 (xi l 8) (xi x 2) (xi x 3) (xi x 4)) (flat_1 (xi l 8) (xi x 2) (xi x 3) (xi x 4)) (flat_0 (xi l 8) (xi x 5) (xi x 6) (xi x 7)) (flat_1 (xi l 8) (xi x 5) (xi x 6) (xi x 7)) (bif
   xi x 0 == 3 then flat_0 (xi l 8) (xi x 9) (xi x 10) (xi x 11) else 0) (bif xi x 0 == 3 then flat_1 (xi l 8) (xi x 9) (xi x 10) (xi x 11) else 0) (bif xi x 0 == 3 then xi x 12 else 0)
   (IntKind.i64.wrap (xi l 16 * xi l 17)) != 0 then xi y 11 else xi x 11
noncomputable def enter_35 (x : List GC) (l : List GC) (y : List GC) : Int := bif oends_4 (flat_0 (xi l 8) (xi x 2) (xi x 3) (xi x 4)) (flat_1 (xi l 8) (xi x 2) (xi x 3) (xi x 4)) (flat_0 (xi l 8) (xi x 5) (xi x 6) (xi x 7)) (flat_1 (xi l 8) (xi x 5) (xi x 6) (xi x 7)) (bif
   xi x 0 == 3 then flat_0 (xi l 8) (xi x 9) (xi x 10) (xi x 11) else 0) (bif xi x 0 == 3 then flat_1 (xi l 8) (xi x 9) (xi x 10) (xi x 11) else 0) (bif xi x 0 == 3 then xi x 12 else 0)
   (IntKind.i64.wrap (xi l 16 * xi l 17)) != 0 then xi y 12 else xi x 12
noncomputable def enter_36 (x : List GC) (l : List GC) (y : List GC) : Bool := bif oends_4 (flat_0 (xi l 8) (xi x 2) (xi x 3) (xi x 4)) (flat_1 (xi l 8) (xi x 2) (xi x 3) (xi x 4)) (flat_0 (xi l 8) (xi x 5) (xi x 6) (xi x 7)) (flat_1 (xi l 8) (xi x 5) (xi x 6) (xi x 7)) (bif
   xi x 0 == 3 then flat_0 (xi l 8) (xi x 9) (xi x 10) (xi x 11) else 0) (bif xi x 0 == 3 then flat_1 (xi l 8) (xi x 9) (xi x 10) (xi x 11) else 0) (bif xi x 0 == 3 then xi x 12 else 0)
   (IntKind.i64.wrap (xi l 16 * xi l 17)) != 0 then xb y 13 else xb x 13
noncomputable def enter_37 (x : List GC) (l : List GC) (y : List GC) : Int := bif oends_4 (flat_0 (xi l 8) (xi x 2) (xi x 3) (xi x 4)) (flat_1 (xi l 8) (xi x 2) (xi x 3) (xi x 4)) (flat_0 (xi l 8) (xi x 5) (xi x 6) (xi x 7)) (flat_1 (xi l 8) (xi x 5) (xi x 6) (xi x 7)) (bif
   xi x 0 == 3 then flat_0 (xi l 8) (xi x 9) (xi x 10) (xi x 11) else 0) (bif xi x 0 == 3 then flat_1 (xi l 8) (xi x 9) (xi x 10) (xi x 11) else 0) (bif xi x 0 == 3 then xi x 12 else 0)
   (IntKind.i64.wrap (xi l 16 * xi l 17)) != 0 then xi y 14 else xi x 14
noncomputable def enter_38 (x : List GC) (l : List GC) (y : List GC) : Bool := bif oends_4 (flat_0 (xi l 8) (xi x 2) (xi x 3) (xi x 4)) (flat_1 (xi l 8) (xi x 2) (xi x 3) (xi x 4)) (flat_0 (xi l 8) (xi x 5) (xi x 6) (xi x 7)) (flat_1 (xi l 8) (xi x 5) (xi x 6) (xi x 7)) (bif
   xi x 0 == 3 then flat_0 (xi l 8) (xi x 9) (xi x 10) (xi x 11) else 0) (bif xi x 0 == 3 then flat_1 (xi l 8) (xi x 9) (xi x 10) (xi x 11) else 0) (bif xi x 0 == 3 then xi x 12 else 0)
   (IntKind.i64.wrap (xi l 16 * xi l 17)) != 0 then xb y 15 else xb x 15
noncomputable def enter_39 (x : List GC) (l : List GC) (y : List GC) : Int := bif oends_4 (flat_0 (xi l 8) (xi x 2) (xi x 3) (xi x 4)) (flat_1 (xi l 8) (xi x 2) (xi x 3) (xi x 4)) (flat_0 (xi l 8) (xi x 5) (xi x 6) (xi x 7)) (flat_1 (xi l 8) (xi x 5) (xi x 6) (xi x 7)) (bif
   xi x 0 == 3 then flat_0 (xi l 8) (xi x 9) (xi x 10) (xi x 11) else 0) (bif xi x 0 == 3 then flat_1 (xi l 8) (xi x 9) (xi x 10) (xi x 11) else 0) (bif xi x 0 == 3 then xi x 12 else 0)
   (IntKind.i64.wrap (xi l 16 * xi l 17)) != 0 then xi y 16 else xi x 16
noncomputable def enter_40 (x : List GC) (l : List GC) (y : List GC) : Int := bif oends_4 (flat_0 (xi l 8) (xi x 2) (xi x 3) (xi x 4)) (flat_1 (xi l 8) (xi x 2) (xi x 3) (xi x 4)) (flat_0 (xi l 8) (xi x 5) (xi x 6) (xi x 7)) (flat_1 (xi l 8) (xi x 5) (xi x 6) (xi x 7)) (bif
   xi x 0 == 3 then flat_0 (xi l 8) (xi x 9) (xi x 10) (xi x 11) else 0) (bif xi x 0 == 3 then flat_1 (xi l 8) (xi x 9) (xi x 10) (xi x 11) else 0) (bif xi x 0 == 3 then xi x 12 else 0)
   (IntKind.i64.wrap (xi l 16 * xi l 17)) != 0 then xi y 17 else xi x 17
noncomputable def enter_41 (x : List GC) (l : List GC) (y : List GC) : Int := bif oends_4 (flat_0 (xi l 8) (xi x 2) (xi x 3) (xi x 4)) (flat_1 (xi l 8) (xi x 2) (xi x 3) (xi x 4)) (flat_0 (xi l 8) (xi x 5) (xi x 6) (xi x 7)) (flat_1 (xi l 8) (xi x 5) (xi x 6) (xi x 7)) (bif
   xi x 0 == 3 then flat_0 (xi l 8) (xi x 9) (xi x 10) (xi x 11) else 0) (bif xi x 0 == 3 then flat_1 (xi l 8) (xi x 9) (xi x 10) (xi x 11) else 0) (bif xi x 0 == 3 then xi x 12 else 0)
   (IntKind.i64.wrap (xi l 16 * xi l 17)) != 0 then xi y 18 else xi x 18
noncomputable def enter_42 (x : List GC) (l : List GC) (y : List GC) : Int := bif oends_4 (flat_0 (xi l 8) (xi x 2) (xi x 3) (xi x 4)) (flat_1 (xi l 8) (xi x 2) (xi x 3) (xi x 4)) (flat_0 (xi l 8) (xi x 5) (xi x 6) (xi x 7)) (flat_1 (xi l 8) (xi x 5) (xi x 6) (xi x 7)) (bif
   xi x 0 == 3 then flat_0 (xi l 8) (xi x 9) (xi x 10) (xi x 11) else 0) (bif xi x 0 == 3 then flat_1 (xi l 8) (xi x 9) (xi x 10) (xi x 11) else 0) (bif xi x 0 == 3 then xi x 12 else 0)
   (IntKind.i64.wrap (xi l 16 * xi l 17)) != 0 then xi y 19 else xi x 19
noncomputable def enter_43 (x : List GC) (l : List GC) (y : List GC) : Int := bif oends_4 (flat_0 (xi l 8) (xi x 2) (xi x 3) (xi x 4)) (flat_1 (xi l 8) (xi x 2) (xi x 3) (xi x 4)) (flat_0 (xi l 8) (xi x 5) (xi x 6) (xi x 7)) (flat_1 (xi l 8) (xi x 5) (xi x 6) (xi x 7)) (bif
   xi x 0 == 3 then flat_0 (xi l 8) (xi x 9) (xi x 10) (xi x 11) else 0) (bif xi x 0 == 3 then flat_1 (xi l 8) (xi x 9) (xi x 10) (xi x 11) else 0) (bif xi x 0 == 3 then xi x 12 else 0)
   (IntKind.i64.wrap (xi l 16 * xi l 17)) != 0 then xi y 20 else xi x 20
noncomputable def enter_44 (x : List GC) (l : List GC) (y : List GC) : Bool := bif oends_4 (flat_0 (xi l 8) (xi x 2) (xi x 3) (xi x 4)) (flat_1 (xi l 8) (xi x 2) (xi x 3) (xi x 4)) (flat_0 (xi l 8) (xi x 5) (xi x 6) (xi x 7)) (flat_1 (xi l 8) (xi x 5) (xi x 6) (xi x 7)) (bif
   xi x 0 == 3 then flat_0 (xi l 8) (xi x 9) (xi x 10) (xi x 11) else 0) (bif xi x 0 == 3 then flat_1 (xi l 8) (xi x 9) (xi x 10) (xi x 11) else 0) (bif xi x 0 == 3 then xi x 12 else 0)
   (IntKind.i64.wrap (xi l 16 * xi l 17)) != 0 then xb y 21 else xb x 21
noncomputable def enter_s1 (x : List GC) (l : List GC) : Int := bif xi x 0 == 3 then flat_0 (xi l 8) (xi x 9) (xi x 10) (xi x 11) else 0
noncomputable def enter_s2 (x : List GC) (l : List GC) : Int := bif xi x 0 == 3 then flat_1 (xi l 8) (xi x 9) (xi x 10) (xi x 11) else 0
noncomputable def enter_s3 (x : List GC) : Int := bif xi x 0 == 3 then xi x 12 else 0
noncomputable def enter_45 (x : List GC) (l : List GC) (a0 : Int) : Int := bif oends_4 (flat_0 (xi l 8) (xi x 2) (xi x 3) (xi x 4)) (flat_1 (xi l 8) (xi x 2) (xi x 3) (xi x 4)) (flat_0 (xi l 8) (xi x 5) (xi x 6) (xi x 7)) (flat_1 (xi l 8) (xi x 5) (xi x 6) (xi x 7))
   (enter_s1 x l) (enter_s2 x l) (enter_s3 x) (IntKind.i64.wrap (xi l 16 * xi l 17)) != 0 then a0 else oends_0 (flat_0 (xi l 8) (xi x 2) (xi x 3) (xi x 4)) (flat_1 (xi l 8) (xi x 2) (xi x 3) (xi x 4))
   (flat_0 (xi l 8) (xi x 5) (xi x 6) (xi x 7)) (flat_1 (xi l 8) (xi x 5) (xi x 6) (xi x 7)) (enter_s1 x l) (enter_s2 x l) (enter_s3 x) (IntKind.i64.wrap (xi l 16 * xi l 17))
noncomputable def enter_46 (x : List GC) (l : List GC) (a1 : Int) : Int := bif oends_4 (flat_0 (xi l 8) (xi x 2) (xi x 3) (xi x 4)) (flat_1 (xi l 8) (xi x 2) (xi x 3) (xi x 4)) (flat_0 (xi l 8) (xi x 5) (xi x 6) (xi x 7)) (flat_1 (xi l 8) (xi x 5) (xi x 6) (xi x 7))
   (enter_s1 x l) (enter_s2 x l) (enter_s3 x) (IntKind.i64.wrap (xi l 16 * xi l 17)) != 0 then a1 else oends_1 (flat_0 (xi l 8) (xi x 2) (xi x 3) (xi x 4)) (flat_1 (xi l 8) (xi x 2) (xi x 3) (xi x 4))
   (flat_0 (xi l 8) (xi x 5) (xi x 6) (xi x 7)) (flat_1 (xi l 8) (xi x 5) (xi x 6) (xi x 7)) (enter_s1 x l) (enter_s2 x l) (enter_s3 x) (IntKind.i64.wrap (xi l 16 * xi l 17))
noncomputable def enter_s4 (x : List GC) (l : List GC) : Int := oends_0 (flat_0 (xi l 8) (xi x 2) (xi x 3) (xi x 4)) (flat_1 (xi l 8) (xi x 2) (xi x 3) (xi x 4)) (flat_0 (xi l 8) (xi x 5) (xi x 6) (xi x 7)) (flat_1 (xi l 8) (xi x 5) (xi x 6) (xi x 7)) (enter_s1
   x l) (enter_s2 x l) (enter_s3 x) (IntKind.i64.wrap (xi l 16 * xi l 17))
noncomputable def enter_s5 (x : List GC) (l : List GC) : Int := oends_1 (flat_0 (xi l 8) (xi x 2) (xi x 3) (xi x 4)) (flat_1 (xi l 8) (xi x 2) (xi x 3) (xi x 4)) (flat_0 (xi l 8) (xi x 5) (xi x 6) (xi x 7)) (flat_1 (xi l 8) (xi x 5) (xi x 6) (xi x 7)) (enter_s1
   x l) (enter_s2 x l) (enter_s3 x) (IntKind.i64.wrap (xi l 16 * xi l 17))
noncomputable def enter_47 (x : List GC) (l : List GC) (C : List (List Int)) (O : List (List Int)) : List (List Int) := bif oends_4 (flat_0 (xi l 8) (xi x 2) (xi x 3) (xi x 4)) (flat_1 (xi l 8) (xi x 2) (xi x 3) (xi x 4)) (flat_0 (xi l 8) (xi x 5) (xi x 6) (xi x 7)) (flat_1 (xi l 8) (xi x 5) (xi x 6) (xi x 7))
   (enter_s1 x l) (enter_s2 x l) (enter_s3 x) (IntKind.i64.wrap (xi l 16 * xi l 17)) != 0 then O else release_44 (nrm l) (enter_s4 x l) (enter_s5 x l) C (line_46 (nrm l) (enter_s4 x l) (enter_s5 x l)
   (flat_2 (xi l 8) (xi l 2) (xi l 3) (xi l 4)) (flat_2 (xi l 8) (xi l 2) (xi l 3) (xi l 4)) true (nrm l) (flat_0 (xi l 8) (xi l 2) (xi l 3) (xi l 4)) (flat_1 (xi l 8) (xi l 2) (xi l 3) (xi l 4)) O)
noncomputable def enter_48 (x : List GC) (l : List GC) (C : List (List Int)) : List (List Int) := bif oends_4 (flat_0 (xi l 8) (xi x 2) (xi x 3) (xi x 4)) (flat_1 (xi l 8) (xi x 2) (xi x 3) (xi x 4)) (flat_0 (xi l 8) (xi x 5) (xi x 6) (xi x 7)) (flat_1 (xi l 8) (xi x 5) (xi x 6) (xi x 7)) (bif
   xi x 0 == 3 then flat_0 (xi l 8) (xi x 9) (xi x 10) (xi x 11) else 0) (bif xi x 0 == 3 then flat_1 (xi l 8) (xi x 9) (xi x 10) (xi x 11) else 0) (bif xi x 0 == 3 then xi x 12 else 0)
   (IntKind.i64.wrap (xi l 16 * xi l 17)) != 0 then C else []
noncomputable def enter_needs (x : List GC) (l : List GC) (C : List (List Int)) (O : List (List Int)) : List Prop := [(oends_4 (flat_0 (xi l 8) (xi x 2) (xi x 3) (xi x 4)) (flat_1 (xi l 8) (xi x 2) (xi x 3) (xi x 4)) (flat_0 (xi l 8) (xi x 5) (xi x 6) (xi x 7)) (flat_1 (xi l 8) (xi x 5) (xi x 6) (xi x 7))
   (enter_s1 x l) (enter_s2 x l) (enter_s3 x) (IntKind.i64.wrap (xi l 16 * xi l 17)) != 0) = false → O.length ≤ 1000000 ∧ C.length ≤ 1000 ∧ (line_46 (nrm l) (oends_0 (flat_0 (xi l 8) (xi x 2) (xi x 3)
   (xi x 4)) (flat_1 (xi l 8) (xi x 2) (xi x 3) (xi x 4)) (flat_0 (xi l 8) (xi x 5) (xi x 6) (xi x 7)) (flat_1 (xi l 8) (xi x 5) (xi x 6) (xi x 7)) (enter_s1 x l) (enter_s2 x l) (enter_s3 x)
   (IntKind.i64.wrap (xi l 16 * xi l 17))) (oends_1 (flat_0 (xi l 8) (xi x 2) (xi x 3) (xi x 4)) (flat_1 (xi l 8) (xi x 2) (xi x 3) (xi x 4)) (flat_0 (xi l 8) (xi x 5) (xi x 6) (xi x 7)) (flat_1 (xi l
   8) (xi x 5) (xi x 6) (xi x 7)) (enter_s1 x l) (enter_s2 x l) (enter_s3 x) (IntKind.i64.wrap (xi l 16 * xi l 17))) (flat_2 (xi l 8) (xi l 2) (xi l 3) (xi l 4)) (flat_2 (xi l 8) (xi l 2) (xi l 3) (xi l
   4)) true (nrm l) (flat_0 (xi l 8) (xi l 2) (xi l 3) (xi l 4)) (flat_1 (xi l 8) (xi l 2) (xi l 3) (xi l 4)) O).length ≤ 900000]
theorem enter_weak {x : List GC} {l : List GC} {C : List (List Int)} {O : List (List Int)} (hW : ∀ q ∈ ([C.length ≤ 1000, O.length ≤ 800000] : List Prop), q) : ∀ q ∈ (enter_needs x l C O), q := by
  simp only [List.mem_cons, List.not_mem_nil, or_false, forall_eq_or_imp, forall_eq] at hW
  unfold enter_needs
  simp only [List.forall_mem_cons, List.not_mem_nil, false_implies, implies_true, and_true]
  obtain ⟨h1, h2⟩ := hW
  refine fun _ => ⟨by omega, h1, ?_⟩
  refine Nat.le_trans (line_46_len ..).2 (by omega)
noncomputable def v9_c11 (l : List GC) (x : List GC) (y : List GC) (a0 : Int) (a1 : Int) (tr : Bool) (op : Bool) (cl : Bool) (en : Bool) (mo : Bool) (la0 : Int) (la1 : Int) (la2 : Int) (er : Int) (C : List (List Int)) (O : List (List Int)) := [(0, Obj.blk 66 [(3, SC.int IntKind.i64 (SI.v (xi l 0))), (4, SC.int IntKind.i64 (SI.v (xi l 1))), (5, SC.int IntKind.i64 (SI.v (xi l 2))), (6, SC.int IntKind.i64 (SI.v (xi l 3))), (7, SC.int
   IntKind.i64 (SI.v (xi l 4))), (8, SC.int IntKind.i64 (SI.v (xi l 5))), (9, SC.int IntKind.i64 (SI.v (xi l 6))), (10, SC.int IntKind.i64 (SI.v (xi l 7))), (11, SC.int IntKind.i64 (SI.v (xi l 8))),
   (12, SC.int IntKind.i64 (SI.v (xi l 9))), (13, SC.int IntKind.i64 (SI.v (xi l 10))), (14, SC.int IntKind.i64 (SI.v (xi l 11))), (15, SC.int IntKind.i64 (SI.v (xi l 12))), (16, SC.bool (SB.v (xb l
   13))), (17, SC.int IntKind.i64 (SI.v (xi l 14))), (18, SC.bool (SB.v (xb l 15))), (19, SC.int IntKind.i64 (SI.v (xi l 16))), (20, SC.int IntKind.i64 (SI.v (xi l 17))), (21, SC.int IntKind.i64 (SI.v
   (xi l 18))), (22, SC.int IntKind.i64 (SI.v (xi l 19))), (23, SC.int IntKind.i64 (SI.v (xi l 20))), (24, SC.bool (SB.v (xb l 21))), (12673, SC.int IntKind.i64 (SI.v (enter_23 x l y))), (12674, SC.int
   IntKind.i64 (SI.v (enter_24 x l y))), (12675, SC.int IntKind.i64 (SI.v (enter_25 x l y))), (12676, SC.int IntKind.i64 (SI.v (enter_26 x l y))), (12677, SC.int IntKind.i64 (SI.v (enter_27 x l y))),
   (12678, SC.int IntKind.i64 (SI.v (enter_28 x l y))), (12679, SC.int IntKind.i64 (SI.v (enter_29 x l y))), (12680, SC.int IntKind.i64 (SI.v (enter_30 x l y))), (12681, SC.int IntKind.i64 (SI.v
   (enter_31 x l y))), (12682, SC.int IntKind.i64 (SI.v (enter_32 x l y))), (12683, SC.int IntKind.i64 (SI.v (enter_33 x l y))), (12684, SC.int IntKind.i64 (SI.v (enter_34 x l y))), (12685, SC.int
   IntKind.i64 (SI.v (enter_35 x l y))), (12686, SC.bool (SB.v (enter_36 x l y))), (12687, SC.int IntKind.i64 (SI.v (enter_37 x l y))), (12688, SC.bool (SB.v (enter_38 x l y))), (12689, SC.int
   IntKind.i64 (SI.v (enter_39 x l y))), (12690, SC.int IntKind.i64 (SI.v (enter_40 x l y))), (12691, SC.int IntKind.i64 (SI.v (enter_41 x l y))), (12692, SC.int IntKind.i64 (SI.v (enter_42 x l y))),
   (12693, SC.int IntKind.i64 (SI.v (enter_43 x l y))), (12694, SC.bool (SB.v (enter_44 x l y))), (12695, SC.int IntKind.i64 (SI.v (enter_45 x l a0))), (12696, SC.int IntKind.i64 (SI.v (enter_46 x l
   a1))), (49, SC.bool (SB.v tr)), (12667, SC.wh 12665), (51, SC.bool (SB.v op)), (52, SC.bool (SB.v cl)), (53, SC.bool (SB.v en)), (54, SC.bool (SB.v mo)), (55, SC.int IntKind.i64 (SI.v la0)), (56,
   SC.int IntKind.i64 (SI.v la1)), (57, SC.int IntKind.i64 (SI.v la2)), (12670, SC.wh 12668), (59, SC.int IntKind.i64 (SI.v er))]), (12668, Obj.row false 32 22 (RowC.lst 12672 v9_c7 (enter_47 x l C
   O))), (12665, Obj.row false 32 22 (RowC.lst 12671 v9_c7 (enter_48 x l C)))]
set_option maxRecDepth 1000000 in
theorem enter_runs (x l y : List GC) (a0 a1 : Int) (tr op cl en mo : Bool) (la0 la1 la2 er : Int) (C O : List (List Int)) (hNeeds : ∀ pN ∈ (enter_needs x l C O), pN) : Runs (runF (sums K_begin) L_rel 50) (enter_tpl.args (spread enter_sp [.v x, .v l, .v y, .i a0, .i a1, .b tr, .b op, .b cl, .b en, .b mo, .i la0, .i la1, .i la2, .i er])) (enter_tpl.memo (spread enter_sp [.v x, .v l, .v y, .i a0, .i a1, .b tr, .b op, .b cl, .b en, .b mo, .i la0, .i la1, .i la2, .i er]) [C, O]) enter_tpl.n (SV.one (SC.int IntKind.i64 (SI.v (enter_0 x l)))) ((v9_c11 l x y a0 a1 tr op cl en mo la0 la1 la2 er C O)) :=
  Runs.of1 (ps := (enter_needs x l C O)) (by kernel_rfl) hNeeds
noncomputable def enter_out : List Gm → Lss → Option CRes
  | [.v x, .v l, .v y, .i a0, .i a1, .b tr, .b op, .b cl, .b en, .b mo, .i la0, .i la1, .i la2, .i er], [C, O] => some ⟨SV.one (SC.int IntKind.i64 (SI.v (enter_0 x l))), (v9_c11 l x y a0 a1 tr op cl en mo la0 la1 la2 er C O), [C.length ≤ 1000, O.length ≤ 800000], [], 12697⟩
  | _, _ => none
theorem enter_ok : FOk Try.prog 50 (tplG enter_sp enter_tpl enter_out) := by
  refine tplG_ok (runF_ok known_begin 50) fun ps ls r hr hn _ => ?_
  unfold enter_out at hr
  split at hr
  · cases hr; exact ⟨_, enter_runs _ _ _ _ _ _ _ _ _ _ _ _ _ _ _ _ (enter_weak (by exact hn)), fun _ => rfl⟩
  · cases hr
noncomputable def K_enter : List (Nat × Summ) := (50, tplG enter_sp enter_tpl enter_out) :: K_begin
theorem known_enter : Known Try.prog (sums K_enter) L_rel := known_cons known_begin enter_ok
noncomputable def turn_tpl : Tpl := ⟨[.one (.ptr 0 0), .agg [.int .i64, .int .i64, .int .i64, .int .i64, .int .i64, .int .i64, .int .i64, .int .i64, .int .i64, .int .i64, .int .i64, .int .i64, .int .i64, .bool, .int .i64, .bool, .int .i64, .int .i64, .int .i64, .int .i64, .int .i64, .bool]], [(0, .blk 66 [(3, .int .i64), (4, .int .i64), (5, .int .i64), (6, .int .i64), (7, .int .i64), (8, .int .i64), (9, .int .i64), (10, .int .i64), (11, .int .i64), (12, .int .i64), (13, .int .i64), (14, .int .i64), (15, .int .i64), (16, .bool), (17, .int .i64), (18, .bool), (19, .int .i64), (20, .int .i64), (21, .int .i64), (22, .int .i64), (23, .int .i64), (24, .bool), (25, .int .i64), (26, .int .i64), (27, .int .i64), (28, .int .i64), (29, .int .i64), (30, .int .i64), (31, .int .i64), (32, .int .i64), (33, .int .i64), (34, .int .i64), (35, .int .i64), (36, .int .i64), (37, .int .i64), (38, .bool), (39, .int .i64), (40, .bool), (41, .int .i64), (42, .int .i64), (43, .int .i64), (44, .int .i64), (45, .int .i64), (46, .bool), (47, .int .i64), (48, .int .i64), (49, .bool), (50, .wh 1), (51, .bool), (52, .bool), (53, .bool), (54, .bool), (55, .int .i64), (56, .int .i64), (57, .int .i64), (58, .wh 2), (59, .int .i64)]), (1, .row false 32 22 60 [.int .i64, .int .i64, .int .i64, .int .i64, .int .i64, .int .i64, .int .i64, .int .i64, .int .i64, .int .i64, .int .i64, .int .i64, .int .i64, .bool, .int .i64, .bool, .int .i64, .int .i64, .int .i64, .int .i64, .int .i64, .bool]), (2, .row false 32 22 61 [.int .i64, .int .i64, .int .i64, .int .i64, .int .i64, .int .i64, .int .i64, .int .i64, .int .i64, .int .i64, .int .i64, .int .i64, .int .i64, .bool, .int .i64, .bool, .int .i64, .int .i64, .int .i64, .int .i64, .int .i64, .bool])], 62⟩
noncomputable def turn_sp : List GK := [.v itemB, .v itemB, .v itemB, .i, .i, .b, .b, .b, .b, .b, .i, .i, .i, .i]
noncomputable def turn_s0 (l : List GC) (y : List GC) : Int := bif xi y 0 == 3 then flat_0 (xi l 8) (xi y 9) (xi y 10) (xi y 11) else 0
noncomputable def turn_s1 (l : List GC) (y : List GC) : Int := bif xi y 0 == 3 then flat_1 (xi l 8) (xi y 9) (xi y 10) (xi y 11) else 0
noncomputable def turn_s2 (y : List GC) : Int := bif xi y 0 == 3 then xi y 12 else 0
noncomputable def turn_s3 (y : List GC) : Bool := xi y 0 == 3 && xb y 13
noncomputable def turn_s4 (x : List GC) (l : List GC) : Int := bif xi x 0 == 3 then flat_0 (xi l 8) (xi x 9) (xi x 10) (xi x 11) else 0
noncomputable def turn_s5 (x : List GC) (l : List GC) : Int := bif xi x 0 == 3 then flat_1 (xi l 8) (xi x 9) (xi x 10) (xi x 11) else 0
noncomputable def turn_s8 (x : List GC) (l : List GC) (y : List GC) : Int := trim_2 (flat_0 (xi l 8) (xi y 2) (xi y 3) (xi y 4)) (flat_1 (xi l 8) (xi y 2) (xi y 3) (xi y 4)) (flat_0 (xi l 8) (xi y 5) (xi y 6) (xi y 7)) (flat_1 (xi l 8) (xi y 5) (xi y 6) (xi y 7)) (turn_s0 l
   y) (turn_s1 l y) (turn_s2 y) (turn_s3 y) (flat_0 (xi l 8) (xi x 2) (xi x 3) (xi x 4)) (flat_1 (xi l 8) (xi x 2) (xi x 3) (xi x 4)) (flat_0 (xi l 8) (xi x 5) (xi x 6) (xi x 7)) (flat_1 (xi l 8) (xi x
   5) (xi x 6) (xi x 7)) (turn_s4 x l) (turn_s5 x l) (turn_s2 x) (turn_s3 x) (IntKind.i64.wrap (xi l 16 * xi l 17))
noncomputable def v9_c3 (l : List GC) (y : List GC) (x : List GC) := trim_0 (flat_0 (xi l 8) (xi y 2) (xi y 3) (xi y 4)) (flat_1 (xi l 8) (xi y 2) (xi y 3) (xi y 4)) (flat_0 (xi l 8) (xi y 5) (xi y 6) (xi y 7)) (flat_1 (xi l 8) (xi y 5) (xi y 6) (xi y 7)) (turn_s0 l
   y) (turn_s1 l y) (turn_s2 y) (turn_s3 y) (flat_0 (xi l 8) (xi x 2) (xi x 3) (xi x 4)) (flat_1 (xi l 8) (xi x 2) (xi x 3) (xi x 4)) (flat_0 (xi l 8) (xi x 5) (xi x 6) (xi x 7)) (flat_1 (xi l 8) (xi x
   5) (xi x 6) (xi x 7)) (turn_s4 x l) (turn_s5 x l) (turn_s2 x) (turn_s3 x) (IntKind.i64.wrap (xi l 16 * xi l 17))
noncomputable def v9_c4 (l : List GC) (y : List GC) (x : List GC) := trim_1 (flat_0 (xi l 8) (xi y 2) (xi y 3) (xi y 4)) (flat_1 (xi l 8) (xi y 2) (xi y 3) (xi y 4)) (flat_0 (xi l 8) (xi y 5) (xi y 6) (xi y 7)) (flat_1 (xi l 8) (xi y 5) (xi y 6) (xi y 7)) (turn_s0 l
   y) (turn_s1 l y) (turn_s2 y) (turn_s3 y) (flat_0 (xi l 8) (xi x 2) (xi x 3) (xi x 4)) (flat_1 (xi l 8) (xi x 2) (xi x 3) (xi x 4)) (flat_0 (xi l 8) (xi x 5) (xi x 6) (xi x 7)) (flat_1 (xi l 8) (xi x
   5) (xi x 6) (xi x 7)) (turn_s4 x l) (turn_s5 x l) (turn_s2 x) (turn_s3 x) (IntKind.i64.wrap (xi l 16 * xi l 17))
noncomputable def turn_s9 (x : List GC) (l : List GC) (y : List GC) (a0 : Int) (a1 : Int) (tr : Bool) : Int := shift_0 (v9_c3 l y x) (v9_c4 l y x) true (nrm l) (nrm y) a0 a1 tr
noncomputable def turn_s10 (l : List GC) (y : List GC) : Int := oends_4 (flat_0 (xi l 8) (xi y 2) (xi y 3) (xi y 4)) (flat_1 (xi l 8) (xi y 2) (xi y 3) (xi y 4)) (flat_0 (xi l 8) (xi y 5) (xi y 6) (xi y 7)) (flat_1 (xi l 8) (xi y 5) (xi y 6) (xi y 7)) (turn_s0 l
   y) (turn_s1 l y) (turn_s2 y) (IntKind.i64.wrap (xi l 16 * xi l 17))
noncomputable def turn_s11 (x : List GC) (l : List GC) : Int := oends_4 (flat_0 (xi l 8) (xi x 2) (xi x 3) (xi x 4)) (flat_1 (xi l 8) (xi x 2) (xi x 3) (xi x 4)) (flat_0 (xi l 8) (xi x 5) (xi x 6) (xi x 7)) (flat_1 (xi l 8) (xi x 5) (xi x 6) (xi x 7)) (turn_s4 x
   l) (turn_s5 x l) (turn_s2 x) (IntKind.i64.wrap (xi l 16 * xi l 17))
noncomputable def v9_c5 (l : List GC) (y : List GC) := oends_2 (flat_0 (xi l 8) (xi y 2) (xi y 3) (xi y 4)) (flat_1 (xi l 8) (xi y 2) (xi y 3) (xi y 4)) (flat_0 (xi l 8) (xi y 5) (xi y 6) (xi y 7)) (flat_1 (xi l 8) (xi y 5) (xi y 6) (xi y 7)) (turn_s0 l
   y) (turn_s1 l y) (turn_s2 y) (IntKind.i64.wrap (xi l 16 * xi l 17))
noncomputable def v9_c6 (l : List GC) (y : List GC) := oends_3 (flat_0 (xi l 8) (xi y 2) (xi y 3) (xi y 4)) (flat_1 (xi l 8) (xi y 2) (xi y 3) (xi y 4)) (flat_0 (xi l 8) (xi y 5) (xi y 6) (xi y 7)) (flat_1 (xi l 8) (xi y 5) (xi y 6) (xi y 7)) (turn_s0 l
   y) (turn_s1 l y) (turn_s2 y) (IntKind.i64.wrap (xi l 16 * xi l 17))
noncomputable def turn_s12 (l : List GC) (y : List GC) (a0 : Int) (a1 : Int) (tr : Bool) : Int := shift_0 (v9_c5 l y) (v9_c6 l y) false (nrm l) (nrm y) a0 a1 tr
noncomputable def v9_c0 (l : List GC) (y : List GC) (x : List GC) := bif IntKind.i64.wrap (xi l 16 * xi l 17) == 0 then 0 else ocorner_0 (atang_0 (xi y 0) (xi y 2) (xi y 3) (xi y 4) (xi y 5) (xi y 6) (xi y 7) (xi y 8) (xi y 9) (xi y 10) (xi y 11) (xi y 12) true)
   (atang_1 (xi y 0) (xi y 2) (xi y 3) (xi y 4) (xi y 5) (xi y 6) (xi y 7) (xi y 8) (xi y 9) (xi y 10) (xi y 11) (xi y 12) true) (atang_0 (xi x 0) (xi x 2) (xi x 3) (xi x 4) (xi x 5) (xi x 6) (xi x 7)
   (xi x 8) (xi x 9) (xi x 10) (xi x 11) (xi x 12) false) (atang_1 (xi x 0) (xi x 2) (xi x 3) (xi x 4) (xi x 5) (xi x 6) (xi x 7) (xi x 8) (xi x 9) (xi x 10) (xi x 11) (xi x 12) false) (xi l 16)
noncomputable def turn_0 (x : List GC) (l : List GC) (y : List GC) (a0 : Int) (a1 : Int) (tr : Bool) : Int := bif (v9_c0 l y x) == 2 then bif turn_s8 x l y == 0 then bif turn_s9 x l y a0 a1 tr != 0 then turn_s9 x l y a0 a1 tr else 0 else bif turn_s8 x l y != 0 then turn_s8 x l y else 0 else bif turn_s10 l y
   != 0 then turn_s10 l y else bif turn_s11 x l == 0 then bif turn_s12 l y a0 a1 tr != 0 then turn_s12 l y a0 a1 tr else 0 else bif turn_s11 x l != 0 then turn_s11 x l else 0
noncomputable def turn_23 (x : List GC) (l : List GC) (y : List GC) (a0 : Int) (a1 : Int) (tr : Bool) : Int := bif (v9_c0 l y x) == 2 then bif turn_s8 x l y == 0 then bif shift_0 (v9_c3 l y x) (v9_c4 l y x) true (nrm l) (nrm y) a0 a1 tr != 0 then xi y 0 else xi x 0 else bif turn_s8 x l y != 0 then xi y 0
   else xi x 0 else bif oends_4 (flat_0 (xi l 8) (xi y 2) (xi y 3) (xi y 4)) (flat_1 (xi l 8) (xi y 2) (xi y 3) (xi y 4)) (flat_0 (xi l 8) (xi y 5) (xi y 6) (xi y 7)) (flat_1 (xi l 8) (xi y 5) (xi y 6)
   (xi y 7)) (turn_s0 l y) (turn_s1 l y) (turn_s2 y) (IntKind.i64.wrap (xi l 16 * xi l 17)) != 0 then xi y 0 else bif turn_s11 x l == 0 then bif shift_0 (v9_c5 l y) (v9_c6 l y) false (nrm l) (nrm y) a0
   a1 tr != 0 then xi y 0 else xi x 0 else bif turn_s11 x l != 0 then xi y 0 else xi x 0
noncomputable def turn_24 (x : List GC) (l : List GC) (y : List GC) (a0 : Int) (a1 : Int) (tr : Bool) : Int := bif (v9_c0 l y x) == 2 then bif turn_s8 x l y == 0 then bif shift_0 (v9_c3 l y x) (v9_c4 l y x) true (nrm l) (nrm y) a0 a1 tr != 0 then xi y 1 else xi x 1 else bif turn_s8 x l y != 0 then xi y 1
   else xi x 1 else bif oends_4 (flat_0 (xi l 8) (xi y 2) (xi y 3) (xi y 4)) (flat_1 (xi l 8) (xi y 2) (xi y 3) (xi y 4)) (flat_0 (xi l 8) (xi y 5) (xi y 6) (xi y 7)) (flat_1 (xi l 8) (xi y 5) (xi y 6)
   (xi y 7)) (turn_s0 l y) (turn_s1 l y) (turn_s2 y) (IntKind.i64.wrap (xi l 16 * xi l 17)) != 0 then xi y 1 else bif turn_s11 x l == 0 then bif shift_0 (v9_c5 l y) (v9_c6 l y) false (nrm l) (nrm y) a0
   a1 tr != 0 then xi y 1 else xi x 1 else bif turn_s11 x l != 0 then xi y 1 else xi x 1
noncomputable def turn_25 (x : List GC) (l : List GC) (y : List GC) (a0 : Int) (a1 : Int) (tr : Bool) : Int := bif (v9_c0 l y x) == 2 then bif turn_s8 x l y == 0 then bif shift_0 (v9_c3 l y x) (v9_c4 l y x) true (nrm l) (nrm y) a0 a1 tr != 0 then xi y 2 else xi x 2 else bif turn_s8 x l y != 0 then xi y 2
   else xi x 2 else bif oends_4 (flat_0 (xi l 8) (xi y 2) (xi y 3) (xi y 4)) (flat_1 (xi l 8) (xi y 2) (xi y 3) (xi y 4)) (flat_0 (xi l 8) (xi y 5) (xi y 6) (xi y 7)) (flat_1 (xi l 8) (xi y 5) (xi y 6)
   (xi y 7)) (turn_s0 l y) (turn_s1 l y) (turn_s2 y) (IntKind.i64.wrap (xi l 16 * xi l 17)) != 0 then xi y 2 else bif turn_s11 x l == 0 then bif shift_0 (v9_c5 l y) (v9_c6 l y) false (nrm l) (nrm y) a0
   a1 tr != 0 then xi y 2 else xi x 2 else bif turn_s11 x l != 0 then xi y 2 else xi x 2
noncomputable def turn_26 (x : List GC) (l : List GC) (y : List GC) (a0 : Int) (a1 : Int) (tr : Bool) : Int := bif (v9_c0 l y x) == 2 then bif turn_s8 x l y == 0 then bif shift_0 (v9_c3 l y x) (v9_c4 l y x) true (nrm l) (nrm y) a0 a1 tr != 0 then xi y 3 else xi x 3 else bif turn_s8 x l y != 0 then xi y 3
   else xi x 3 else bif oends_4 (flat_0 (xi l 8) (xi y 2) (xi y 3) (xi y 4)) (flat_1 (xi l 8) (xi y 2) (xi y 3) (xi y 4)) (flat_0 (xi l 8) (xi y 5) (xi y 6) (xi y 7)) (flat_1 (xi l 8) (xi y 5) (xi y 6)
   (xi y 7)) (turn_s0 l y) (turn_s1 l y) (turn_s2 y) (IntKind.i64.wrap (xi l 16 * xi l 17)) != 0 then xi y 3 else bif turn_s11 x l == 0 then bif shift_0 (v9_c5 l y) (v9_c6 l y) false (nrm l) (nrm y) a0
   a1 tr != 0 then xi y 3 else xi x 3 else bif turn_s11 x l != 0 then xi y 3 else xi x 3
noncomputable def turn_27 (x : List GC) (l : List GC) (y : List GC) (a0 : Int) (a1 : Int) (tr : Bool) : Int := bif (v9_c0 l y x) == 2 then bif turn_s8 x l y == 0 then bif shift_0 (v9_c3 l y x) (v9_c4 l y x) true (nrm l) (nrm y) a0 a1 tr != 0 then xi y 4 else xi x 4 else bif turn_s8 x l y != 0 then xi y 4
   else xi x 4 else bif oends_4 (flat_0 (xi l 8) (xi y 2) (xi y 3) (xi y 4)) (flat_1 (xi l 8) (xi y 2) (xi y 3) (xi y 4)) (flat_0 (xi l 8) (xi y 5) (xi y 6) (xi y 7)) (flat_1 (xi l 8) (xi y 5) (xi y 6)
   (xi y 7)) (turn_s0 l y) (turn_s1 l y) (turn_s2 y) (IntKind.i64.wrap (xi l 16 * xi l 17)) != 0 then xi y 4 else bif turn_s11 x l == 0 then bif shift_0 (v9_c5 l y) (v9_c6 l y) false (nrm l) (nrm y) a0
   a1 tr != 0 then xi y 4 else xi x 4 else bif turn_s11 x l != 0 then xi y 4 else xi x 4
noncomputable def turn_28 (x : List GC) (l : List GC) (y : List GC) (a0 : Int) (a1 : Int) (tr : Bool) : Int := bif (v9_c0 l y x) == 2 then bif turn_s8 x l y == 0 then bif shift_0 (v9_c3 l y x) (v9_c4 l y x) true (nrm l) (nrm y) a0 a1 tr != 0 then xi y 5 else xi x 5 else bif turn_s8 x l y != 0 then xi y 5
   else xi x 5 else bif oends_4 (flat_0 (xi l 8) (xi y 2) (xi y 3) (xi y 4)) (flat_1 (xi l 8) (xi y 2) (xi y 3) (xi y 4)) (flat_0 (xi l 8) (xi y 5) (xi y 6) (xi y 7)) (flat_1 (xi l 8) (xi y 5) (xi y 6)
   (xi y 7)) (turn_s0 l y) (turn_s1 l y) (turn_s2 y) (IntKind.i64.wrap (xi l 16 * xi l 17)) != 0 then xi y 5 else bif turn_s11 x l == 0 then bif shift_0 (v9_c5 l y) (v9_c6 l y) false (nrm l) (nrm y) a0
   a1 tr != 0 then xi y 5 else xi x 5 else bif turn_s11 x l != 0 then xi y 5 else xi x 5
noncomputable def turn_29 (x : List GC) (l : List GC) (y : List GC) (a0 : Int) (a1 : Int) (tr : Bool) : Int := bif (v9_c0 l y x) == 2 then bif turn_s8 x l y == 0 then bif shift_0 (v9_c3 l y x) (v9_c4 l y x) true (nrm l) (nrm y) a0 a1 tr != 0 then xi y 6 else xi x 6 else bif turn_s8 x l y != 0 then xi y 6
   else xi x 6 else bif oends_4 (flat_0 (xi l 8) (xi y 2) (xi y 3) (xi y 4)) (flat_1 (xi l 8) (xi y 2) (xi y 3) (xi y 4)) (flat_0 (xi l 8) (xi y 5) (xi y 6) (xi y 7)) (flat_1 (xi l 8) (xi y 5) (xi y 6)
   (xi y 7)) (turn_s0 l y) (turn_s1 l y) (turn_s2 y) (IntKind.i64.wrap (xi l 16 * xi l 17)) != 0 then xi y 6 else bif turn_s11 x l == 0 then bif shift_0 (v9_c5 l y) (v9_c6 l y) false (nrm l) (nrm y) a0
   a1 tr != 0 then xi y 6 else xi x 6 else bif turn_s11 x l != 0 then xi y 6 else xi x 6
noncomputable def turn_30 (x : List GC) (l : List GC) (y : List GC) (a0 : Int) (a1 : Int) (tr : Bool) : Int := bif (v9_c0 l y x) == 2 then bif turn_s8 x l y == 0 then bif shift_0 (v9_c3 l y x) (v9_c4 l y x) true (nrm l) (nrm y) a0 a1 tr != 0 then xi y 7 else xi x 7 else bif turn_s8 x l y != 0 then xi y 7
   else xi x 7 else bif oends_4 (flat_0 (xi l 8) (xi y 2) (xi y 3) (xi y 4)) (flat_1 (xi l 8) (xi y 2) (xi y 3) (xi y 4)) (flat_0 (xi l 8) (xi y 5) (xi y 6) (xi y 7)) (flat_1 (xi l 8) (xi y 5) (xi y 6)
   (xi y 7)) (turn_s0 l y) (turn_s1 l y) (turn_s2 y) (IntKind.i64.wrap (xi l 16 * xi l 17)) != 0 then xi y 7 else bif turn_s11 x l == 0 then bif shift_0 (v9_c5 l y) (v9_c6 l y) false (nrm l) (nrm y) a0
   a1 tr != 0 then xi y 7 else xi x 7 else bif turn_s11 x l != 0 then xi y 7 else xi x 7
noncomputable def turn_31 (x : List GC) (l : List GC) (y : List GC) (a0 : Int) (a1 : Int) (tr : Bool) : Int := bif (v9_c0 l y x) == 2 then bif turn_s8 x l y == 0 then bif shift_0 (v9_c3 l y x) (v9_c4 l y x) true (nrm l) (nrm y) a0 a1 tr != 0 then xi y 8 else xi x 8 else bif turn_s8 x l y != 0 then xi y 8
   else xi x 8 else bif oends_4 (flat_0 (xi l 8) (xi y 2) (xi y 3) (xi y 4)) (flat_1 (xi l 8) (xi y 2) (xi y 3) (xi y 4)) (flat_0 (xi l 8) (xi y 5) (xi y 6) (xi y 7)) (flat_1 (xi l 8) (xi y 5) (xi y 6)
   (xi y 7)) (turn_s0 l y) (turn_s1 l y) (turn_s2 y) (IntKind.i64.wrap (xi l 16 * xi l 17)) != 0 then xi y 8 else bif turn_s11 x l == 0 then bif shift_0 (v9_c5 l y) (v9_c6 l y) false (nrm l) (nrm y) a0
   a1 tr != 0 then xi y 8 else xi x 8 else bif turn_s11 x l != 0 then xi y 8 else xi x 8
noncomputable def turn_32 (x : List GC) (l : List GC) (y : List GC) (a0 : Int) (a1 : Int) (tr : Bool) : Int := bif (v9_c0 l y x) == 2 then bif turn_s8 x l y == 0 then bif shift_0 (v9_c3 l y x) (v9_c4 l y x) true (nrm l) (nrm y) a0 a1 tr != 0 then xi y 9 else xi x 9 else bif turn_s8 x l y != 0 then xi y 9
   else xi x 9 else bif oends_4 (flat_0 (xi l 8) (xi y 2) (xi y 3) (xi y 4)) (flat_1 (xi l 8) (xi y 2) (xi y 3) (xi y 4)) (flat_0 (xi l 8) (xi y 5) (xi y 6) (xi y 7)) (flat_1 (xi l 8) (xi y 5) (xi y 6)
   (xi y 7)) (turn_s0 l y) (turn_s1 l y) (turn_s2 y) (IntKind.i64.wrap (xi l 16 * xi l 17)) != 0 then xi y 9 else bif turn_s11 x l == 0 then bif shift_0 (v9_c5 l y) (v9_c6 l y) false (nrm l) (nrm y) a0
   a1 tr != 0 then xi y 9 else xi x 9 else bif turn_s11 x l != 0 then xi y 9 else xi x 9
noncomputable def turn_33 (x : List GC) (l : List GC) (y : List GC) (a0 : Int) (a1 : Int) (tr : Bool) : Int := bif (v9_c0 l y x) == 2 then bif turn_s8 x l y == 0 then bif shift_0 (v9_c3 l y x) (v9_c4 l y x) true (nrm l) (nrm y) a0 a1 tr != 0 then xi y 10 else xi x 10 else bif turn_s8 x l y != 0 then xi y 10
   else xi x 10 else bif oends_4 (flat_0 (xi l 8) (xi y 2) (xi y 3) (xi y 4)) (flat_1 (xi l 8) (xi y 2) (xi y 3) (xi y 4)) (flat_0 (xi l 8) (xi y 5) (xi y 6) (xi y 7)) (flat_1 (xi l 8) (xi y 5) (xi y 6)
   (xi y 7)) (turn_s0 l y) (turn_s1 l y) (turn_s2 y) (IntKind.i64.wrap (xi l 16 * xi l 17)) != 0 then xi y 10 else bif turn_s11 x l == 0 then bif shift_0 (v9_c5 l y) (v9_c6 l y) false (nrm l) (nrm y) a0
   a1 tr != 0 then xi y 10 else xi x 10 else bif turn_s11 x l != 0 then xi y 10 else xi x 10
noncomputable def turn_34 (x : List GC) (l : List GC) (y : List GC) (a0 : Int) (a1 : Int) (tr : Bool) : Int := bif (v9_c0 l y x) == 2 then bif turn_s8 x l y == 0 then bif shift_0 (v9_c3 l y x) (v9_c4 l y x) true (nrm l) (nrm y) a0 a1 tr != 0 then xi y 11 else xi x 11 else bif turn_s8 x l y != 0 then xi y 11
   else xi x 11 else bif oends_4 (flat_0 (xi l 8) (xi y 2) (xi y 3) (xi y 4)) (flat_1 (xi l 8) (xi y 2) (xi y 3) (xi y 4)) (flat_0 (xi l 8) (xi y 5) (xi y 6) (xi y 7)) (flat_1 (xi l 8) (xi y 5) (xi y 6)
   (xi y 7)) (turn_s0 l y) (turn_s1 l y) (turn_s2 y) (IntKind.i64.wrap (xi l 16 * xi l 17)) != 0 then xi y 11 else bif turn_s11 x l == 0 then bif shift_0 (v9_c5 l y) (v9_c6 l y) false (nrm l) (nrm y) a0
   a1 tr != 0 then xi y 11 else xi x 11 else bif turn_s11 x l != 0 then xi y 11 else xi x 11
noncomputable def turn_35 (x : List GC) (l : List GC) (y : List GC) (a0 : Int) (a1 : Int) (tr : Bool) : Int := bif (v9_c0 l y x) == 2 then bif turn_s8 x l y == 0 then bif shift_0 (v9_c3 l y x) (v9_c4 l y x) true (nrm l) (nrm y) a0 a1 tr != 0 then xi y 12 else xi x 12 else bif turn_s8 x l y != 0 then xi y 12
   else xi x 12 else bif oends_4 (flat_0 (xi l 8) (xi y 2) (xi y 3) (xi y 4)) (flat_1 (xi l 8) (xi y 2) (xi y 3) (xi y 4)) (flat_0 (xi l 8) (xi y 5) (xi y 6) (xi y 7)) (flat_1 (xi l 8) (xi y 5) (xi y 6)
   (xi y 7)) (turn_s0 l y) (turn_s1 l y) (turn_s2 y) (IntKind.i64.wrap (xi l 16 * xi l 17)) != 0 then xi y 12 else bif turn_s11 x l == 0 then bif shift_0 (v9_c5 l y) (v9_c6 l y) false (nrm l) (nrm y) a0
   a1 tr != 0 then xi y 12 else xi x 12 else bif turn_s11 x l != 0 then xi y 12 else xi x 12
noncomputable def turn_36 (x : List GC) (l : List GC) (y : List GC) (a0 : Int) (a1 : Int) (tr : Bool) : Bool := bif (v9_c0 l y x) == 2 then bif turn_s8 x l y == 0 then bif shift_0 (v9_c3 l y x) (v9_c4 l y x) true (nrm l) (nrm y) a0 a1 tr != 0 then xb y 13 else xb x 13 else bif turn_s8 x l y != 0 then xb y 13
   else xb x 13 else bif oends_4 (flat_0 (xi l 8) (xi y 2) (xi y 3) (xi y 4)) (flat_1 (xi l 8) (xi y 2) (xi y 3) (xi y 4)) (flat_0 (xi l 8) (xi y 5) (xi y 6) (xi y 7)) (flat_1 (xi l 8) (xi y 5) (xi y 6)
   (xi y 7)) (turn_s0 l y) (turn_s1 l y) (turn_s2 y) (IntKind.i64.wrap (xi l 16 * xi l 17)) != 0 then xb y 13 else bif turn_s11 x l == 0 then bif shift_0 (v9_c5 l y) (v9_c6 l y) false (nrm l) (nrm y) a0
   a1 tr != 0 then xb y 13 else xb x 13 else bif turn_s11 x l != 0 then xb y 13 else xb x 13
noncomputable def turn_37 (x : List GC) (l : List GC) (y : List GC) (a0 : Int) (a1 : Int) (tr : Bool) : Int := bif (v9_c0 l y x) == 2 then bif turn_s8 x l y == 0 then bif shift_0 (v9_c3 l y x) (v9_c4 l y x) true (nrm l) (nrm y) a0 a1 tr != 0 then xi y 14 else xi x 14 else bif turn_s8 x l y != 0 then xi y 14
   else xi x 14 else bif oends_4 (flat_0 (xi l 8) (xi y 2) (xi y 3) (xi y 4)) (flat_1 (xi l 8) (xi y 2) (xi y 3) (xi y 4)) (flat_0 (xi l 8) (xi y 5) (xi y 6) (xi y 7)) (flat_1 (xi l 8) (xi y 5) (xi y 6)
   (xi y 7)) (turn_s0 l y) (turn_s1 l y) (turn_s2 y) (IntKind.i64.wrap (xi l 16 * xi l 17)) != 0 then xi y 14 else bif turn_s11 x l == 0 then bif shift_0 (v9_c5 l y) (v9_c6 l y) false (nrm l) (nrm y) a0
   a1 tr != 0 then xi y 14 else xi x 14 else bif turn_s11 x l != 0 then xi y 14 else xi x 14
noncomputable def turn_38 (x : List GC) (l : List GC) (y : List GC) (a0 : Int) (a1 : Int) (tr : Bool) : Bool := bif (v9_c0 l y x) == 2 then bif turn_s8 x l y == 0 then bif shift_0 (v9_c3 l y x) (v9_c4 l y x) true (nrm l) (nrm y) a0 a1 tr != 0 then xb y 15 else xb x 15 else bif turn_s8 x l y != 0 then xb y 15
   else xb x 15 else bif oends_4 (flat_0 (xi l 8) (xi y 2) (xi y 3) (xi y 4)) (flat_1 (xi l 8) (xi y 2) (xi y 3) (xi y 4)) (flat_0 (xi l 8) (xi y 5) (xi y 6) (xi y 7)) (flat_1 (xi l 8) (xi y 5) (xi y 6)
   (xi y 7)) (turn_s0 l y) (turn_s1 l y) (turn_s2 y) (IntKind.i64.wrap (xi l 16 * xi l 17)) != 0 then xb y 15 else bif turn_s11 x l == 0 then bif shift_0 (v9_c5 l y) (v9_c6 l y) false (nrm l) (nrm y) a0
   a1 tr != 0 then xb y 15 else xb x 15 else bif turn_s11 x l != 0 then xb y 15 else xb x 15
noncomputable def turn_39 (x : List GC) (l : List GC) (y : List GC) (a0 : Int) (a1 : Int) (tr : Bool) : Int := bif (v9_c0 l y x) == 2 then bif turn_s8 x l y == 0 then bif shift_0 (v9_c3 l y x) (v9_c4 l y x) true (nrm l) (nrm y) a0 a1 tr != 0 then xi y 16 else xi x 16 else bif turn_s8 x l y != 0 then xi y 16
   else xi x 16 else bif oends_4 (flat_0 (xi l 8) (xi y 2) (xi y 3) (xi y 4)) (flat_1 (xi l 8) (xi y 2) (xi y 3) (xi y 4)) (flat_0 (xi l 8) (xi y 5) (xi y 6) (xi y 7)) (flat_1 (xi l 8) (xi y 5) (xi y 6)
   (xi y 7)) (turn_s0 l y) (turn_s1 l y) (turn_s2 y) (IntKind.i64.wrap (xi l 16 * xi l 17)) != 0 then xi y 16 else bif turn_s11 x l == 0 then bif shift_0 (v9_c5 l y) (v9_c6 l y) false (nrm l) (nrm y) a0
   a1 tr != 0 then xi y 16 else xi x 16 else bif turn_s11 x l != 0 then xi y 16 else xi x 16
noncomputable def turn_40 (x : List GC) (l : List GC) (y : List GC) (a0 : Int) (a1 : Int) (tr : Bool) : Int := bif (v9_c0 l y x) == 2 then bif turn_s8 x l y == 0 then bif shift_0 (v9_c3 l y x) (v9_c4 l y x) true (nrm l) (nrm y) a0 a1 tr != 0 then xi y 17 else xi x 17 else bif turn_s8 x l y != 0 then xi y 17
   else xi x 17 else bif oends_4 (flat_0 (xi l 8) (xi y 2) (xi y 3) (xi y 4)) (flat_1 (xi l 8) (xi y 2) (xi y 3) (xi y 4)) (flat_0 (xi l 8) (xi y 5) (xi y 6) (xi y 7)) (flat_1 (xi l 8) (xi y 5) (xi y 6)
   (xi y 7)) (turn_s0 l y) (turn_s1 l y) (turn_s2 y) (IntKind.i64.wrap (xi l 16 * xi l 17)) != 0 then xi y 17 else bif turn_s11 x l == 0 then bif shift_0 (v9_c5 l y) (v9_c6 l y) false (nrm l) (nrm y) a0
   a1 tr != 0 then xi y 17 else xi x 17 else bif turn_s11 x l != 0 then xi y 17 else xi x 17
noncomputable def turn_41 (x : List GC) (l : List GC) (y : List GC) (a0 : Int) (a1 : Int) (tr : Bool) : Int := bif (v9_c0 l y x) == 2 then bif turn_s8 x l y == 0 then bif shift_0 (v9_c3 l y x) (v9_c4 l y x) true (nrm l) (nrm y) a0 a1 tr != 0 then xi y 18 else xi x 18 else bif turn_s8 x l y != 0 then xi y 18
   else xi x 18 else bif oends_4 (flat_0 (xi l 8) (xi y 2) (xi y 3) (xi y 4)) (flat_1 (xi l 8) (xi y 2) (xi y 3) (xi y 4)) (flat_0 (xi l 8) (xi y 5) (xi y 6) (xi y 7)) (flat_1 (xi l 8) (xi y 5) (xi y 6)
   (xi y 7)) (turn_s0 l y) (turn_s1 l y) (turn_s2 y) (IntKind.i64.wrap (xi l 16 * xi l 17)) != 0 then xi y 18 else bif turn_s11 x l == 0 then bif shift_0 (v9_c5 l y) (v9_c6 l y) false (nrm l) (nrm y) a0
   a1 tr != 0 then xi y 18 else xi x 18 else bif turn_s11 x l != 0 then xi y 18 else xi x 18
noncomputable def turn_42 (x : List GC) (l : List GC) (y : List GC) (a0 : Int) (a1 : Int) (tr : Bool) : Int := bif (v9_c0 l y x) == 2 then bif turn_s8 x l y == 0 then bif shift_0 (v9_c3 l y x) (v9_c4 l y x) true (nrm l) (nrm y) a0 a1 tr != 0 then xi y 19 else xi x 19 else bif turn_s8 x l y != 0 then xi y 19
   else xi x 19 else bif oends_4 (flat_0 (xi l 8) (xi y 2) (xi y 3) (xi y 4)) (flat_1 (xi l 8) (xi y 2) (xi y 3) (xi y 4)) (flat_0 (xi l 8) (xi y 5) (xi y 6) (xi y 7)) (flat_1 (xi l 8) (xi y 5) (xi y 6)
   (xi y 7)) (turn_s0 l y) (turn_s1 l y) (turn_s2 y) (IntKind.i64.wrap (xi l 16 * xi l 17)) != 0 then xi y 19 else bif turn_s11 x l == 0 then bif shift_0 (v9_c5 l y) (v9_c6 l y) false (nrm l) (nrm y) a0
   a1 tr != 0 then xi y 19 else xi x 19 else bif turn_s11 x l != 0 then xi y 19 else xi x 19
noncomputable def turn_43 (x : List GC) (l : List GC) (y : List GC) (a0 : Int) (a1 : Int) (tr : Bool) : Int := bif (v9_c0 l y x) == 2 then bif turn_s8 x l y == 0 then bif shift_0 (v9_c3 l y x) (v9_c4 l y x) true (nrm l) (nrm y) a0 a1 tr != 0 then xi y 20 else xi x 20 else bif turn_s8 x l y != 0 then xi y 20
   else xi x 20 else bif oends_4 (flat_0 (xi l 8) (xi y 2) (xi y 3) (xi y 4)) (flat_1 (xi l 8) (xi y 2) (xi y 3) (xi y 4)) (flat_0 (xi l 8) (xi y 5) (xi y 6) (xi y 7)) (flat_1 (xi l 8) (xi y 5) (xi y 6)
   (xi y 7)) (turn_s0 l y) (turn_s1 l y) (turn_s2 y) (IntKind.i64.wrap (xi l 16 * xi l 17)) != 0 then xi y 20 else bif turn_s11 x l == 0 then bif shift_0 (v9_c5 l y) (v9_c6 l y) false (nrm l) (nrm y) a0
   a1 tr != 0 then xi y 20 else xi x 20 else bif turn_s11 x l != 0 then xi y 20 else xi x 20
noncomputable def turn_44 (x : List GC) (l : List GC) (y : List GC) (a0 : Int) (a1 : Int) (tr : Bool) : Bool := bif (v9_c0 l y x) == 2 then bif turn_s8 x l y == 0 then bif shift_0 (v9_c3 l y x) (v9_c4 l y x) true (nrm l) (nrm y) a0 a1 tr != 0 then xb y 21 else xb x 21 else bif turn_s8 x l y != 0 then xb y 21
   else xb x 21 else bif oends_4 (flat_0 (xi l 8) (xi y 2) (xi y 3) (xi y 4)) (flat_1 (xi l 8) (xi y 2) (xi y 3) (xi y 4)) (flat_0 (xi l 8) (xi y 5) (xi y 6) (xi y 7)) (flat_1 (xi l 8) (xi y 5) (xi y 6)
   (xi y 7)) (turn_s0 l y) (turn_s1 l y) (turn_s2 y) (IntKind.i64.wrap (xi l 16 * xi l 17)) != 0 then xb y 21 else bif turn_s11 x l == 0 then bif shift_0 (v9_c5 l y) (v9_c6 l y) false (nrm l) (nrm y) a0
   a1 tr != 0 then xb y 21 else xb x 21 else bif turn_s11 x l != 0 then xb y 21 else xb x 21
noncomputable def turn_s13 (x : List GC) (l : List GC) (y : List GC) : Int := trim_0 (flat_0 (xi l 8) (xi y 2) (xi y 3) (xi y 4)) (flat_1 (xi l 8) (xi y 2) (xi y 3) (xi y 4)) (flat_0 (xi l 8) (xi y 5) (xi y 6) (xi y 7)) (flat_1 (xi l 8) (xi y 5) (xi y 6) (xi y 7)) (turn_s0 l
   y) (turn_s1 l y) (turn_s2 y) (turn_s3 y) (flat_0 (xi l 8) (xi x 2) (xi x 3) (xi x 4)) (flat_1 (xi l 8) (xi x 2) (xi x 3) (xi x 4)) (flat_0 (xi l 8) (xi x 5) (xi x 6) (xi x 7)) (flat_1 (xi l 8) (xi x
   5) (xi x 6) (xi x 7)) (turn_s4 x l) (turn_s5 x l) (turn_s2 x) (turn_s3 x) (IntKind.i64.wrap (xi l 16 * xi l 17))
noncomputable def turn_s14 (x : List GC) (l : List GC) (y : List GC) : Int := trim_1 (flat_0 (xi l 8) (xi y 2) (xi y 3) (xi y 4)) (flat_1 (xi l 8) (xi y 2) (xi y 3) (xi y 4)) (flat_0 (xi l 8) (xi y 5) (xi y 6) (xi y 7)) (flat_1 (xi l 8) (xi y 5) (xi y 6) (xi y 7)) (turn_s0 l
   y) (turn_s1 l y) (turn_s2 y) (turn_s3 y) (flat_0 (xi l 8) (xi x 2) (xi x 3) (xi x 4)) (flat_1 (xi l 8) (xi x 2) (xi x 3) (xi x 4)) (flat_0 (xi l 8) (xi x 5) (xi x 6) (xi x 7)) (flat_1 (xi l 8) (xi x
   5) (xi x 6) (xi x 7)) (turn_s4 x l) (turn_s5 x l) (turn_s2 x) (turn_s3 x) (IntKind.i64.wrap (xi l 16 * xi l 17))
noncomputable def turn_s15 (l : List GC) (y : List GC) : Int := oends_2 (flat_0 (xi l 8) (xi y 2) (xi y 3) (xi y 4)) (flat_1 (xi l 8) (xi y 2) (xi y 3) (xi y 4)) (flat_0 (xi l 8) (xi y 5) (xi y 6) (xi y 7)) (flat_1 (xi l 8) (xi y 5) (xi y 6) (xi y 7)) (turn_s0 l
   y) (turn_s1 l y) (turn_s2 y) (IntKind.i64.wrap (xi l 16 * xi l 17))
noncomputable def turn_s16 (l : List GC) (y : List GC) : Int := oends_3 (flat_0 (xi l 8) (xi y 2) (xi y 3) (xi y 4)) (flat_1 (xi l 8) (xi y 2) (xi y 3) (xi y 4)) (flat_0 (xi l 8) (xi y 5) (xi y 6) (xi y 7)) (flat_1 (xi l 8) (xi y 5) (xi y 6) (xi y 7)) (turn_s0 l
   y) (turn_s1 l y) (turn_s2 y) (IntKind.i64.wrap (xi l 16 * xi l 17))
noncomputable def turn_s17 (x : List GC) (l : List GC) : Int := oends_0 (flat_0 (xi l 8) (xi x 2) (xi x 3) (xi x 4)) (flat_1 (xi l 8) (xi x 2) (xi x 3) (xi x 4)) (flat_0 (xi l 8) (xi x 5) (xi x 6) (xi x 7)) (flat_1 (xi l 8) (xi x 5) (xi x 6) (xi x 7)) (turn_s4 x
   l) (turn_s5 x l) (turn_s2 x) (IntKind.i64.wrap (xi l 16 * xi l 17))
noncomputable def turn_45 (x : List GC) (l : List GC) (y : List GC) (a0 : Int) (a1 : Int) (tr : Bool) : Int := bif (v9_c0 l y x) == 2 then bif turn_s8 x l y == 0 then bif shift_0 (turn_s13 x l y) (turn_s14 x l y) true (nrm l) (nrm y) a0 a1 tr != 0 then shift_45 (turn_s13 x l y) (turn_s14 x l y) true (nrm l)
   (nrm y) a0 a1 tr else shift_45 (turn_s13 x l y) (turn_s14 x l y) true (nrm l) (nrm y) a0 a1 tr else bif turn_s8 x l y != 0 then a0 else a0 else bif oends_4 (flat_0 (xi l 8) (xi y 2) (xi y 3) (xi y
   4)) (flat_1 (xi l 8) (xi y 2) (xi y 3) (xi y 4)) (flat_0 (xi l 8) (xi y 5) (xi y 6) (xi y 7)) (flat_1 (xi l 8) (xi y 5) (xi y 6) (xi y 7)) (turn_s0 l y) (turn_s1 l y) (turn_s2 y) (IntKind.i64.wrap
   (xi l 16 * xi l 17)) != 0 then a0 else bif turn_s11 x l == 0 then bif shift_0 (turn_s15 l y) (turn_s16 l y) false (nrm l) (nrm y) a0 a1 tr != 0 then shift_45 (turn_s15 l y) (turn_s16 l y) false (nrm
   l) (nrm y) a0 a1 tr else turn_s17 x l else bif turn_s11 x l != 0 then a0 else turn_s17 x l
noncomputable def turn_s18 (x : List GC) (l : List GC) : Int := oends_1 (flat_0 (xi l 8) (xi x 2) (xi x 3) (xi x 4)) (flat_1 (xi l 8) (xi x 2) (xi x 3) (xi x 4)) (flat_0 (xi l 8) (xi x 5) (xi x 6) (xi x 7)) (flat_1 (xi l 8) (xi x 5) (xi x 6) (xi x 7)) (turn_s4 x
   l) (turn_s5 x l) (turn_s2 x) (IntKind.i64.wrap (xi l 16 * xi l 17))
noncomputable def turn_46 (x : List GC) (l : List GC) (y : List GC) (a0 : Int) (a1 : Int) (tr : Bool) : Int := bif (v9_c0 l y x) == 2 then bif turn_s8 x l y == 0 then bif shift_0 (turn_s13 x l y) (turn_s14 x l y) true (nrm l) (nrm y) a0 a1 tr != 0 then shift_46 (turn_s13 x l y) (turn_s14 x l y) true (nrm l)
   (nrm y) a0 a1 tr else shift_46 (turn_s13 x l y) (turn_s14 x l y) true (nrm l) (nrm y) a0 a1 tr else bif turn_s8 x l y != 0 then a1 else a1 else bif oends_4 (flat_0 (xi l 8) (xi y 2) (xi y 3) (xi y
   4)) (flat_1 (xi l 8) (xi y 2) (xi y 3) (xi y 4)) (flat_0 (xi l 8) (xi y 5) (xi y 6) (xi y 7)) (flat_1 (xi l 8) (xi y 5) (xi y 6) (xi y 7)) (turn_s0 l y) (turn_s1 l y) (turn_s2 y) (IntKind.i64.wrap
   (xi l 16 * xi l 17)) != 0 then a1 else bif turn_s11 x l == 0 then bif shift_0 (turn_s15 l y) (turn_s16 l y) false (nrm l) (nrm y) a0 a1 tr != 0 then shift_46 (turn_s15 l y) (turn_s16 l y) false (nrm
   l) (nrm y) a0 a1 tr else turn_s18 x l else bif turn_s11 x l != 0 then a1 else turn_s18 x l
noncomputable def turn_47 (x : List GC) (l : List GC) (y : List GC) (a0 : Int) (a1 : Int) (tr : Bool) : Bool := bif (v9_c0 l y x) == 2 then bif turn_s8 x l y == 0 then bif shift_0 (v9_c3 l y x) (v9_c4 l y x) true (nrm l) (nrm y) a0 a1 tr != 0 then tr else true else bif turn_s8 x l y != 0 then tr else true
   else bif oends_4 (flat_0 (xi l 8) (xi y 2) (xi y 3) (xi y 4)) (flat_1 (xi l 8) (xi y 2) (xi y 3) (xi y 4)) (flat_0 (xi l 8) (xi y 5) (xi y 6) (xi y 7)) (flat_1 (xi l 8) (xi y 5) (xi y 6) (xi y 7))
   (turn_s0 l y) (turn_s1 l y) (turn_s2 y) (IntKind.i64.wrap (xi l 16 * xi l 17)) != 0 then tr else bif turn_s11 x l == 0 then shift_0 (v9_c5 l y) (v9_c6 l y) false (nrm l) (nrm y) a0 a1 tr != 0 && tr
   else turn_s11 x l != 0 && tr
noncomputable def turn_s19 (x : List GC) (l : List GC) (y : List GC) (a0 : Int) (a1 : Int) (tr : Bool) (O : List (List Int)) : List (List Int) := shift_47 (turn_s13 x l y) (turn_s14 x l y) true (nrm l) (nrm y) a0 a1 tr O
noncomputable def turn_48 (x : List GC) (l : List GC) (y : List GC) (a0 : Int) (a1 : Int) (tr : Bool) (C : List (List Int)) (O : List (List Int)) : List (List Int) := bif (v9_c0 l y x) == 2 then bif turn_s8 x l y == 0 then bif shift_0 (turn_s13 x l y) (turn_s14 x l y) true (nrm l) (nrm y) a0 a1 tr != 0 then turn_s19 x l y a0 a1 tr O else release_44 (nrm l)
   (shift_45 (turn_s13 x l y) (turn_s14 x l y) true (nrm l) (nrm y) a0 a1 tr) (shift_46 (turn_s13 x l y) (turn_s14 x l y) true (nrm l) (nrm y) a0 a1 tr) C (turn_s19 x l y a0 a1 tr O) else bif turn_s8 x
   l y != 0 then O else release_44 (nrm l) a0 a1 C O else bif oends_4 (flat_0 (xi l 8) (xi y 2) (xi y 3) (xi y 4)) (flat_1 (xi l 8) (xi y 2) (xi y 3) (xi y 4)) (flat_0 (xi l 8) (xi y 5) (xi y 6) (xi y
   7)) (flat_1 (xi l 8) (xi y 5) (xi y 6) (xi y 7)) (turn_s0 l y) (turn_s1 l y) (turn_s2 y) (IntKind.i64.wrap (xi l 16 * xi l 17)) != 0 then O else bif turn_s11 x l == 0 then bif shift_0 (turn_s15 l y)
   (turn_s16 l y) false (nrm l) (nrm y) a0 a1 tr != 0 then shift_47 (turn_s15 l y) (turn_s16 l y) false (nrm l) (nrm y) a0 a1 tr O else join_46 (nrm x) (oends_0 (flat_0 (xi l 8) (xi x 2) (xi x 3) (xi x
   4)) (flat_1 (xi l 8) (xi x 2) (xi x 3) (xi x 4)) (flat_0 (xi l 8) (xi x 5) (xi x 6) (xi x 7)) (flat_1 (xi l 8) (xi x 5) (xi x 6) (xi x 7)) (turn_s4 x l) (turn_s5 x l) (turn_s2 x) (IntKind.i64.wrap
   (xi l 16 * xi l 17))) (oends_1 (flat_0 (xi l 8) (xi x 2) (xi x 3) (xi x 4)) (flat_1 (xi l 8) (xi x 2) (xi x 3) (xi x 4)) (flat_0 (xi l 8) (xi x 5) (xi x 6) (xi x 7)) (flat_1 (xi l 8) (xi x 5) (xi x
   6) (xi x 7)) (turn_s4 x l) (turn_s5 x l) (turn_s2 x) (IntKind.i64.wrap (xi l 16 * xi l 17))) ((v9_c0 l y x) == 1) (nrm l) (shift_45 (turn_s15 l y) (turn_s16 l y) false (nrm l) (nrm y) a0 a1 tr)
   (shift_46 (turn_s15 l y) (turn_s16 l y) false (nrm l) (nrm y) a0 a1 tr) (release_44 (nrm l) (shift_45 (turn_s15 l y) (turn_s16 l y) false (nrm l) (nrm y) a0 a1 tr) (shift_46 (turn_s15 l y) (turn_s16
   l y) false (nrm l) (nrm y) a0 a1 tr) C (shift_47 (turn_s15 l y) (turn_s16 l y) false (nrm l) (nrm y) a0 a1 tr O)) else bif turn_s11 x l != 0 then O else join_46 (nrm x) (oends_0 (flat_0 (xi l 8) (xi
   x 2) (xi x 3) (xi x 4)) (flat_1 (xi l 8) (xi x 2) (xi x 3) (xi x 4)) (flat_0 (xi l 8) (xi x 5) (xi x 6) (xi x 7)) (flat_1 (xi l 8) (xi x 5) (xi x 6) (xi x 7)) (turn_s4 x l) (turn_s5 x l) (turn_s2 x)
   (IntKind.i64.wrap (xi l 16 * xi l 17))) (oends_1 (flat_0 (xi l 8) (xi x 2) (xi x 3) (xi x 4)) (flat_1 (xi l 8) (xi x 2) (xi x 3) (xi x 4)) (flat_0 (xi l 8) (xi x 5) (xi x 6) (xi x 7)) (flat_1 (xi l
   8) (xi x 5) (xi x 6) (xi x 7)) (turn_s4 x l) (turn_s5 x l) (turn_s2 x) (IntKind.i64.wrap (xi l 16 * xi l 17))) ((v9_c0 l y x) == 1) (nrm l) a0 a1 (release_44 (nrm l) a0 a1 C O)
noncomputable def turn_49 (x : List GC) (l : List GC) (y : List GC) (a0 : Int) (a1 : Int) (tr : Bool) (C : List (List Int)) : List (List Int) := bif (v9_c0 l y x) == 2 then bif turn_s8 x l y == 0 then bif shift_0 (v9_c3 l y x) (v9_c4 l y x) true (nrm l) (nrm y) a0 a1 tr != 0 then C else [] else bif turn_s8 x l y != 0 then C else [] else bif
   oends_4 (flat_0 (xi l 8) (xi y 2) (xi y 3) (xi y 4)) (flat_1 (xi l 8) (xi y 2) (xi y 3) (xi y 4)) (flat_0 (xi l 8) (xi y 5) (xi y 6) (xi y 7)) (flat_1 (xi l 8) (xi y 5) (xi y 6) (xi y 7)) (turn_s0 l
   y) (turn_s1 l y) (turn_s2 y) (IntKind.i64.wrap (xi l 16 * xi l 17)) != 0 then C else bif turn_s11 x l == 0 then bif shift_0 (v9_c5 l y) (v9_c6 l y) false (nrm l) (nrm y) a0 a1 tr != 0 then C else []
   else bif turn_s11 x l != 0 then C else []
noncomputable def turn_needs (x : List GC) (l : List GC) (y : List GC) (a0 : Int) (a1 : Int) (tr : Bool) (C : List (List Int)) (O : List (List Int)) : List Prop := [((v9_c0 l y x) == 2) = true → ((turn_s8 x l y == 0) = true → O.length ≤ 1000000) ∧ ((turn_s8 x l y == 0) = true → (shift_0 (turn_s13 x l y) (turn_s14 x l y) true (nrm l) (nrm y) a0 a1 tr != 0) =
   false → C.length ≤ 1000 ∧ (shift_47 (turn_s13 x l y) (turn_s14 x l y) true (nrm l) (nrm y) a0 a1 tr O).length ≤ 900000) ∧ ((turn_s8 x l y == 0) = false → (turn_s8 x l y != 0) = false → C.length ≤
   1000 ∧ O.length ≤ 900000), ((v9_c0 l y x) == 2) = false → (oends_4 (flat_0 (xi l 8) (xi y 2) (xi y 3) (xi y 4)) (flat_1 (xi l 8) (xi y 2) (xi y 3) (xi y 4)) (flat_0 (xi l 8) (xi y 5) (xi y 6) (xi y
   7)) (flat_1 (xi l 8) (xi y 5) (xi y 6) (xi y 7)) (turn_s0 l y) (turn_s1 l y) (turn_s2 y) (IntKind.i64.wrap (xi l 16 * xi l 17)) != 0) = false → ((turn_s11 x l == 0) = true → O.length ≤ 1000000) ∧
   ((turn_s11 x l == 0) = true → (shift_0 (turn_s15 l y) (turn_s16 l y) false (nrm l) (nrm y) a0 a1 tr != 0) = false → C.length ≤ 1000 ∧ (shift_47 (turn_s15 l y) (turn_s16 l y) false (nrm l) (nrm y) a0
   a1 tr O).length ≤ 900000 ∧ (release_44 (nrm l) (shift_45 (turn_s15 l y) (turn_s16 l y) false (nrm l) (nrm y) a0 a1 tr) (shift_46 (turn_s15 l y) (turn_s16 l y) false (nrm l) (nrm y) a0 a1 tr) C
   (shift_47 (turn_s15 l y) (turn_s16 l y) false (nrm l) (nrm y) a0 a1 tr O)).length ≤ 1000000) ∧ ((turn_s11 x l == 0) = false → (turn_s11 x l != 0) = false → C.length ≤ 1000 ∧ O.length ≤ 900000 ∧
   (release_44 (nrm l) a0 a1 C O).length ≤ 1000000)]
theorem turn_weak {x : List GC} {l : List GC} {y : List GC} {a0 : Int} {a1 : Int} {tr : Bool} {C : List (List Int)} {O : List (List Int)} (hW : ∀ q ∈ ([C.length ≤ 1000, O.length ≤ 800000] : List Prop), q) : ∀ q ∈ (turn_needs x l y a0 a1 tr C O), q := by
  simp only [List.mem_cons, List.not_mem_nil, or_false, forall_eq_or_imp, forall_eq] at hW
  unfold turn_needs
  simp only [List.forall_mem_cons, List.not_mem_nil, false_implies, implies_true, and_true]
  obtain ⟨h1, h2⟩ := hW
  have s := fun u w tm => (shift_47_len u w tm (nrm l) (nrm y) a0 a1 tr O).2
  have r := fun a0 a1 O => release_len (nrm l) a0 a1 C O
  refine ⟨fun _ => ⟨fun _ => by omega, fun _ _ => ⟨h1, Nat.le_trans (s ..) (by omega)⟩, fun _ _ => ⟨h1, by omega⟩⟩, fun _ _ => ⟨fun _ => by omega, fun _ _ => ⟨h1, Nat.le_trans (s ..) (by omega), Nat.le_trans (r ..) (Nat.le_trans (Nat.add_le_add_right (s ..) _) (by omega))⟩, fun _ _ => ⟨h1, by omega, Nat.le_trans (r ..) (by omega)⟩⟩⟩
noncomputable def v9_c9 (l : List GC) (x : List GC) (y : List GC) (a0 : Int) (a1 : Int) (tr : Bool) (op : Bool) (cl : Bool) (en : Bool) (mo : Bool) (la0 : Int) (la1 : Int) (la2 : Int) (er : Int) (C : List (List Int)) (O : List (List Int)) := [(0, Obj.blk 66 [(3, SC.int IntKind.i64 (SI.v (xi l 0))), (4, SC.int IntKind.i64 (SI.v (xi l 1))), (5, SC.int IntKind.i64 (SI.v (xi l 2))), (6, SC.int IntKind.i64 (SI.v (xi l 3))), (7, SC.int
   IntKind.i64 (SI.v (xi l 4))), (8, SC.int IntKind.i64 (SI.v (xi l 5))), (9, SC.int IntKind.i64 (SI.v (xi l 6))), (10, SC.int IntKind.i64 (SI.v (xi l 7))), (11, SC.int IntKind.i64 (SI.v (xi l 8))),
   (12, SC.int IntKind.i64 (SI.v (xi l 9))), (13, SC.int IntKind.i64 (SI.v (xi l 10))), (14, SC.int IntKind.i64 (SI.v (xi l 11))), (15, SC.int IntKind.i64 (SI.v (xi l 12))), (16, SC.bool (SB.v (xb l
   13))), (17, SC.int IntKind.i64 (SI.v (xi l 14))), (18, SC.bool (SB.v (xb l 15))), (19, SC.int IntKind.i64 (SI.v (xi l 16))), (20, SC.int IntKind.i64 (SI.v (xi l 17))), (21, SC.int IntKind.i64 (SI.v
   (xi l 18))), (22, SC.int IntKind.i64 (SI.v (xi l 19))), (23, SC.int IntKind.i64 (SI.v (xi l 20))), (24, SC.bool (SB.v (xb l 21))), (66287, SC.int IntKind.i64 (SI.v (turn_23 x l y a0 a1 tr))), (66288,
   SC.int IntKind.i64 (SI.v (turn_24 x l y a0 a1 tr))), (66289, SC.int IntKind.i64 (SI.v (turn_25 x l y a0 a1 tr))), (66290, SC.int IntKind.i64 (SI.v (turn_26 x l y a0 a1 tr))), (66291, SC.int
   IntKind.i64 (SI.v (turn_27 x l y a0 a1 tr))), (66292, SC.int IntKind.i64 (SI.v (turn_28 x l y a0 a1 tr))), (66293, SC.int IntKind.i64 (SI.v (turn_29 x l y a0 a1 tr))), (66294, SC.int IntKind.i64
   (SI.v (turn_30 x l y a0 a1 tr))), (66295, SC.int IntKind.i64 (SI.v (turn_31 x l y a0 a1 tr))), (66296, SC.int IntKind.i64 (SI.v (turn_32 x l y a0 a1 tr))), (66297, SC.int IntKind.i64 (SI.v (turn_33 x
   l y a0 a1 tr))), (66298, SC.int IntKind.i64 (SI.v (turn_34 x l y a0 a1 tr))), (66299, SC.int IntKind.i64 (SI.v (turn_35 x l y a0 a1 tr))), (66300, SC.bool (SB.v (turn_36 x l y a0 a1 tr))), (66301,
   SC.int IntKind.i64 (SI.v (turn_37 x l y a0 a1 tr))), (66302, SC.bool (SB.v (turn_38 x l y a0 a1 tr))), (66303, SC.int IntKind.i64 (SI.v (turn_39 x l y a0 a1 tr))), (66304, SC.int IntKind.i64 (SI.v
   (turn_40 x l y a0 a1 tr))), (66305, SC.int IntKind.i64 (SI.v (turn_41 x l y a0 a1 tr))), (66306, SC.int IntKind.i64 (SI.v (turn_42 x l y a0 a1 tr))), (66307, SC.int IntKind.i64 (SI.v (turn_43 x l y
   a0 a1 tr))), (66308, SC.bool (SB.v (turn_44 x l y a0 a1 tr))), (66309, SC.int IntKind.i64 (SI.v (turn_45 x l y a0 a1 tr))), (66310, SC.int IntKind.i64 (SI.v (turn_46 x l y a0 a1 tr))), (66311,
   SC.bool (SB.v (turn_47 x l y a0 a1 tr))), (66281, SC.wh 66279), (51, SC.bool (SB.v op)), (52, SC.bool (SB.v cl)), (53, SC.bool (SB.v en)), (54, SC.bool (SB.v mo)), (55, SC.int IntKind.i64 (SI.v
   la0)), (56, SC.int IntKind.i64 (SI.v la1)), (57, SC.int IntKind.i64 (SI.v la2)), (66284, SC.wh 66282), (59, SC.int IntKind.i64 (SI.v er))]), (66282, Obj.row false 32 22 (RowC.lst 66286 v9_c7 (turn_48
   x l y a0 a1 tr C O))), (66279, Obj.row false 32 22 (RowC.lst 66285 v9_c7 (turn_49 x l y a0 a1 tr C)))]
set_option maxRecDepth 1000000 in
theorem turn_runs (x l y : List GC) (a0 a1 : Int) (tr op cl en mo : Bool) (la0 la1 la2 er : Int) (C O : List (List Int)) (hNeeds : ∀ pN ∈ (turn_needs x l y a0 a1 tr C O), pN) : Runs (runF (sums K_enter) L_rel 51) (turn_tpl.args (spread turn_sp [.v x, .v l, .v y, .i a0, .i a1, .b tr, .b op, .b cl, .b en, .b mo, .i la0, .i la1, .i la2, .i er])) (turn_tpl.memo (spread turn_sp [.v x, .v l, .v y, .i a0, .i a1, .b tr, .b op, .b cl, .b en, .b mo, .i la0, .i la1, .i la2, .i er]) [C, O]) turn_tpl.n (SV.one (SC.int IntKind.i64 (SI.v (turn_0 x l y a0 a1 tr)))) ((v9_c9 l x y a0 a1 tr op cl en mo la0 la1 la2 er C O)) :=
  Runs.of1 (ps := (turn_needs x l y a0 a1 tr C O)) (by kernel_rfl) hNeeds
noncomputable def turn_out : List Gm → Lss → Option CRes
  | [.v x, .v l, .v y, .i a0, .i a1, .b tr, .b op, .b cl, .b en, .b mo, .i la0, .i la1, .i la2, .i er], [C, O] => some ⟨SV.one (SC.int IntKind.i64 (SI.v (turn_0 x l y a0 a1 tr))), (v9_c9 l x y a0 a1 tr op cl en mo la0 la1 la2 er C O), [C.length ≤ 1000, O.length ≤ 800000], [], 66312⟩
  | _, _ => none
theorem turn_ok : FOk Try.prog 51 (tplG turn_sp turn_tpl turn_out) := by
  refine tplG_ok (runF_ok known_enter 51) fun ps ls r hr hn _ => ?_
  unfold turn_out at hr
  split at hr
  · cases hr; exact ⟨_, turn_runs _ _ _ _ _ _ _ _ _ _ _ _ _ _ _ _ (turn_weak (by exact hn)), fun _ => rfl⟩
  · cases hr
noncomputable def K_turn : List (Nat × Summ) := (51, tplG turn_sp turn_tpl turn_out) :: K_enter
theorem known_turn : Known Try.prog (sums K_turn) L_rel := known_cons known_enter turn_ok
noncomputable def finish_tpl : Tpl := ⟨[.one (.ptr 0 0), .agg [.int .i64, .int .i64, .int .i64, .int .i64, .int .i64, .int .i64, .int .i64, .int .i64, .int .i64, .int .i64, .int .i64, .int .i64, .int .i64, .bool, .int .i64, .bool, .int .i64, .int .i64, .int .i64, .int .i64, .int .i64, .bool]], [(0, .blk 66 [(3, .int .i64), (4, .int .i64), (5, .int .i64), (6, .int .i64), (7, .int .i64), (8, .int .i64), (9, .int .i64), (10, .int .i64), (11, .int .i64), (12, .int .i64), (13, .int .i64), (14, .int .i64), (15, .int .i64), (16, .bool), (17, .int .i64), (18, .bool), (19, .int .i64), (20, .int .i64), (21, .int .i64), (22, .int .i64), (23, .int .i64), (24, .bool), (25, .int .i64), (26, .int .i64), (27, .int .i64), (28, .int .i64), (29, .int .i64), (30, .int .i64), (31, .int .i64), (32, .int .i64), (33, .int .i64), (34, .int .i64), (35, .int .i64), (36, .int .i64), (37, .int .i64), (38, .bool), (39, .int .i64), (40, .bool), (41, .int .i64), (42, .int .i64), (43, .int .i64), (44, .int .i64), (45, .int .i64), (46, .bool), (47, .int .i64), (48, .int .i64), (49, .bool), (50, .wh 1), (51, .bool), (52, .bool), (53, .bool), (54, .bool), (55, .int .i64), (56, .int .i64), (57, .int .i64), (58, .wh 2), (59, .int .i64)]), (1, .row false 32 22 60 [.int .i64, .int .i64, .int .i64, .int .i64, .int .i64, .int .i64, .int .i64, .int .i64, .int .i64, .int .i64, .int .i64, .int .i64, .int .i64, .bool, .int .i64, .bool, .int .i64, .int .i64, .int .i64, .int .i64, .int .i64, .bool]), (2, .row false 32 22 61 [.int .i64, .int .i64, .int .i64, .int .i64, .int .i64, .int .i64, .int .i64, .int .i64, .int .i64, .int .i64, .int .i64, .int .i64, .int .i64, .bool, .int .i64, .bool, .int .i64, .int .i64, .int .i64, .int .i64, .int .i64, .bool])], 62⟩
noncomputable def finish_sp : List GK := [.v itemB, .v itemB, .v itemB, .i, .i, .b, .b, .b, .b, .b, .i, .i, .i, .i]
noncomputable def finish_s0 (l : List GC) (y : List GC) : Int := bif xi y 0 == 3 then flat_0 (xi l 8) (xi y 9) (xi y 10) (xi y 11) else 0
noncomputable def finish_s1 (l : List GC) (y : List GC) : Int := bif xi y 0 == 3 then flat_1 (xi l 8) (xi y 9) (xi y 10) (xi y 11) else 0
noncomputable def finish_s2 (y : List GC) : Int := bif xi y 0 == 3 then xi y 12 else 0
noncomputable def finish_s3 (l : List GC) (y : List GC) : Int := oends_4 (flat_0 (xi l 8) (xi y 2) (xi y 3) (xi y 4)) (flat_1 (xi l 8) (xi y 2) (xi y 3) (xi y 4)) (flat_0 (xi l 8) (xi y 5) (xi y 6) (xi y 7)) (flat_1 (xi l 8) (xi y 5) (xi y 6) (xi y 7)) (finish_s0
   l y) (finish_s1 l y) (finish_s2 y) (IntKind.i64.wrap (xi l 16 * xi l 17))
noncomputable def v9_c1 (l : List GC) (y : List GC) := oends_2 (flat_0 (xi l 8) (xi y 2) (xi y 3) (xi y 4)) (flat_1 (xi l 8) (xi y 2) (xi y 3) (xi y 4)) (flat_0 (xi l 8) (xi y 5) (xi y 6) (xi y 7)) (flat_1 (xi l 8) (xi y 5) (xi y 6) (xi y 7)) (finish_s0
   l y) (finish_s1 l y) (finish_s2 y) (IntKind.i64.wrap (xi l 16 * xi l 17))
noncomputable def v9_c2 (l : List GC) (y : List GC) := oends_3 (flat_0 (xi l 8) (xi y 2) (xi y 3) (xi y 4)) (flat_1 (xi l 8) (xi y 2) (xi y 3) (xi y 4)) (flat_0 (xi l 8) (xi y 5) (xi y 6) (xi y 7)) (flat_1 (xi l 8) (xi y 5) (xi y 6) (xi y 7)) (finish_s0
   l y) (finish_s1 l y) (finish_s2 y) (IntKind.i64.wrap (xi l 16 * xi l 17))
noncomputable def finish_s4 (l : List GC) (y : List GC) (a0 : Int) (a1 : Int) (tr : Bool) : Int := shift_0 (v9_c1 l y) (v9_c2 l y) false (nrm l) (nrm y) a0 a1 tr
noncomputable def finish_0 (x : List GC) (l : List GC) (y : List GC) (a0 : Int) (a1 : Int) (tr : Bool) : Int := bif !leads_0 (nrm x) (xi l 8) (xi l 17) || xi y 0 == 0 then 14 else bif finish_s3 l y == 0 then bif finish_s4 l y a0 a1 tr != 0 then finish_s4 l y a0 a1 tr else 0 else bif finish_s3 l y != 0 then finish_s3 l y else 0
noncomputable def finish_1 (x : List GC) (l : List GC) (y : List GC) (a0 : Int) (a1 : Int) (tr : Bool) : Int := bif !leads_0 (nrm x) (xi l 8) (xi l 17) || xi y 0 == 0 then xi l 0 else bif finish_s3 l y == 0 then bif shift_0 (v9_c1 l y) (v9_c2 l y) false (nrm l) (nrm y) a0 a1 tr != 0 then xi l 0 else 0 else
   bif finish_s3 l y != 0 then xi l 0 else 0
noncomputable def finish_2 (x : List GC) (l : List GC) (y : List GC) (a0 : Int) (a1 : Int) (tr : Bool) : Int := bif !leads_0 (nrm x) (xi l 8) (xi l 17) || xi y 0 == 0 then xi l 1 else bif finish_s3 l y == 0 then bif shift_0 (v9_c1 l y) (v9_c2 l y) false (nrm l) (nrm y) a0 a1 tr != 0 then xi l 1 else 0 else
   bif finish_s3 l y != 0 then xi l 1 else 0
noncomputable def finish_3 (x : List GC) (l : List GC) (y : List GC) (a0 : Int) (a1 : Int) (tr : Bool) : Int := bif !leads_0 (nrm x) (xi l 8) (xi l 17) || xi y 0 == 0 then xi l 2 else bif finish_s3 l y == 0 then bif shift_0 (v9_c1 l y) (v9_c2 l y) false (nrm l) (nrm y) a0 a1 tr != 0 then xi l 2 else 0 else
   bif finish_s3 l y != 0 then xi l 2 else 0
noncomputable def finish_4 (x : List GC) (l : List GC) (y : List GC) (a0 : Int) (a1 : Int) (tr : Bool) : Int := bif !leads_0 (nrm x) (xi l 8) (xi l 17) || xi y 0 == 0 then xi l 3 else bif finish_s3 l y == 0 then bif shift_0 (v9_c1 l y) (v9_c2 l y) false (nrm l) (nrm y) a0 a1 tr != 0 then xi l 3 else 0 else
   bif finish_s3 l y != 0 then xi l 3 else 0
noncomputable def finish_5 (x : List GC) (l : List GC) (y : List GC) (a0 : Int) (a1 : Int) (tr : Bool) : Int := bif !leads_0 (nrm x) (xi l 8) (xi l 17) || xi y 0 == 0 then xi l 4 else bif finish_s3 l y == 0 then bif shift_0 (v9_c1 l y) (v9_c2 l y) false (nrm l) (nrm y) a0 a1 tr != 0 then xi l 4 else 0 else
   bif finish_s3 l y != 0 then xi l 4 else 0
noncomputable def finish_6 (x : List GC) (l : List GC) (y : List GC) (a0 : Int) (a1 : Int) (tr : Bool) : Int := bif !leads_0 (nrm x) (xi l 8) (xi l 17) || xi y 0 == 0 then xi l 5 else bif finish_s3 l y == 0 then bif shift_0 (v9_c1 l y) (v9_c2 l y) false (nrm l) (nrm y) a0 a1 tr != 0 then xi l 5 else 0 else
   bif finish_s3 l y != 0 then xi l 5 else 0
noncomputable def finish_7 (x : List GC) (l : List GC) (y : List GC) (a0 : Int) (a1 : Int) (tr : Bool) : Int := bif !leads_0 (nrm x) (xi l 8) (xi l 17) || xi y 0 == 0 then xi l 6 else bif finish_s3 l y == 0 then bif shift_0 (v9_c1 l y) (v9_c2 l y) false (nrm l) (nrm y) a0 a1 tr != 0 then xi l 6 else 0 else
   bif finish_s3 l y != 0 then xi l 6 else 0
noncomputable def finish_8 (x : List GC) (l : List GC) (y : List GC) (a0 : Int) (a1 : Int) (tr : Bool) : Int := bif !leads_0 (nrm x) (xi l 8) (xi l 17) || xi y 0 == 0 then xi l 7 else bif finish_s3 l y == 0 then bif shift_0 (v9_c1 l y) (v9_c2 l y) false (nrm l) (nrm y) a0 a1 tr != 0 then xi l 7 else 0 else
   bif finish_s3 l y != 0 then xi l 7 else 0
noncomputable def finish_9 (x : List GC) (l : List GC) (y : List GC) (a0 : Int) (a1 : Int) (tr : Bool) : Int := bif !leads_0 (nrm x) (xi l 8) (xi l 17) || xi y 0 == 0 then xi l 8 else bif finish_s3 l y == 0 then bif shift_0 (v9_c1 l y) (v9_c2 l y) false (nrm l) (nrm y) a0 a1 tr != 0 then xi l 8 else 0 else
   bif finish_s3 l y != 0 then xi l 8 else 0
noncomputable def finish_10 (x : List GC) (l : List GC) (y : List GC) (a0 : Int) (a1 : Int) (tr : Bool) : Int := bif !leads_0 (nrm x) (xi l 8) (xi l 17) || xi y 0 == 0 then xi l 9 else bif finish_s3 l y == 0 then bif shift_0 (v9_c1 l y) (v9_c2 l y) false (nrm l) (nrm y) a0 a1 tr != 0 then xi l 9 else 0 else
   bif finish_s3 l y != 0 then xi l 9 else 0
noncomputable def finish_11 (x : List GC) (l : List GC) (y : List GC) (a0 : Int) (a1 : Int) (tr : Bool) : Int := bif !leads_0 (nrm x) (xi l 8) (xi l 17) || xi y 0 == 0 then xi l 10 else bif finish_s3 l y == 0 then bif shift_0 (v9_c1 l y) (v9_c2 l y) false (nrm l) (nrm y) a0 a1 tr != 0 then xi l 10 else 0 else
   bif finish_s3 l y != 0 then xi l 10 else 0
noncomputable def finish_12 (x : List GC) (l : List GC) (y : List GC) (a0 : Int) (a1 : Int) (tr : Bool) : Int := bif !leads_0 (nrm x) (xi l 8) (xi l 17) || xi y 0 == 0 then xi l 11 else bif finish_s3 l y == 0 then bif shift_0 (v9_c1 l y) (v9_c2 l y) false (nrm l) (nrm y) a0 a1 tr != 0 then xi l 11 else 0 else
   bif finish_s3 l y != 0 then xi l 11 else 0
noncomputable def finish_13 (x : List GC) (l : List GC) (y : List GC) (a0 : Int) (a1 : Int) (tr : Bool) : Int := bif !leads_0 (nrm x) (xi l 8) (xi l 17) || xi y 0 == 0 then xi l 12 else bif finish_s3 l y == 0 then bif shift_0 (v9_c1 l y) (v9_c2 l y) false (nrm l) (nrm y) a0 a1 tr != 0 then xi l 12 else 0 else
   bif finish_s3 l y != 0 then xi l 12 else 0
noncomputable def finish_14 (x : List GC) (l : List GC) (y : List GC) (a0 : Int) (a1 : Int) (tr : Bool) : Bool := bif !leads_0 (nrm x) (xi l 8) (xi l 17) || xi y 0 == 0 then xb l 13 else bif finish_s3 l y == 0 then shift_0 (v9_c1 l y) (v9_c2 l y) false (nrm l) (nrm y) a0 a1 tr != 0 && xb l 13 else finish_s3 l y != 0 && xb l 13
noncomputable def finish_15 (x : List GC) (l : List GC) (y : List GC) (a0 : Int) (a1 : Int) (tr : Bool) : Int := bif !leads_0 (nrm x) (xi l 8) (xi l 17) || xi y 0 == 0 then xi l 14 else bif finish_s3 l y == 0 then bif shift_0 (v9_c1 l y) (v9_c2 l y) false (nrm l) (nrm y) a0 a1 tr != 0 then xi l 14 else 0 else
   bif finish_s3 l y != 0 then xi l 14 else 0
noncomputable def finish_16 (x : List GC) (l : List GC) (y : List GC) (a0 : Int) (a1 : Int) (tr : Bool) : Bool := bif !leads_0 (nrm x) (xi l 8) (xi l 17) || xi y 0 == 0 then xb l 15 else bif finish_s3 l y == 0 then shift_0 (v9_c1 l y) (v9_c2 l y) false (nrm l) (nrm y) a0 a1 tr != 0 && xb l 15 else finish_s3 l y != 0 && xb l 15
noncomputable def finish_17 (x : List GC) (l : List GC) (y : List GC) (a0 : Int) (a1 : Int) (tr : Bool) : Int := bif !leads_0 (nrm x) (xi l 8) (xi l 17) || xi y 0 == 0 then xi l 16 else bif finish_s3 l y == 0 then bif shift_0 (v9_c1 l y) (v9_c2 l y) false (nrm l) (nrm y) a0 a1 tr != 0 then xi l 16 else 0 else
   bif finish_s3 l y != 0 then xi l 16 else 0
noncomputable def finish_18 (x : List GC) (l : List GC) (y : List GC) (a0 : Int) (a1 : Int) (tr : Bool) : Int := bif !leads_0 (nrm x) (xi l 8) (xi l 17) || xi y 0 == 0 then xi l 17 else bif finish_s3 l y == 0 then bif shift_0 (v9_c1 l y) (v9_c2 l y) false (nrm l) (nrm y) a0 a1 tr != 0 then xi l 17 else 0 else
   bif finish_s3 l y != 0 then xi l 17 else 0
noncomputable def finish_19 (x : List GC) (l : List GC) (y : List GC) (a0 : Int) (a1 : Int) (tr : Bool) : Int := bif !leads_0 (nrm x) (xi l 8) (xi l 17) || xi y 0 == 0 then xi l 18 else bif finish_s3 l y == 0 then bif shift_0 (v9_c1 l y) (v9_c2 l y) false (nrm l) (nrm y) a0 a1 tr != 0 then xi l 18 else 0 else
   bif finish_s3 l y != 0 then xi l 18 else 0
noncomputable def finish_20 (x : List GC) (l : List GC) (y : List GC) (a0 : Int) (a1 : Int) (tr : Bool) : Int := bif !leads_0 (nrm x) (xi l 8) (xi l 17) || xi y 0 == 0 then xi l 19 else bif finish_s3 l y == 0 then bif shift_0 (v9_c1 l y) (v9_c2 l y) false (nrm l) (nrm y) a0 a1 tr != 0 then xi l 19 else 0 else
   bif finish_s3 l y != 0 then xi l 19 else 0
noncomputable def finish_21 (x : List GC) (l : List GC) (y : List GC) (a0 : Int) (a1 : Int) (tr : Bool) : Int := bif !leads_0 (nrm x) (xi l 8) (xi l 17) || xi y 0 == 0 then xi l 20 else bif finish_s3 l y == 0 then bif shift_0 (v9_c1 l y) (v9_c2 l y) false (nrm l) (nrm y) a0 a1 tr != 0 then xi l 20 else 0 else
   bif finish_s3 l y != 0 then xi l 20 else 0
noncomputable def finish_22 (x : List GC) (l : List GC) (y : List GC) (a0 : Int) (a1 : Int) (tr : Bool) : Bool := bif !leads_0 (nrm x) (xi l 8) (xi l 17) || xi y 0 == 0 then xb l 21 else bif finish_s3 l y == 0 then shift_0 (v9_c1 l y) (v9_c2 l y) false (nrm l) (nrm y) a0 a1 tr != 0 && xb l 21 else finish_s3 l y != 0 && xb l 21
noncomputable def finish_23 (x : List GC) (l : List GC) (y : List GC) (a0 : Int) (a1 : Int) (tr : Bool) : Int := bif !leads_0 (nrm x) (xi l 8) (xi l 17) || xi y 0 == 0 then xi y 0 else bif finish_s3 l y == 0 then bif shift_0 (v9_c1 l y) (v9_c2 l y) false (nrm l) (nrm y) a0 a1 tr != 0 then xi y 0 else 0 else
   bif finish_s3 l y != 0 then xi y 0 else 0
noncomputable def finish_24 (x : List GC) (l : List GC) (y : List GC) (a0 : Int) (a1 : Int) (tr : Bool) : Int := bif !leads_0 (nrm x) (xi l 8) (xi l 17) || xi y 0 == 0 then xi y 1 else bif finish_s3 l y == 0 then bif shift_0 (v9_c1 l y) (v9_c2 l y) false (nrm l) (nrm y) a0 a1 tr != 0 then xi y 1 else 0 else
   bif finish_s3 l y != 0 then xi y 1 else 0
noncomputable def finish_25 (x : List GC) (l : List GC) (y : List GC) (a0 : Int) (a1 : Int) (tr : Bool) : Int := bif !leads_0 (nrm x) (xi l 8) (xi l 17) || xi y 0 == 0 then xi y 2 else bif finish_s3 l y == 0 then bif shift_0 (v9_c1 l y) (v9_c2 l y) false (nrm l) (nrm y) a0 a1 tr != 0 then xi y 2 else 0 else
   bif finish_s3 l y != 0 then xi y 2 else 0
noncomputable def finish_26 (x : List GC) (l : List GC) (y : List GC) (a0 : Int) (a1 : Int) (tr : Bool) : Int := bif !leads_0 (nrm x) (xi l 8) (xi l 17) || xi y 0 == 0 then xi y 3 else bif finish_s3 l y == 0 then bif shift_0 (v9_c1 l y) (v9_c2 l y) false (nrm l) (nrm y) a0 a1 tr != 0 then xi y 3 else 0 else
   bif finish_s3 l y != 0 then xi y 3 else 0
noncomputable def finish_27 (x : List GC) (l : List GC) (y : List GC) (a0 : Int) (a1 : Int) (tr : Bool) : Int := bif !leads_0 (nrm x) (xi l 8) (xi l 17) || xi y 0 == 0 then xi y 4 else bif finish_s3 l y == 0 then bif shift_0 (v9_c1 l y) (v9_c2 l y) false (nrm l) (nrm y) a0 a1 tr != 0 then xi y 4 else 0 else
   bif finish_s3 l y != 0 then xi y 4 else 0
noncomputable def finish_28 (x : List GC) (l : List GC) (y : List GC) (a0 : Int) (a1 : Int) (tr : Bool) : Int := bif !leads_0 (nrm x) (xi l 8) (xi l 17) || xi y 0 == 0 then xi y 5 else bif finish_s3 l y == 0 then bif shift_0 (v9_c1 l y) (v9_c2 l y) false (nrm l) (nrm y) a0 a1 tr != 0 then xi y 5 else 0 else
   bif finish_s3 l y != 0 then xi y 5 else 0
noncomputable def finish_29 (x : List GC) (l : List GC) (y : List GC) (a0 : Int) (a1 : Int) (tr : Bool) : Int := bif !leads_0 (nrm x) (xi l 8) (xi l 17) || xi y 0 == 0 then xi y 6 else bif finish_s3 l y == 0 then bif shift_0 (v9_c1 l y) (v9_c2 l y) false (nrm l) (nrm y) a0 a1 tr != 0 then xi y 6 else 0 else
   bif finish_s3 l y != 0 then xi y 6 else 0
noncomputable def finish_30 (x : List GC) (l : List GC) (y : List GC) (a0 : Int) (a1 : Int) (tr : Bool) : Int := bif !leads_0 (nrm x) (xi l 8) (xi l 17) || xi y 0 == 0 then xi y 7 else bif finish_s3 l y == 0 then bif shift_0 (v9_c1 l y) (v9_c2 l y) false (nrm l) (nrm y) a0 a1 tr != 0 then xi y 7 else 0 else
   bif finish_s3 l y != 0 then xi y 7 else 0
noncomputable def finish_31 (x : List GC) (l : List GC) (y : List GC) (a0 : Int) (a1 : Int) (tr : Bool) : Int := bif !leads_0 (nrm x) (xi l 8) (xi l 17) || xi y 0 == 0 then xi y 8 else bif finish_s3 l y == 0 then bif shift_0 (v9_c1 l y) (v9_c2 l y) false (nrm l) (nrm y) a0 a1 tr != 0 then xi y 8 else 0 else
   bif finish_s3 l y != 0 then xi y 8 else 0
noncomputable def finish_32 (x : List GC) (l : List GC) (y : List GC) (a0 : Int) (a1 : Int) (tr : Bool) : Int := bif !leads_0 (nrm x) (xi l 8) (xi l 17) || xi y 0 == 0 then xi y 9 else bif finish_s3 l y == 0 then bif shift_0 (v9_c1 l y) (v9_c2 l y) false (nrm l) (nrm y) a0 a1 tr != 0 then xi y 9 else 0 else
   bif finish_s3 l y != 0 then xi y 9 else 0
noncomputable def finish_33 (x : List GC) (l : List GC) (y : List GC) (a0 : Int) (a1 : Int) (tr : Bool) : Int := bif !leads_0 (nrm x) (xi l 8) (xi l 17) || xi y 0 == 0 then xi y 10 else bif finish_s3 l y == 0 then bif shift_0 (v9_c1 l y) (v9_c2 l y) false (nrm l) (nrm y) a0 a1 tr != 0 then xi y 10 else 0 else
   bif finish_s3 l y != 0 then xi y 10 else 0
noncomputable def finish_34 (x : List GC) (l : List GC) (y : List GC) (a0 : Int) (a1 : Int) (tr : Bool) : Int := bif !leads_0 (nrm x) (xi l 8) (xi l 17) || xi y 0 == 0 then xi y 11 else bif finish_s3 l y == 0 then bif shift_0 (v9_c1 l y) (v9_c2 l y) false (nrm l) (nrm y) a0 a1 tr != 0 then xi y 11 else 0 else
   bif finish_s3 l y != 0 then xi y 11 else 0
noncomputable def finish_35 (x : List GC) (l : List GC) (y : List GC) (a0 : Int) (a1 : Int) (tr : Bool) : Int := bif !leads_0 (nrm x) (xi l 8) (xi l 17) || xi y 0 == 0 then xi y 12 else bif finish_s3 l y == 0 then bif shift_0 (v9_c1 l y) (v9_c2 l y) false (nrm l) (nrm y) a0 a1 tr != 0 then xi y 12 else 0 else
   bif finish_s3 l y != 0 then xi y 12 else 0
noncomputable def finish_36 (x : List GC) (l : List GC) (y : List GC) (a0 : Int) (a1 : Int) (tr : Bool) : Bool := bif !leads_0 (nrm x) (xi l 8) (xi l 17) || xi y 0 == 0 then xb y 13 else bif finish_s3 l y == 0 then shift_0 (v9_c1 l y) (v9_c2 l y) false (nrm l) (nrm y) a0 a1 tr != 0 && xb y 13 else finish_s3 l y != 0 && xb y 13
noncomputable def finish_37 (x : List GC) (l : List GC) (y : List GC) (a0 : Int) (a1 : Int) (tr : Bool) : Int := bif !leads_0 (nrm x) (xi l 8) (xi l 17) || xi y 0 == 0 then xi y 14 else bif finish_s3 l y == 0 then bif shift_0 (v9_c1 l y) (v9_c2 l y) false (nrm l) (nrm y) a0 a1 tr != 0 then xi y 14 else 0 else
   bif finish_s3 l y != 0 then xi y 14 else 0
noncomputable def finish_38 (x : List GC) (l : List GC) (y : List GC) (a0 : Int) (a1 : Int) (tr : Bool) : Bool := bif !leads_0 (nrm x) (xi l 8) (xi l 17) || xi y 0 == 0 then xb y 15 else bif finish_s3 l y == 0 then shift_0 (v9_c1 l y) (v9_c2 l y) false (nrm l) (nrm y) a0 a1 tr != 0 && xb y 15 else finish_s3 l y != 0 && xb y 15
noncomputable def finish_39 (x : List GC) (l : List GC) (y : List GC) (a0 : Int) (a1 : Int) (tr : Bool) : Int := bif !leads_0 (nrm x) (xi l 8) (xi l 17) || xi y 0 == 0 then xi y 16 else bif finish_s3 l y == 0 then bif shift_0 (v9_c1 l y) (v9_c2 l y) false (nrm l) (nrm y) a0 a1 tr != 0 then xi y 16 else 0 else
   bif finish_s3 l y != 0 then xi y 16 else 0
noncomputable def finish_40 (x : List GC) (l : List GC) (y : List GC) (a0 : Int) (a1 : Int) (tr : Bool) : Int := bif !leads_0 (nrm x) (xi l 8) (xi l 17) || xi y 0 == 0 then xi y 17 else bif finish_s3 l y == 0 then bif shift_0 (v9_c1 l y) (v9_c2 l y) false (nrm l) (nrm y) a0 a1 tr != 0 then xi y 17 else 0 else
   bif finish_s3 l y != 0 then xi y 17 else 0
noncomputable def finish_41 (x : List GC) (l : List GC) (y : List GC) (a0 : Int) (a1 : Int) (tr : Bool) : Int := bif !leads_0 (nrm x) (xi l 8) (xi l 17) || xi y 0 == 0 then xi y 18 else bif finish_s3 l y == 0 then bif shift_0 (v9_c1 l y) (v9_c2 l y) false (nrm l) (nrm y) a0 a1 tr != 0 then xi y 18 else 0 else
   bif finish_s3 l y != 0 then xi y 18 else 0
noncomputable def finish_42 (x : List GC) (l : List GC) (y : List GC) (a0 : Int) (a1 : Int) (tr : Bool) : Int := bif !leads_0 (nrm x) (xi l 8) (xi l 17) || xi y 0 == 0 then xi y 19 else bif finish_s3 l y == 0 then bif shift_0 (v9_c1 l y) (v9_c2 l y) false (nrm l) (nrm y) a0 a1 tr != 0 then xi y 19 else 0 else
   bif finish_s3 l y != 0 then xi y 19 else 0
noncomputable def finish_43 (x : List GC) (l : List GC) (y : List GC) (a0 : Int) (a1 : Int) (tr : Bool) : Int := bif !leads_0 (nrm x) (xi l 8) (xi l 17) || xi y 0 == 0 then xi y 20 else bif finish_s3 l y == 0 then bif shift_0 (v9_c1 l y) (v9_c2 l y) false (nrm l) (nrm y) a0 a1 tr != 0 then xi y 20 else 0 else
   bif finish_s3 l y != 0 then xi y 20 else 0
noncomputable def finish_44 (x : List GC) (l : List GC) (y : List GC) (a0 : Int) (a1 : Int) (tr : Bool) : Bool := bif !leads_0 (nrm x) (xi l 8) (xi l 17) || xi y 0 == 0 then xb y 21 else bif finish_s3 l y == 0 then shift_0 (v9_c1 l y) (v9_c2 l y) false (nrm l) (nrm y) a0 a1 tr != 0 && xb y 21 else finish_s3 l y != 0 && xb y 21
noncomputable def finish_s5 (l : List GC) (y : List GC) : Int := oends_2 (flat_0 (xi l 8) (xi y 2) (xi y 3) (xi y 4)) (flat_1 (xi l 8) (xi y 2) (xi y 3) (xi y 4)) (flat_0 (xi l 8) (xi y 5) (xi y 6) (xi y 7)) (flat_1 (xi l 8) (xi y 5) (xi y 6) (xi y 7)) (finish_s0
   l y) (finish_s1 l y) (finish_s2 y) (IntKind.i64.wrap (xi l 16 * xi l 17))
noncomputable def finish_s6 (l : List GC) (y : List GC) : Int := oends_3 (flat_0 (xi l 8) (xi y 2) (xi y 3) (xi y 4)) (flat_1 (xi l 8) (xi y 2) (xi y 3) (xi y 4)) (flat_0 (xi l 8) (xi y 5) (xi y 6) (xi y 7)) (flat_1 (xi l 8) (xi y 5) (xi y 6) (xi y 7)) (finish_s0
   l y) (finish_s1 l y) (finish_s2 y) (IntKind.i64.wrap (xi l 16 * xi l 17))
noncomputable def finish_45 (x : List GC) (l : List GC) (y : List GC) (a0 : Int) (a1 : Int) (tr : Bool) : Int := bif !leads_0 (nrm x) (xi l 8) (xi l 17) || xi y 0 == 0 then a0 else bif finish_s3 l y == 0 then bif shift_0 (finish_s5 l y) (finish_s6 l y) false (nrm l) (nrm y) a0 a1 tr != 0 then shift_45
   (finish_s5 l y) (finish_s6 l y) false (nrm l) (nrm y) a0 a1 tr else 0 else bif finish_s3 l y != 0 then a0 else 0
noncomputable def finish_46 (x : List GC) (l : List GC) (y : List GC) (a0 : Int) (a1 : Int) (tr : Bool) : Int := bif !leads_0 (nrm x) (xi l 8) (xi l 17) || xi y 0 == 0 then a1 else bif finish_s3 l y == 0 then bif shift_0 (finish_s5 l y) (finish_s6 l y) false (nrm l) (nrm y) a0 a1 tr != 0 then shift_46
   (finish_s5 l y) (finish_s6 l y) false (nrm l) (nrm y) a0 a1 tr else 0 else bif finish_s3 l y != 0 then a1 else 0
noncomputable def finish_47 (x : List GC) (l : List GC) (y : List GC) (a0 : Int) (a1 : Int) (tr : Bool) : Bool := bif !leads_0 (nrm x) (xi l 8) (xi l 17) || xi y 0 == 0 then tr else bif finish_s3 l y == 0 then shift_0 (v9_c1 l y) (v9_c2 l y) false (nrm l) (nrm y) a0 a1 tr != 0 && tr else finish_s3 l y != 0 && tr
noncomputable def finish_48 (x : List GC) (l : List GC) (y : List GC) (a0 : Int) (a1 : Int) (tr : Bool) (op : Bool) : Bool := bif !leads_0 (nrm x) (xi l 8) (xi l 17) || xi y 0 == 0 then op else bif finish_s3 l y == 0 then shift_0 (v9_c1 l y) (v9_c2 l y) false (nrm l) (nrm y) a0 a1 tr != 0 && op else finish_s3 l y != 0 && op
noncomputable def finish_49 (x : List GC) (l : List GC) (y : List GC) (a0 : Int) (a1 : Int) (tr : Bool) (C : List (List Int)) (O : List (List Int)) : List (List Int) := bif !leads_0 (nrm x) (xi l 8) (xi l 17) || xi y 0 == 0 then O else bif finish_s3 l y == 0 then bif shift_0 (finish_s5 l y) (finish_s6 l y) false (nrm l) (nrm y) a0 a1 tr != 0 then shift_47
   (finish_s5 l y) (finish_s6 l y) false (nrm l) (nrm y) a0 a1 tr O else line_46 (nrm x) (flat_0 (xi l 8) (xi x 5) (xi x 6) (xi x 7)) (flat_1 (xi l 8) (xi x 5) (xi x 6) (xi x 7)) (flat_2 (xi l 8) (xi x
   5) (xi x 6) (xi x 7)) (flat_2 (xi l 8) (xi x 5) (xi x 6) (xi x 7)) true (nrm l) (shift_45 (finish_s5 l y) (finish_s6 l y) false (nrm l) (nrm y) a0 a1 tr) (shift_46 (finish_s5 l y) (finish_s6 l y)
   false (nrm l) (nrm y) a0 a1 tr) (release_44 (nrm l) (shift_45 (finish_s5 l y) (finish_s6 l y) false (nrm l) (nrm y) a0 a1 tr) (shift_46 (finish_s5 l y) (finish_s6 l y) false (nrm l) (nrm y) a0 a1 tr)
   C (shift_47 (finish_s5 l y) (finish_s6 l y) false (nrm l) (nrm y) a0 a1 tr O)) else bif finish_s3 l y != 0 then O else line_46 (nrm x) (flat_0 (xi l 8) (xi x 5) (xi x 6) (xi x 7)) (flat_1 (xi l 8)
   (xi x 5) (xi x 6) (xi x 7)) (flat_2 (xi l 8) (xi x 5) (xi x 6) (xi x 7)) (flat_2 (xi l 8) (xi x 5) (xi x 6) (xi x 7)) true (nrm l) a0 a1 (release_44 (nrm l) a0 a1 C O)
noncomputable def finish_50 (x : List GC) (l : List GC) (y : List GC) (a0 : Int) (a1 : Int) (tr : Bool) (C : List (List Int)) : List (List Int) := bif !leads_0 (nrm x) (xi l 8) (xi l 17) || xi y 0 == 0 then C else bif finish_s3 l y == 0 then bif shift_0 (v9_c1 l y) (v9_c2 l y) false (nrm l) (nrm y) a0 a1 tr != 0 then C else [] else bif
   finish_s3 l y != 0 then C else []
noncomputable def finish_needs (x : List GC) (l : List GC) (y : List GC) (a0 : Int) (a1 : Int) (tr : Bool) (C : List (List Int)) (O : List (List Int)) : List Prop := [(!leads_0 (nrm x) (xi l 8) (xi l 17) || xi y 0 == 0) = false → ((finish_s3 l y == 0) = true → O.length ≤ 1000000) ∧ ((finish_s3 l y == 0) = true → (shift_0 (finish_s5 l y) (finish_s6 l y) false
   (nrm l) (nrm y) a0 a1 tr != 0) = false → C.length ≤ 1000 ∧ (shift_47 (finish_s5 l y) (finish_s6 l y) false (nrm l) (nrm y) a0 a1 tr O).length ≤ 900000 ∧ (release_44 (nrm l) (shift_45 (finish_s5 l y)
   (finish_s6 l y) false (nrm l) (nrm y) a0 a1 tr) (shift_46 (finish_s5 l y) (finish_s6 l y) false (nrm l) (nrm y) a0 a1 tr) C (shift_47 (finish_s5 l y) (finish_s6 l y) false (nrm l) (nrm y) a0 a1 tr
   O)).length ≤ 1000000) ∧ ((finish_s3 l y == 0) = false → (finish_s3 l y != 0) = false → C.length ≤ 1000 ∧ O.length ≤ 900000 ∧ (release_44 (nrm l) a0 a1 C O).length ≤ 1000000)]
theorem finish_weak {x : List GC} {l : List GC} {y : List GC} {a0 : Int} {a1 : Int} {tr : Bool} {C : List (List Int)} {O : List (List Int)} (hW : ∀ q ∈ ([C.length ≤ 1000, O.length ≤ 800000] : List Prop), q) : ∀ q ∈ (finish_needs x l y a0 a1 tr C O), q := by
  simp only [List.mem_cons, List.not_mem_nil, or_false, forall_eq_or_imp, forall_eq] at hW
  unfold finish_needs
  simp only [List.forall_mem_cons, List.not_mem_nil, false_implies, implies_true, and_true]
  obtain ⟨h1, h2⟩ := hW
  have s := fun u w tm => (shift_47_len u w tm (nrm l) (nrm y) a0 a1 tr O).2
  have r := fun a0 a1 O => release_len (nrm l) a0 a1 C O
  exact fun _ => ⟨fun _ => by omega, fun _ _ => ⟨h1, Nat.le_trans (s ..) (by omega), Nat.le_trans (r ..) (Nat.le_trans (Nat.add_le_add_right (s ..) _) (by omega))⟩, fun _ _ => ⟨h1, by omega, Nat.le_trans (r ..) (by omega)⟩⟩
noncomputable def v9_c8 (x : List GC) (l : List GC) (y : List GC) (a0 : Int) (a1 : Int) (tr : Bool) (op : Bool) (cl : Bool) (en : Bool) (mo : Bool) (la0 : Int) (la1 : Int) (la2 : Int) (er : Int) (C : List (List Int)) (O : List (List Int)) := [(0, Obj.blk 66 [(19948, SC.int IntKind.i64 (SI.v (finish_1 x l y a0 a1 tr))), (19949, SC.int IntKind.i64 (SI.v (finish_2 x l y a0 a1 tr))), (19950, SC.int IntKind.i64 (SI.v (finish_3 x l y a0 a1
   tr))), (19951, SC.int IntKind.i64 (SI.v (finish_4 x l y a0 a1 tr))), (19952, SC.int IntKind.i64 (SI.v (finish_5 x l y a0 a1 tr))), (19953, SC.int IntKind.i64 (SI.v (finish_6 x l y a0 a1 tr))),
   (19954, SC.int IntKind.i64 (SI.v (finish_7 x l y a0 a1 tr))), (19955, SC.int IntKind.i64 (SI.v (finish_8 x l y a0 a1 tr))), (19956, SC.int IntKind.i64 (SI.v (finish_9 x l y a0 a1 tr))), (19957,
   SC.int IntKind.i64 (SI.v (finish_10 x l y a0 a1 tr))), (19958, SC.int IntKind.i64 (SI.v (finish_11 x l y a0 a1 tr))), (19959, SC.int IntKind.i64 (SI.v (finish_12 x l y a0 a1 tr))), (19960, SC.int
   IntKind.i64 (SI.v (finish_13 x l y a0 a1 tr))), (19961, SC.bool (SB.v (finish_14 x l y a0 a1 tr))), (19962, SC.int IntKind.i64 (SI.v (finish_15 x l y a0 a1 tr))), (19963, SC.bool (SB.v (finish_16 x l
   y a0 a1 tr))), (19964, SC.int IntKind.i64 (SI.v (finish_17 x l y a0 a1 tr))), (19965, SC.int IntKind.i64 (SI.v (finish_18 x l y a0 a1 tr))), (19966, SC.int IntKind.i64 (SI.v (finish_19 x l y a0 a1
   tr))), (19967, SC.int IntKind.i64 (SI.v (finish_20 x l y a0 a1 tr))), (19968, SC.int IntKind.i64 (SI.v (finish_21 x l y a0 a1 tr))), (19969, SC.bool (SB.v (finish_22 x l y a0 a1 tr))), (19970, SC.int
   IntKind.i64 (SI.v (finish_23 x l y a0 a1 tr))), (19971, SC.int IntKind.i64 (SI.v (finish_24 x l y a0 a1 tr))), (19972, SC.int IntKind.i64 (SI.v (finish_25 x l y a0 a1 tr))), (19973, SC.int
   IntKind.i64 (SI.v (finish_26 x l y a0 a1 tr))), (19974, SC.int IntKind.i64 (SI.v (finish_27 x l y a0 a1 tr))), (19975, SC.int IntKind.i64 (SI.v (finish_28 x l y a0 a1 tr))), (19976, SC.int
   IntKind.i64 (SI.v (finish_29 x l y a0 a1 tr))), (19977, SC.int IntKind.i64 (SI.v (finish_30 x l y a0 a1 tr))), (19978, SC.int IntKind.i64 (SI.v (finish_31 x l y a0 a1 tr))), (19979, SC.int
   IntKind.i64 (SI.v (finish_32 x l y a0 a1 tr))), (19980, SC.int IntKind.i64 (SI.v (finish_33 x l y a0 a1 tr))), (19981, SC.int IntKind.i64 (SI.v (finish_34 x l y a0 a1 tr))), (19982, SC.int
   IntKind.i64 (SI.v (finish_35 x l y a0 a1 tr))), (19983, SC.bool (SB.v (finish_36 x l y a0 a1 tr))), (19984, SC.int IntKind.i64 (SI.v (finish_37 x l y a0 a1 tr))), (19985, SC.bool (SB.v (finish_38 x l
   y a0 a1 tr))), (19986, SC.int IntKind.i64 (SI.v (finish_39 x l y a0 a1 tr))), (19987, SC.int IntKind.i64 (SI.v (finish_40 x l y a0 a1 tr))), (19988, SC.int IntKind.i64 (SI.v (finish_41 x l y a0 a1
   tr))), (19989, SC.int IntKind.i64 (SI.v (finish_42 x l y a0 a1 tr))), (19990, SC.int IntKind.i64 (SI.v (finish_43 x l y a0 a1 tr))), (19991, SC.bool (SB.v (finish_44 x l y a0 a1 tr))), (19992, SC.int
   IntKind.i64 (SI.v (finish_45 x l y a0 a1 tr))), (19993, SC.int IntKind.i64 (SI.v (finish_46 x l y a0 a1 tr))), (19994, SC.bool (SB.v (finish_47 x l y a0 a1 tr))), (19942, SC.wh 19940), (19995,
   SC.bool (SB.v (finish_48 x l y a0 a1 tr op))), (52, SC.bool (SB.v cl)), (53, SC.bool (SB.v en)), (54, SC.bool (SB.v mo)), (55, SC.int IntKind.i64 (SI.v la0)), (56, SC.int IntKind.i64 (SI.v la1)),
   (57, SC.int IntKind.i64 (SI.v la2)), (19945, SC.wh 19943), (59, SC.int IntKind.i64 (SI.v er))]), (19943, Obj.row false 32 22 (RowC.lst 19947 v9_c7 (finish_49 x l y a0 a1 tr C O))), (19940, Obj.row
   false 32 22 (RowC.lst 19946 v9_c7 (finish_50 x l y a0 a1 tr C)))]
set_option maxRecDepth 1000000 in
theorem finish_runs (x l y : List GC) (a0 a1 : Int) (tr op cl en mo : Bool) (la0 la1 la2 er : Int) (C O : List (List Int)) (hNeeds : ∀ pN ∈ (finish_needs x l y a0 a1 tr C O), pN) : Runs (runF (sums K_turn) L_rel 38) (finish_tpl.args (spread finish_sp [.v x, .v l, .v y, .i a0, .i a1, .b tr, .b op, .b cl, .b en, .b mo, .i la0, .i la1, .i la2, .i er])) (finish_tpl.memo (spread finish_sp [.v x, .v l, .v y, .i a0, .i a1, .b tr, .b op, .b cl, .b en, .b mo, .i la0, .i la1, .i la2, .i er]) [C, O]) finish_tpl.n (SV.one (SC.int IntKind.i64 (SI.v (finish_0 x l y a0 a1 tr)))) ((v9_c8 x l y a0 a1 tr op cl en mo la0 la1 la2 er C O)) :=
  Runs.of1 (ps := (finish_needs x l y a0 a1 tr C O)) (by kernel_rfl) hNeeds
noncomputable def finish_out : List Gm → Lss → Option CRes
  | [.v x, .v l, .v y, .i a0, .i a1, .b tr, .b op, .b cl, .b en, .b mo, .i la0, .i la1, .i la2, .i er], [C, O] => some ⟨SV.one (SC.int IntKind.i64 (SI.v (finish_0 x l y a0 a1 tr))), (v9_c8 x l y a0 a1 tr op cl en mo la0 la1 la2 er C O), [C.length ≤ 1000, O.length ≤ 800000], [], 19996⟩
  | _, _ => none
theorem finish_ok : FOk Try.prog 38 (tplG finish_sp finish_tpl finish_out) := by
  refine tplG_ok (runF_ok known_turn 38) fun ps ls r hr hn _ => ?_
  unfold finish_out at hr
  split at hr
  · cases hr; exact ⟨_, finish_runs _ _ _ _ _ _ _ _ _ _ _ _ _ _ _ _ (finish_weak (by exact hn)), fun _ => rfl⟩
  · cases hr
noncomputable def K_finish : List (Nat × Summ) := (38, tplG finish_sp finish_tpl finish_out) :: K_turn
theorem known_finish : Known Try.prog (sums K_finish) L_rel := known_cons known_turn finish_ok
theorem chS {l y : List GC} {a0 a1 u w : Int} {tm tr : Bool} {C O : List (List Int)} : (shift_47 u w tm l y a0 a1 tr O).length ≤ O.length + C.length + 3 := by have := (shift_47_len u w tm l y a0 a1 tr O).2; omega
theorem chO {C O : List (List Int)} : O.length ≤ O.length + C.length + 3 := by omega
theorem chR {l : List GC} {a0 a1 : Int} {C O A : List (List Int)} (h : A.length ≤ O.length + 1) : (release_44 l a0 a1 C A).length ≤ O.length + C.length + 3 := by have := release_len l a0 a1 C A; omega
theorem chJ {it l l' : List GC} {u w a0 a1 b0 b1 : Int} {ou : Bool} {C O A : List (List Int)} (h : A.length ≤ O.length + 1) : (join_46 it u w ou l' b0 b1 (release_44 l a0 a1 C A)).length ≤ O.length + C.length + 3 := by
  have := release_len l a0 a1 C A
  have := (join_46_len it u w ou l' b0 b1 (release_44 l a0 a1 C A)).2
  omega
theorem chL {it l l' : List GC} {u w lo hi a0 a1 b0 b1 : Int} {al : Bool} {C O A : List (List Int)} (h : A.length ≤ O.length + 1) : (line_46 it u w lo hi al l' b0 b1 (release_44 l a0 a1 C A)).length ≤ O.length + C.length + 3 := by
  have := release_len l a0 a1 C A
  have := (line_46_len it u w lo hi al l' b0 b1 (release_44 l a0 a1 C A)).2
  omega
theorem enter_47_len (x l : List GC) (C O : List (List Int)) : (enter_47 x l C O).length ≤ O.length + C.length + 3 := by
  unfold enter_47
  repeat' first | exact chO | exact chR (line_46_len ..).2 | refine ite_le ?_ ?_
theorem turn_48_len (x l y : List GC) (a0 a1 : Int) (tr : Bool) (C O : List (List Int)) : (turn_48 x l y a0 a1 tr C O).length ≤ O.length + C.length + 3 := by
  unfold turn_48
  repeat' first | exact chO | exact chS | exact chR (Nat.le_succ _) | exact chR (shift_47_len ..).2 | exact chJ (Nat.le_succ _) | exact chJ (shift_47_len ..).2 | refine ite_le ?_ ?_
theorem finish_49_len (x l y : List GC) (a0 a1 : Int) (tr : Bool) (C O : List (List Int)) : (finish_49 x l y a0 a1 tr C O).length ≤ O.length + C.length + 3 := by
  unfold finish_49
  repeat' first | exact chO | exact chS | exact chL (Nat.le_succ _) | exact chL (shift_47_len ..).2 | refine ite_le ?_ ?_
end Go.Proofs.Ytmbfbhimdkjkoaa
