/-
  CUTTER: what lies within an arc, the shift of an element, joins. Conditions: there is room.
-/
import Derived.Test.YtmbfbhimdkjkoaaV6
set_option linter.all false
namespace Go.Proofs.Ytmbfbhimdkjkoaa
open Go.SX Go.RowKit
noncomputable def within_tpl : Tpl := ⟨[.one (.ptr 0 0), .agg [.int .i64, .int .i64], .one (.bool)], [(0, .blk 66 [(3, .int .i64), (4, .int .i64), (5, .int .i64), (6, .int .i64), (7, .int .i64), (8, .int .i64), (9, .int .i64), (10, .int .i64), (11, .int .i64), (12, .int .i64), (13, .int .i64), (14, .int .i64), (15, .int .i64), (16, .bool), (17, .int .i64), (18, .bool), (19, .int .i64), (20, .int .i64), (21, .int .i64), (22, .int .i64), (23, .int .i64), (24, .bool), (25, .int .i64), (26, .int .i64), (27, .int .i64), (28, .int .i64), (29, .int .i64), (30, .int .i64), (31, .int .i64), (32, .int .i64), (33, .int .i64), (34, .int .i64), (35, .int .i64), (36, .int .i64), (37, .int .i64), (38, .bool), (39, .int .i64), (40, .bool), (41, .int .i64), (42, .int .i64), (43, .int .i64), (44, .int .i64), (45, .int .i64), (46, .bool), (47, .int .i64), (48, .int .i64), (49, .bool), (50, .wh 1), (51, .bool), (52, .bool), (53, .bool), (54, .bool), (55, .int .i64), (56, .int .i64), (57, .int .i64), (58, .wh 2), (59, .int .i64)]), (1, .row false 32 22 60 [.int .i64, .int .i64, .int .i64, .int .i64, .int .i64, .int .i64, .int .i64, .int .i64, .int .i64, .int .i64, .int .i64, .int .i64, .int .i64, .bool, .int .i64, .bool, .int .i64, .int .i64, .int .i64, .int .i64, .int .i64, .bool]), (2, .row false 32 22 61 [.int .i64, .int .i64, .int .i64, .int .i64, .int .i64, .int .i64, .int .i64, .int .i64, .int .i64, .int .i64, .int .i64, .int .i64, .int .i64, .bool, .int .i64, .bool, .int .i64, .int .i64, .int .i64, .int .i64, .int .i64, .bool])], 62⟩
noncomputable def within_sp : List GK := [.i, .i, .b, .v itemB, .v itemB, .i, .i, .b, .b, .b, .b, .b, .i, .i, .i, .i]
noncomputable def within_s0 (u : Int) (l : List GC) (y : List GC) : Int :=
  IntKind.i64.wrap (u - flat_0 (xi l 8) (xi y 9) (xi y 10) (xi y 11))
noncomputable def within_s1 (w : Int) (l : List GC) (y : List GC) : Int :=
  IntKind.i64.wrap (w - flat_1 (xi l 8) (xi y 9) (xi y 10) (xi y 11))
noncomputable def within_0 (u : Int) (w : Int) (tm : Bool) (l : List GC) (y : List GC) (a0 : Int) (a1 : Int) (tr : Bool) : Bool :=
  bif tr then
    bif
        !ainside_0 (xi y 2) (xi y 3) (xi y 4) (xi y 5) (xi y 6) (xi y 7) (xi y 8) (xi y 9) (xi y 10) (xi y 11) (xi y 12) (xb y 13) (IntKind.i64.wrap (a0 - flat_0 (xi l 8) (xi y 9) (xi y 10) (xi y 11)))
            (IntKind.i64.wrap (a1 - flat_1 (xi l 8) (xi y 9) (xi y 10) (xi y 11))) then
      false
    else
      !tm ||
        ainside_0 (solid_0 (xi l 8) a0 a1 (flat_2 (xi l 8) (xi y 2) (xi y 3) (xi y 4))) (solid_1 (xi l 8) a0 a1 (flat_2 (xi l 8) (xi y 2) (xi y 3) (xi y 4)))
          (solid_2 (xi l 8) a0 a1 (flat_2 (xi l 8) (xi y 2) (xi y 3) (xi y 4))) (xi y 5) (xi y 6) (xi y 7) (xi y 8) (xi y 9) (xi y 10) (xi y 11) (xi y 12) (xb y 13) (within_s0 u l y) (within_s1 w l y)
  else !tm || ainside_0 (xi y 2) (xi y 3) (xi y 4) (xi y 5) (xi y 6) (xi y 7) (xi y 8) (xi y 9) (xi y 10) (xi y 11) (xi y 12) (xb y 13) (within_s0 u l y) (within_s1 w l y)
set_option maxRecDepth 1000000 in
theorem within_runs (u w : Int) (tm : Bool) (l y : List GC) (a0 a1 : Int) (tr op cl en mo : Bool) (la0 la1 la2 er : Int) (C O : List (List Int)) : Runs (runF (sums K_line) L_cr 63) (within_tpl.args (spread within_sp [.i u, .i w, .b tm, .v l, .v y, .i a0, .i a1, .b tr, .b op, .b cl, .b en, .b mo, .i la0, .i la1, .i la2, .i er])) (within_tpl.memo (spread within_sp [.i u, .i w, .b tm, .v l, .v y, .i a0, .i a1, .b tr, .b op, .b cl, .b en, .b mo, .i la0, .i la1, .i la2, .i er]) [C, O]) within_tpl.n (SV.one (SC.bool (SB.v (within_0 u w tm l y a0 a1 tr))))
    ([(0,
      Obj.blk 66
        [(3, SC.int IntKind.i64 (SI.v (xi l 0))), (4, SC.int IntKind.i64 (SI.v (xi l 1))), (5, SC.int IntKind.i64 (SI.v (xi l 2))), (6, SC.int IntKind.i64 (SI.v (xi l 3))),
          (7, SC.int IntKind.i64 (SI.v (xi l 4))), (8, SC.int IntKind.i64 (SI.v (xi l 5))), (9, SC.int IntKind.i64 (SI.v (xi l 6))), (10, SC.int IntKind.i64 (SI.v (xi l 7))),
          (11, SC.int IntKind.i64 (SI.v (xi l 8))), (12, SC.int IntKind.i64 (SI.v (xi l 9))), (13, SC.int IntKind.i64 (SI.v (xi l 10))), (14, SC.int IntKind.i64 (SI.v (xi l 11))),
          (15, SC.int IntKind.i64 (SI.v (xi l 12))), (16, SC.bool (SB.v (xb l 13))), (17, SC.int IntKind.i64 (SI.v (xi l 14))), (18, SC.bool (SB.v (xb l 15))), (19, SC.int IntKind.i64 (SI.v (xi l 16))),
          (20, SC.int IntKind.i64 (SI.v (xi l 17))), (21, SC.int IntKind.i64 (SI.v (xi l 18))), (22, SC.int IntKind.i64 (SI.v (xi l 19))), (23, SC.int IntKind.i64 (SI.v (xi l 20))),
          (24, SC.bool (SB.v (xb l 21))), (25, SC.int IntKind.i64 (SI.v (xi y 0))), (26, SC.int IntKind.i64 (SI.v (xi y 1))), (27, SC.int IntKind.i64 (SI.v (xi y 2))),
          (28, SC.int IntKind.i64 (SI.v (xi y 3))), (29, SC.int IntKind.i64 (SI.v (xi y 4))), (30, SC.int IntKind.i64 (SI.v (xi y 5))), (31, SC.int IntKind.i64 (SI.v (xi y 6))),
          (32, SC.int IntKind.i64 (SI.v (xi y 7))), (33, SC.int IntKind.i64 (SI.v (xi y 8))), (34, SC.int IntKind.i64 (SI.v (xi y 9))), (35, SC.int IntKind.i64 (SI.v (xi y 10))),
          (36, SC.int IntKind.i64 (SI.v (xi y 11))), (37, SC.int IntKind.i64 (SI.v (xi y 12))), (38, SC.bool (SB.v (xb y 13))), (39, SC.int IntKind.i64 (SI.v (xi y 14))), (40, SC.bool (SB.v (xb y 15))),
          (41, SC.int IntKind.i64 (SI.v (xi y 16))), (42, SC.int IntKind.i64 (SI.v (xi y 17))), (43, SC.int IntKind.i64 (SI.v (xi y 18))), (44, SC.int IntKind.i64 (SI.v (xi y 19))),
          (45, SC.int IntKind.i64 (SI.v (xi y 20))), (46, SC.bool (SB.v (xb y 21))), (47, SC.int IntKind.i64 (SI.v a0)), (48, SC.int IntKind.i64 (SI.v a1)), (49, SC.bool (SB.v tr)), (50, SC.wh 1),
          (51, SC.bool (SB.v op)), (52, SC.bool (SB.v cl)), (53, SC.bool (SB.v en)), (54, SC.bool (SB.v mo)), (55, SC.int IntKind.i64 (SI.v la0)), (56, SC.int IntKind.i64 (SI.v la1)),
          (57, SC.int IntKind.i64 (SI.v la2)), (58, SC.wh 2), (59, SC.int IntKind.i64 (SI.v er))]),
    (1,
      Obj.row false 32 22
        (RowC.lst 60
          [CK.int IntKind.i64, CK.int IntKind.i64, CK.int IntKind.i64, CK.int IntKind.i64, CK.int IntKind.i64, CK.int IntKind.i64, CK.int IntKind.i64, CK.int IntKind.i64, CK.int IntKind.i64,
            CK.int IntKind.i64, CK.int IntKind.i64, CK.int IntKind.i64, CK.int IntKind.i64, CK.bool, CK.int IntKind.i64, CK.bool, CK.int IntKind.i64, CK.int IntKind.i64, CK.int IntKind.i64,
            CK.int IntKind.i64, CK.int IntKind.i64, CK.bool]
          C)),
    (2,
      Obj.row false 32 22
        (RowC.lst 61
          [CK.int IntKind.i64, CK.int IntKind.i64, CK.int IntKind.i64, CK.int IntKind.i64, CK.int IntKind.i64, CK.int IntKind.i64, CK.int IntKind.i64, CK.int IntKind.i64, CK.int IntKind.i64,
            CK.int IntKind.i64, CK.int IntKind.i64, CK.int IntKind.i64, CK.int IntKind.i64, CK.bool, CK.int IntKind.i64, CK.bool, CK.int IntKind.i64, CK.int IntKind.i64, CK.int IntKind.i64,
            CK.int IntKind.i64, CK.int IntKind.i64, CK.bool]
          O))]) :=
  Runs.of1 (ps := []) (by kernel_rfl) (by simp)
noncomputable def within_out : List Gm → Lss → Option CRes
  | [.i u, .i w, .b tm, .v l, .v y, .i a0, .i a1, .b tr, .b op, .b cl, .b en, .b mo, .i la0, .i la1, .i la2, .i er], [C, O] => some ⟨SV.one (SC.bool (SB.v (within_0 u w tm l y a0 a1 tr))),
    [(0,
      Obj.blk 66
        [(3, SC.int IntKind.i64 (SI.v (xi l 0))), (4, SC.int IntKind.i64 (SI.v (xi l 1))), (5, SC.int IntKind.i64 (SI.v (xi l 2))), (6, SC.int IntKind.i64 (SI.v (xi l 3))),
          (7, SC.int IntKind.i64 (SI.v (xi l 4))), (8, SC.int IntKind.i64 (SI.v (xi l 5))), (9, SC.int IntKind.i64 (SI.v (xi l 6))), (10, SC.int IntKind.i64 (SI.v (xi l 7))),
          (11, SC.int IntKind.i64 (SI.v (xi l 8))), (12, SC.int IntKind.i64 (SI.v (xi l 9))), (13, SC.int IntKind.i64 (SI.v (xi l 10))), (14, SC.int IntKind.i64 (SI.v (xi l 11))),
          (15, SC.int IntKind.i64 (SI.v (xi l 12))), (16, SC.bool (SB.v (xb l 13))), (17, SC.int IntKind.i64 (SI.v (xi l 14))), (18, SC.bool (SB.v (xb l 15))), (19, SC.int IntKind.i64 (SI.v (xi l 16))),
          (20, SC.int IntKind.i64 (SI.v (xi l 17))), (21, SC.int IntKind.i64 (SI.v (xi l 18))), (22, SC.int IntKind.i64 (SI.v (xi l 19))), (23, SC.int IntKind.i64 (SI.v (xi l 20))),
          (24, SC.bool (SB.v (xb l 21))), (25, SC.int IntKind.i64 (SI.v (xi y 0))), (26, SC.int IntKind.i64 (SI.v (xi y 1))), (27, SC.int IntKind.i64 (SI.v (xi y 2))),
          (28, SC.int IntKind.i64 (SI.v (xi y 3))), (29, SC.int IntKind.i64 (SI.v (xi y 4))), (30, SC.int IntKind.i64 (SI.v (xi y 5))), (31, SC.int IntKind.i64 (SI.v (xi y 6))),
          (32, SC.int IntKind.i64 (SI.v (xi y 7))), (33, SC.int IntKind.i64 (SI.v (xi y 8))), (34, SC.int IntKind.i64 (SI.v (xi y 9))), (35, SC.int IntKind.i64 (SI.v (xi y 10))),
          (36, SC.int IntKind.i64 (SI.v (xi y 11))), (37, SC.int IntKind.i64 (SI.v (xi y 12))), (38, SC.bool (SB.v (xb y 13))), (39, SC.int IntKind.i64 (SI.v (xi y 14))), (40, SC.bool (SB.v (xb y 15))),
          (41, SC.int IntKind.i64 (SI.v (xi y 16))), (42, SC.int IntKind.i64 (SI.v (xi y 17))), (43, SC.int IntKind.i64 (SI.v (xi y 18))), (44, SC.int IntKind.i64 (SI.v (xi y 19))),
          (45, SC.int IntKind.i64 (SI.v (xi y 20))), (46, SC.bool (SB.v (xb y 21))), (47, SC.int IntKind.i64 (SI.v a0)), (48, SC.int IntKind.i64 (SI.v a1)), (49, SC.bool (SB.v tr)), (50, SC.wh 1),
          (51, SC.bool (SB.v op)), (52, SC.bool (SB.v cl)), (53, SC.bool (SB.v en)), (54, SC.bool (SB.v mo)), (55, SC.int IntKind.i64 (SI.v la0)), (56, SC.int IntKind.i64 (SI.v la1)),
          (57, SC.int IntKind.i64 (SI.v la2)), (58, SC.wh 2), (59, SC.int IntKind.i64 (SI.v er))]),
    (1,
      Obj.row false 32 22
        (RowC.lst 60
          [CK.int IntKind.i64, CK.int IntKind.i64, CK.int IntKind.i64, CK.int IntKind.i64, CK.int IntKind.i64, CK.int IntKind.i64, CK.int IntKind.i64, CK.int IntKind.i64, CK.int IntKind.i64,
            CK.int IntKind.i64, CK.int IntKind.i64, CK.int IntKind.i64, CK.int IntKind.i64, CK.bool, CK.int IntKind.i64, CK.bool, CK.int IntKind.i64, CK.int IntKind.i64, CK.int IntKind.i64,
            CK.int IntKind.i64, CK.int IntKind.i64, CK.bool]
          C)),
    (2,
      Obj.row false 32 22
        (RowC.lst 61
          [CK.int IntKind.i64, CK.int IntKind.i64, CK.int IntKind.i64, CK.int IntKind.i64, CK.int IntKind.i64, CK.int IntKind.i64, CK.int IntKind.i64, CK.int IntKind.i64, CK.int IntKind.i64,
            CK.int IntKind.i64, CK.int IntKind.i64, CK.int IntKind.i64, CK.int IntKind.i64, CK.bool, CK.int IntKind.i64, CK.bool, CK.int IntKind.i64, CK.int IntKind.i64, CK.int IntKind.i64,
            CK.int IntKind.i64, CK.int IntKind.i64, CK.bool]
          O))],
    [], [], 2498⟩
  | _, _ => none
theorem within_ok : FOk Try.prog 63 (tplG within_sp within_tpl within_out) := by
  refine tplG_ok (runF_ok known_line 63) fun ps ls r hr hn _ => ?_
  unfold within_out at hr
  split at hr
  · cases hr; exact ⟨_, within_runs _ _ _ _ _ _ _ _ _ _ _ _ _ _ _ _ _ _, fun _ => rfl⟩
  · cases hr
noncomputable def K_within : List (Nat × Summ) := (63, tplG within_sp within_tpl within_out) :: K_line
theorem known_within : Known Try.prog (sums K_within) L_cr := known_cons known_line within_ok
noncomputable def shift_tpl : Tpl := ⟨[.one (.ptr 0 0), .agg [.int .i64, .int .i64], .one (.bool)], [(0, .blk 66 [(3, .int .i64), (4, .int .i64), (5, .int .i64), (6, .int .i64), (7, .int .i64), (8, .int .i64), (9, .int .i64), (10, .int .i64), (11, .int .i64), (12, .int .i64), (13, .int .i64), (14, .int .i64), (15, .int .i64), (16, .bool), (17, .int .i64), (18, .bool), (19, .int .i64), (20, .int .i64), (21, .int .i64), (22, .int .i64), (23, .int .i64), (24, .bool), (25, .int .i64), (26, .int .i64), (27, .int .i64), (28, .int .i64), (29, .int .i64), (30, .int .i64), (31, .int .i64), (32, .int .i64), (33, .int .i64), (34, .int .i64), (35, .int .i64), (36, .int .i64), (37, .int .i64), (38, .bool), (39, .int .i64), (40, .bool), (41, .int .i64), (42, .int .i64), (43, .int .i64), (44, .int .i64), (45, .int .i64), (46, .bool), (47, .int .i64), (48, .int .i64), (49, .bool), (50, .wh 1), (51, .bool), (52, .bool), (53, .bool), (54, .bool), (55, .int .i64), (56, .int .i64), (57, .int .i64), (58, .wh 2), (59, .int .i64)]), (1, .row false 32 22 60 [.int .i64, .int .i64, .int .i64, .int .i64, .int .i64, .int .i64, .int .i64, .int .i64, .int .i64, .int .i64, .int .i64, .int .i64, .int .i64, .bool, .int .i64, .bool, .int .i64, .int .i64, .int .i64, .int .i64, .int .i64, .bool]), (2, .row false 32 22 61 [.int .i64, .int .i64, .int .i64, .int .i64, .int .i64, .int .i64, .int .i64, .int .i64, .int .i64, .int .i64, .int .i64, .int .i64, .int .i64, .bool, .int .i64, .bool, .int .i64, .int .i64, .int .i64, .int .i64, .int .i64, .bool])], 62⟩
noncomputable def shift_sp : List GK := [.i, .i, .b, .v itemB, .v itemB, .i, .i, .b, .b, .b, .b, .b, .i, .i, .i, .i]
noncomputable def shift_s0 (u : Int) (w : Int) (l : List GC) (y : List GC) (a0 : Int) (a1 : Int) : Int :=
  vinner_0 (IntKind.i64.wrap (u - a0)) (IntKind.i64.wrap (w - a1)) (IntKind.i64.wrap (flat_0 (xi l 8) (xi y 5) (xi y 6) (xi y 7) - flat_0 (xi l 8) (xi y 2) (xi y 3) (xi y 4)))
    (IntKind.i64.wrap (flat_1 (xi l 8) (xi y 5) (xi y 6) (xi y 7) - flat_1 (xi l 8) (xi y 2) (xi y 3) (xi y 4)))
noncomputable def shift_0 (u : Int) (w : Int) (tm : Bool) (l : List GC) (y : List GC) (a0 : Int) (a1 : Int) (tr : Bool) : Int :=
  bif xi y 0 == 2 then bif (tm || tr) && decide (shift_s0 u w l y a0 a1 ≤ 0) then 16 else 0
  else
    bif (tm || tr) && !xb y 13 && !within_0 u w tm (nrm l) (nrm y) a0 a1 tr then 16
    else
      bif
          acheck_0 (xi y 0) (solid_0 (xi l 8) a0 a1 (flat_2 (xi l 8) (xi y 2) (xi y 3) (xi y 4))) (solid_1 (xi l 8) a0 a1 (flat_2 (xi l 8) (xi y 2) (xi y 3) (xi y 4)))
              (solid_2 (xi l 8) a0 a1 (flat_2 (xi l 8) (xi y 2) (xi y 3) (xi y 4))) (solid_0 (xi l 8) u w (flat_2 (xi l 8) (xi y 5) (xi y 6) (xi y 7)))
              (solid_1 (xi l 8) u w (flat_2 (xi l 8) (xi y 5) (xi y 6) (xi y 7))) (solid_2 (xi l 8) u w (flat_2 (xi l 8) (xi y 5) (xi y 6) (xi y 7))) (bif xi y 0 != 3 then 0 else xi y 8) (xi y 9)
              (xi y 10) (xi y 11) (xi y 12) (xb y 13 && !tm && !tr) !=
            0 then
        16
      else 0
noncomputable def shift_45 (u : Int) (w : Int) (tm : Bool) (l : List GC) (y : List GC) (a0 : Int) (a1 : Int) (tr : Bool) : Int :=
  bif xi y 0 == 2 then bif (tm || tr) && decide (shift_s0 u w l y a0 a1 ≤ 0) then a0 else u
  else
    bif (tm || tr) && !xb y 13 && !within_0 u w tm (nrm l) (nrm y) a0 a1 tr then a0
    else
      bif
          acheck_0 (xi y 0) (solid_0 (xi l 8) a0 a1 (flat_2 (xi l 8) (xi y 2) (xi y 3) (xi y 4))) (solid_1 (xi l 8) a0 a1 (flat_2 (xi l 8) (xi y 2) (xi y 3) (xi y 4)))
              (solid_2 (xi l 8) a0 a1 (flat_2 (xi l 8) (xi y 2) (xi y 3) (xi y 4))) (solid_0 (xi l 8) u w (flat_2 (xi l 8) (xi y 5) (xi y 6) (xi y 7)))
              (solid_1 (xi l 8) u w (flat_2 (xi l 8) (xi y 5) (xi y 6) (xi y 7))) (solid_2 (xi l 8) u w (flat_2 (xi l 8) (xi y 5) (xi y 6) (xi y 7))) (bif xi y 0 != 3 then 0 else xi y 8) (xi y 9)
              (xi y 10) (xi y 11) (xi y 12) (xb y 13 && !tm && !tr) !=
            0 then
        a0
      else u
noncomputable def shift_46 (u : Int) (w : Int) (tm : Bool) (l : List GC) (y : List GC) (a0 : Int) (a1 : Int) (tr : Bool) : Int :=
  bif xi y 0 == 2 then bif (tm || tr) && decide (shift_s0 u w l y a0 a1 ≤ 0) then a1 else w
  else
    bif (tm || tr) && !xb y 13 && !within_0 u w tm (nrm l) (nrm y) a0 a1 tr then a1
    else
      bif
          acheck_0 (xi y 0) (solid_0 (xi l 8) a0 a1 (flat_2 (xi l 8) (xi y 2) (xi y 3) (xi y 4))) (solid_1 (xi l 8) a0 a1 (flat_2 (xi l 8) (xi y 2) (xi y 3) (xi y 4)))
              (solid_2 (xi l 8) a0 a1 (flat_2 (xi l 8) (xi y 2) (xi y 3) (xi y 4))) (solid_0 (xi l 8) u w (flat_2 (xi l 8) (xi y 5) (xi y 6) (xi y 7)))
              (solid_1 (xi l 8) u w (flat_2 (xi l 8) (xi y 5) (xi y 6) (xi y 7))) (solid_2 (xi l 8) u w (flat_2 (xi l 8) (xi y 5) (xi y 6) (xi y 7))) (bif xi y 0 != 3 then 0 else xi y 8) (xi y 9)
              (xi y 10) (xi y 11) (xi y 12) (xb y 13 && !tm && !tr) !=
            0 then
        a1
      else w
noncomputable def shift_s1 (y : List GC) : Int :=
  bif xi y 0 != 3 then 0 else xi y 8
noncomputable def shift_47 (u : Int) (w : Int) (tm : Bool) (l : List GC) (y : List GC) (a0 : Int) (a1 : Int) (tr : Bool) (O : List (List Int)) : List (List Int) :=
  bif xi y 0 == 2 then
    bif (tm || tr) && decide (shift_s0 u w l y a0 a1 ≤ 0) then O else line_46 (nrm y) u w (flat_2 (xi l 8) (xi y 2) (xi y 3) (xi y 4)) (flat_2 (xi l 8) (xi y 5) (xi y 6) (xi y 7)) false (nrm l) a0 a1 O
  else
    bif (tm || tr) && !xb y 13 && !within_0 u w tm (nrm l) (nrm y) a0 a1 tr then O
    else
      bif
          acheck_0 (xi y 0) (solid_0 (xi l 8) a0 a1 (flat_2 (xi l 8) (xi y 2) (xi y 3) (xi y 4))) (solid_1 (xi l 8) a0 a1 (flat_2 (xi l 8) (xi y 2) (xi y 3) (xi y 4)))
              (solid_2 (xi l 8) a0 a1 (flat_2 (xi l 8) (xi y 2) (xi y 3) (xi y 4))) (solid_0 (xi l 8) u w (flat_2 (xi l 8) (xi y 5) (xi y 6) (xi y 7)))
              (solid_1 (xi l 8) u w (flat_2 (xi l 8) (xi y 5) (xi y 6) (xi y 7))) (solid_2 (xi l 8) u w (flat_2 (xi l 8) (xi y 5) (xi y 6) (xi y 7))) (shift_s1 y) (xi y 9) (xi y 10) (xi y 11) (xi y 12)
              (xb y 13 && !tm && !tr) !=
            0 then
        O
      else
        O ++
          [[xi y 0, xi y 1, solid_0 (xi l 8) a0 a1 (flat_2 (xi l 8) (xi y 2) (xi y 3) (xi y 4)), solid_1 (xi l 8) a0 a1 (flat_2 (xi l 8) (xi y 2) (xi y 3) (xi y 4)),
              solid_2 (xi l 8) a0 a1 (flat_2 (xi l 8) (xi y 2) (xi y 3) (xi y 4)), solid_0 (xi l 8) u w (flat_2 (xi l 8) (xi y 5) (xi y 6) (xi y 7)),
              solid_1 (xi l 8) u w (flat_2 (xi l 8) (xi y 5) (xi y 6) (xi y 7)), solid_2 (xi l 8) u w (flat_2 (xi l 8) (xi y 5) (xi y 6) (xi y 7)), shift_s1 y, xi y 9, xi y 10, xi y 11, xi y 12,
              bif xb y 13 && !tm && !tr then 1 else 0, xi y 14, bif xb y 15 then 1 else 0, 0, 0, xi y 18, xi y 19, xi y 20, bif xb y 21 then 1 else 0]]
noncomputable def shift_needs (u : Int) (w : Int) (tm : Bool) (l : List GC) (y : List GC) (a0 : Int) (a1 : Int) (tr : Bool) (O : List (List Int)) : List Prop :=
  [(xi y 0 == 2) = true → ((tm || tr) && decide (shift_s0 u w l y a0 a1 ≤ 0)) = false → O.length ≤ 1000000,
    (xi y 0 == 2) = false →
      ((tm || tr) && !xb y 13 && !within_0 u w tm (nrm l) (nrm y) a0 a1 tr) = false →
        (acheck_0 (xi y 0) (solid_0 (xi l 8) a0 a1 (flat_2 (xi l 8) (xi y 2) (xi y 3) (xi y 4))) (solid_1 (xi l 8) a0 a1 (flat_2 (xi l 8) (xi y 2) (xi y 3) (xi y 4)))
                (solid_2 (xi l 8) a0 a1 (flat_2 (xi l 8) (xi y 2) (xi y 3) (xi y 4))) (solid_0 (xi l 8) u w (flat_2 (xi l 8) (xi y 5) (xi y 6) (xi y 7)))
                (solid_1 (xi l 8) u w (flat_2 (xi l 8) (xi y 5) (xi y 6) (xi y 7))) (solid_2 (xi l 8) u w (flat_2 (xi l 8) (xi y 5) (xi y 6) (xi y 7))) (bif xi y 0 != 3 then 0 else xi y 8) (xi y 9)
                (xi y 10) (xi y 11) (xi y 12) (xb y 13 && !tm && !tr) !=
              0) =
            false →
          (O.length + 1) * 176 ≤ 140737488355328 ∧ O.length + 1 ≤ 9223372036854775807]
theorem shift_weak {u : Int} {w : Int} {tm : Bool} {l : List GC} {y : List GC} {a0 : Int} {a1 : Int} {tr : Bool} {O : List (List Int)} (hW : ∀ q ∈ ([O.length ≤ 1000000] : List Prop), q) : ∀ q ∈ (shift_needs u w tm l y a0 a1 tr O), q := by
  simp only [List.mem_cons, List.not_mem_nil, or_false, forall_eq_or_imp, forall_eq] at hW
  unfold shift_needs
  simp only [List.forall_mem_cons, List.not_mem_nil, false_implies, implies_true, and_true]
  exact ⟨fun _ _ => hW, fun _ _ _ => ⟨by omega, by omega⟩⟩
set_option maxRecDepth 1000000 in
theorem shift_runs (u w : Int) (tm : Bool) (l y : List GC) (a0 a1 : Int) (tr op cl en mo : Bool) (la0 la1 la2 er : Int) (C O : List (List Int)) (hNeeds : ∀ pN ∈ (shift_needs u w tm l y a0 a1 tr O), pN) : Runs (runF (sums K_within) L_cr 45) (shift_tpl.args (spread shift_sp [.i u, .i w, .b tm, .v l, .v y, .i a0, .i a1, .b tr, .b op, .b cl, .b en, .b mo, .i la0, .i la1, .i la2, .i er])) (shift_tpl.memo (spread shift_sp [.i u, .i w, .b tm, .v l, .v y, .i a0, .i a1, .b tr, .b op, .b cl, .b en, .b mo, .i la0, .i la1, .i la2, .i er]) [C, O]) shift_tpl.n (SV.one (SC.int IntKind.i64 (SI.v (shift_0 u w tm l y a0 a1 tr))))
    ([(0,
      Obj.blk 66
        [(3, SC.int IntKind.i64 (SI.v (xi l 0))), (4, SC.int IntKind.i64 (SI.v (xi l 1))), (5, SC.int IntKind.i64 (SI.v (xi l 2))), (6, SC.int IntKind.i64 (SI.v (xi l 3))),
          (7, SC.int IntKind.i64 (SI.v (xi l 4))), (8, SC.int IntKind.i64 (SI.v (xi l 5))), (9, SC.int IntKind.i64 (SI.v (xi l 6))), (10, SC.int IntKind.i64 (SI.v (xi l 7))),
          (11, SC.int IntKind.i64 (SI.v (xi l 8))), (12, SC.int IntKind.i64 (SI.v (xi l 9))), (13, SC.int IntKind.i64 (SI.v (xi l 10))), (14, SC.int IntKind.i64 (SI.v (xi l 11))),
          (15, SC.int IntKind.i64 (SI.v (xi l 12))), (16, SC.bool (SB.v (xb l 13))), (17, SC.int IntKind.i64 (SI.v (xi l 14))), (18, SC.bool (SB.v (xb l 15))), (19, SC.int IntKind.i64 (SI.v (xi l 16))),
          (20, SC.int IntKind.i64 (SI.v (xi l 17))), (21, SC.int IntKind.i64 (SI.v (xi l 18))), (22, SC.int IntKind.i64 (SI.v (xi l 19))), (23, SC.int IntKind.i64 (SI.v (xi l 20))),
          (24, SC.bool (SB.v (xb l 21))), (25, SC.int IntKind.i64 (SI.v (xi y 0))), (26, SC.int IntKind.i64 (SI.v (xi y 1))), (27, SC.int IntKind.i64 (SI.v (xi y 2))),
          (28, SC.int IntKind.i64 (SI.v (xi y 3))), (29, SC.int IntKind.i64 (SI.v (xi y 4))), (30, SC.int IntKind.i64 (SI.v (xi y 5))), (31, SC.int IntKind.i64 (SI.v (xi y 6))),
          (32, SC.int IntKind.i64 (SI.v (xi y 7))), (33, SC.int IntKind.i64 (SI.v (xi y 8))), (34, SC.int IntKind.i64 (SI.v (xi y 9))), (35, SC.int IntKind.i64 (SI.v (xi y 10))),
          (36, SC.int IntKind.i64 (SI.v (xi y 11))), (37, SC.int IntKind.i64 (SI.v (xi y 12))), (38, SC.bool (SB.v (xb y 13))), (39, SC.int IntKind.i64 (SI.v (xi y 14))), (40, SC.bool (SB.v (xb y 15))),
          (41, SC.int IntKind.i64 (SI.v (xi y 16))), (42, SC.int IntKind.i64 (SI.v (xi y 17))), (43, SC.int IntKind.i64 (SI.v (xi y 18))), (44, SC.int IntKind.i64 (SI.v (xi y 19))),
          (45, SC.int IntKind.i64 (SI.v (xi y 20))), (46, SC.bool (SB.v (xb y 21))), (5758, SC.int IntKind.i64 (SI.v (shift_45 u w tm l y a0 a1 tr))),
          (5759, SC.int IntKind.i64 (SI.v (shift_46 u w tm l y a0 a1 tr))), (49, SC.bool (SB.v tr)), (50, SC.wh 1), (51, SC.bool (SB.v op)), (52, SC.bool (SB.v cl)), (53, SC.bool (SB.v en)),
          (54, SC.bool (SB.v mo)), (55, SC.int IntKind.i64 (SI.v la0)), (56, SC.int IntKind.i64 (SI.v la1)), (57, SC.int IntKind.i64 (SI.v la2)), (5734, SC.wh 5732),
          (59, SC.int IntKind.i64 (SI.v er))]),
    (5732,
      Obj.row false 32 22
        (RowC.lst 5757
          [CK.int IntKind.i64, CK.int IntKind.i64, CK.int IntKind.i64, CK.int IntKind.i64, CK.int IntKind.i64, CK.int IntKind.i64, CK.int IntKind.i64, CK.int IntKind.i64, CK.int IntKind.i64,
            CK.int IntKind.i64, CK.int IntKind.i64, CK.int IntKind.i64, CK.int IntKind.i64, CK.bool, CK.int IntKind.i64, CK.bool, CK.int IntKind.i64, CK.int IntKind.i64, CK.int IntKind.i64,
            CK.int IntKind.i64, CK.int IntKind.i64, CK.bool]
          (shift_47 u w tm l y a0 a1 tr O))),
    (1,
      Obj.row false 32 22
        (RowC.lst 60
          [CK.int IntKind.i64, CK.int IntKind.i64, CK.int IntKind.i64, CK.int IntKind.i64, CK.int IntKind.i64, CK.int IntKind.i64, CK.int IntKind.i64, CK.int IntKind.i64, CK.int IntKind.i64,
            CK.int IntKind.i64, CK.int IntKind.i64, CK.int IntKind.i64, CK.int IntKind.i64, CK.bool, CK.int IntKind.i64, CK.bool, CK.int IntKind.i64, CK.int IntKind.i64, CK.int IntKind.i64,
            CK.int IntKind.i64, CK.int IntKind.i64, CK.bool]
          C))]) :=
  Runs.of1 (ps := (shift_needs u w tm l y a0 a1 tr O)) (by kernel_rfl) hNeeds
noncomputable def shift_out : List Gm → Lss → Option CRes
  | [.i u, .i w, .b tm, .v l, .v y, .i a0, .i a1, .b tr, .b op, .b cl, .b en, .b mo, .i la0, .i la1, .i la2, .i er], [C, O] => some ⟨SV.one (SC.int IntKind.i64 (SI.v (shift_0 u w tm l y a0 a1 tr))),
    [(0,
      Obj.blk 66
        [(3, SC.int IntKind.i64 (SI.v (xi l 0))), (4, SC.int IntKind.i64 (SI.v (xi l 1))), (5, SC.int IntKind.i64 (SI.v (xi l 2))), (6, SC.int IntKind.i64 (SI.v (xi l 3))),
          (7, SC.int IntKind.i64 (SI.v (xi l 4))), (8, SC.int IntKind.i64 (SI.v (xi l 5))), (9, SC.int IntKind.i64 (SI.v (xi l 6))), (10, SC.int IntKind.i64 (SI.v (xi l 7))),
          (11, SC.int IntKind.i64 (SI.v (xi l 8))), (12, SC.int IntKind.i64 (SI.v (xi l 9))), (13, SC.int IntKind.i64 (SI.v (xi l 10))), (14, SC.int IntKind.i64 (SI.v (xi l 11))),
          (15, SC.int IntKind.i64 (SI.v (xi l 12))), (16, SC.bool (SB.v (xb l 13))), (17, SC.int IntKind.i64 (SI.v (xi l 14))), (18, SC.bool (SB.v (xb l 15))), (19, SC.int IntKind.i64 (SI.v (xi l 16))),
          (20, SC.int IntKind.i64 (SI.v (xi l 17))), (21, SC.int IntKind.i64 (SI.v (xi l 18))), (22, SC.int IntKind.i64 (SI.v (xi l 19))), (23, SC.int IntKind.i64 (SI.v (xi l 20))),
          (24, SC.bool (SB.v (xb l 21))), (25, SC.int IntKind.i64 (SI.v (xi y 0))), (26, SC.int IntKind.i64 (SI.v (xi y 1))), (27, SC.int IntKind.i64 (SI.v (xi y 2))),
          (28, SC.int IntKind.i64 (SI.v (xi y 3))), (29, SC.int IntKind.i64 (SI.v (xi y 4))), (30, SC.int IntKind.i64 (SI.v (xi y 5))), (31, SC.int IntKind.i64 (SI.v (xi y 6))),
          (32, SC.int IntKind.i64 (SI.v (xi y 7))), (33, SC.int IntKind.i64 (SI.v (xi y 8))), (34, SC.int IntKind.i64 (SI.v (xi y 9))), (35, SC.int IntKind.i64 (SI.v (xi y 10))),
          (36, SC.int IntKind.i64 (SI.v (xi y 11))), (37, SC.int IntKind.i64 (SI.v (xi y 12))), (38, SC.bool (SB.v (xb y 13))), (39, SC.int IntKind.i64 (SI.v (xi y 14))), (40, SC.bool (SB.v (xb y 15))),
          (41, SC.int IntKind.i64 (SI.v (xi y 16))), (42, SC.int IntKind.i64 (SI.v (xi y 17))), (43, SC.int IntKind.i64 (SI.v (xi y 18))), (44, SC.int IntKind.i64 (SI.v (xi y 19))),
          (45, SC.int IntKind.i64 (SI.v (xi y 20))), (46, SC.bool (SB.v (xb y 21))), (5758, SC.int IntKind.i64 (SI.v (shift_45 u w tm l y a0 a1 tr))),
          (5759, SC.int IntKind.i64 (SI.v (shift_46 u w tm l y a0 a1 tr))), (49, SC.bool (SB.v tr)), (50, SC.wh 1), (51, SC.bool (SB.v op)), (52, SC.bool (SB.v cl)), (53, SC.bool (SB.v en)),
          (54, SC.bool (SB.v mo)), (55, SC.int IntKind.i64 (SI.v la0)), (56, SC.int IntKind.i64 (SI.v la1)), (57, SC.int IntKind.i64 (SI.v la2)), (5734, SC.wh 5732),
          (59, SC.int IntKind.i64 (SI.v er))]),
    (5732,
      Obj.row false 32 22
        (RowC.lst 5757
          [CK.int IntKind.i64, CK.int IntKind.i64, CK.int IntKind.i64, CK.int IntKind.i64, CK.int IntKind.i64, CK.int IntKind.i64, CK.int IntKind.i64, CK.int IntKind.i64, CK.int IntKind.i64,
            CK.int IntKind.i64, CK.int IntKind.i64, CK.int IntKind.i64, CK.int IntKind.i64, CK.bool, CK.int IntKind.i64, CK.bool, CK.int IntKind.i64, CK.int IntKind.i64, CK.int IntKind.i64,
            CK.int IntKind.i64, CK.int IntKind.i64, CK.bool]
          (shift_47 u w tm l y a0 a1 tr O))),
    (1,
      Obj.row false 32 22
        (RowC.lst 60
          [CK.int IntKind.i64, CK.int IntKind.i64, CK.int IntKind.i64, CK.int IntKind.i64, CK.int IntKind.i64, CK.int IntKind.i64, CK.int IntKind.i64, CK.int IntKind.i64, CK.int IntKind.i64,
            CK.int IntKind.i64, CK.int IntKind.i64, CK.int IntKind.i64, CK.int IntKind.i64, CK.bool, CK.int IntKind.i64, CK.bool, CK.int IntKind.i64, CK.int IntKind.i64, CK.int IntKind.i64,
            CK.int IntKind.i64, CK.int IntKind.i64, CK.bool]
          C))],
    [O.length ≤ 1000000], [], 5760⟩
  | _, _ => none
theorem shift_ok : FOk Try.prog 45 (tplG shift_sp shift_tpl shift_out) := by
  refine tplG_ok (runF_ok known_within 45) fun ps ls r hr hn _ => ?_
  unfold shift_out at hr
  split at hr
  · cases hr; exact ⟨_, shift_runs _ _ _ _ _ _ _ _ _ _ _ _ _ _ _ _ _ _ (shift_weak (by exact hn)), fun _ => rfl⟩
  · cases hr
noncomputable def K_shift : List (Nat × Summ) := (45, tplG shift_sp shift_tpl shift_out) :: K_within
theorem known_shift : Known Try.prog (sums K_shift) L_cr := known_cons known_within shift_ok
noncomputable def LenIn (O A : List (List Int)) : Prop := O.length ≤ A.length ∧ A.length ≤ O.length + 1
theorem LenIn.self (O : List (List Int)) : LenIn O O := ⟨Nat.le_refl _, Nat.le_succ _⟩
theorem LenIn.one (O : List (List Int)) (r : List Int) : LenIn O (O ++ [r]) := by
  unfold LenIn; simp only [List.length_append, List.length_cons, List.length_nil]; omega
theorem LenIn.ite {c : Bool} {O A B : List (List Int)} (h : LenIn O A) (k : LenIn O B) : LenIn O (bif c then A else B) := by cases c <;> assumption
theorem shift_47_len (u w : Int) (tm : Bool) (l y : List GC) (a0 a1 : Int) (tr : Bool) (O : List (List Int)) : LenIn O (shift_47 u w tm l y a0 a1 tr O) := by
  unfold shift_47
  exact .ite (.ite (.self O) (line_46_len ..)) (.ite (.self O) (.ite (.self O) (.one O _)))
noncomputable def join_tpl : Tpl := ⟨[.one (.ptr 0 0), .agg [.int .i64, .int .i64, .int .i64, .int .i64, .int .i64, .int .i64, .int .i64, .int .i64, .int .i64, .int .i64, .int .i64, .int .i64, .int .i64, .bool, .int .i64, .bool, .int .i64, .int .i64, .int .i64, .int .i64, .int .i64, .bool], .agg [.int .i64, .int .i64], .one (.bool)], [(0, .blk 66 [(3, .int .i64), (4, .int .i64), (5, .int .i64), (6, .int .i64), (7, .int .i64), (8, .int .i64), (9, .int .i64), (10, .int .i64), (11, .int .i64), (12, .int .i64), (13, .int .i64), (14, .int .i64), (15, .int .i64), (16, .bool), (17, .int .i64), (18, .bool), (19, .int .i64), (20, .int .i64), (21, .int .i64), (22, .int .i64), (23, .int .i64), (24, .bool), (25, .int .i64), (26, .int .i64), (27, .int .i64), (28, .int .i64), (29, .int .i64), (30, .int .i64), (31, .int .i64), (32, .int .i64), (33, .int .i64), (34, .int .i64), (35, .int .i64), (36, .int .i64), (37, .int .i64), (38, .bool), (39, .int .i64), (40, .bool), (41, .int .i64), (42, .int .i64), (43, .int .i64), (44, .int .i64), (45, .int .i64), (46, .bool), (47, .int .i64), (48, .int .i64), (49, .bool), (50, .wh 1), (51, .bool), (52, .bool), (53, .bool), (54, .bool), (55, .int .i64), (56, .int .i64), (57, .int .i64), (58, .wh 2), (59, .int .i64)]), (1, .row false 32 22 60 [.int .i64, .int .i64, .int .i64, .int .i64, .int .i64, .int .i64, .int .i64, .int .i64, .int .i64, .int .i64, .int .i64, .int .i64, .int .i64, .bool, .int .i64, .bool, .int .i64, .int .i64, .int .i64, .int .i64, .int .i64, .bool]), (2, .row false 32 22 61 [.int .i64, .int .i64, .int .i64, .int .i64, .int .i64, .int .i64, .int .i64, .int .i64, .int .i64, .int .i64, .int .i64, .int .i64, .int .i64, .bool, .int .i64, .bool, .int .i64, .int .i64, .int .i64, .int .i64, .int .i64, .bool])], 62⟩
noncomputable def join_sp : List GK := [.v itemB, .i, .i, .b, .v itemB, .v itemB, .i, .i, .b, .b, .b, .b, .b, .i, .i, .i, .i]
noncomputable def join_s0 (x : List GC) (l : List GC) (a0 : Int) : Int :=
  IntKind.i64.wrap (a0 - flat_0 (xi l 8) (xi x 2) (xi x 3) (xi x 4))
noncomputable def join_s1 (x : List GC) (l : List GC) (a1 : Int) : Int :=
  IntKind.i64.wrap (a1 - flat_1 (xi l 8) (xi x 2) (xi x 3) (xi x 4))
noncomputable def join_s2 (x : List GC) (u : Int) (l : List GC) : Int :=
  IntKind.i64.wrap (u - flat_0 (xi l 8) (xi x 2) (xi x 3) (xi x 4))
noncomputable def join_s3 (x : List GC) (w : Int) (l : List GC) : Int :=
  IntKind.i64.wrap (w - flat_1 (xi l 8) (xi x 2) (xi x 3) (xi x 4))
noncomputable def join_s4 (x : List GC) (u : Int) (w : Int) (l : List GC) (a0 : Int) (a1 : Int) : Int :=
  IntKind.i64.wrap (vcross_0 (join_s0 x l a0) (join_s1 x l a1) (join_s2 x u l) (join_s3 x w l) * IntKind.i64.wrap (0 - xi l 16))
noncomputable def join_44 (x : List GC) (u : Int) (w : Int) (ou : Bool) (l : List GC) (a0 : Int) (a1 : Int) : Int :=
  bif
      ou && (decide (join_s4 x u w l a0 a1 > 0) || join_s4 x u w l a0 a1 == 0 && decide (vinner_0 (join_s0 x l a0) (join_s1 x l a1) (join_s2 x u l) (join_s3 x w l) < 0)) &&
          decide (vinner_0 (join_s0 x l a0) (join_s1 x l a1) (join_s0 x l a0) (join_s1 x l a1) ≥ 64) &&
        decide (vinner_0 (join_s2 x u l) (join_s3 x w l) (join_s2 x u l) (join_s3 x w l) ≥ 64) then
    u
  else u
noncomputable def join_45 (x : List GC) (u : Int) (w : Int) (ou : Bool) (l : List GC) (a0 : Int) (a1 : Int) : Int :=
  bif
      ou && (decide (join_s4 x u w l a0 a1 > 0) || join_s4 x u w l a0 a1 == 0 && decide (vinner_0 (join_s0 x l a0) (join_s1 x l a1) (join_s2 x u l) (join_s3 x w l) < 0)) &&
          decide (vinner_0 (join_s0 x l a0) (join_s1 x l a1) (join_s0 x l a0) (join_s1 x l a1) ≥ 64) &&
        decide (vinner_0 (join_s2 x u l) (join_s3 x w l) (join_s2 x u l) (join_s3 x w l) ≥ 64) then
    w
  else w
noncomputable def join_46 (x : List GC) (u : Int) (w : Int) (ou : Bool) (l : List GC) (a0 : Int) (a1 : Int) (O : List (List Int)) : List (List Int) :=
  bif
      ou && (decide (join_s4 x u w l a0 a1 > 0) || join_s4 x u w l a0 a1 == 0 && decide (vinner_0 (join_s0 x l a0) (join_s1 x l a1) (join_s2 x u l) (join_s3 x w l) < 0)) &&
          decide (vinner_0 (join_s0 x l a0) (join_s1 x l a1) (join_s0 x l a0) (join_s1 x l a1) ≥ 64) &&
        decide (vinner_0 (join_s2 x u l) (join_s3 x w l) (join_s2 x u l) (join_s3 x w l) ≥ 64) then
    O ++
      [[3, xi x 1, solid_0 (xi l 8) a0 a1 (flat_2 (xi l 8) (xi x 2) (xi x 3) (xi x 4)), solid_1 (xi l 8) a0 a1 (flat_2 (xi l 8) (xi x 2) (xi x 3) (xi x 4)),
          solid_2 (xi l 8) a0 a1 (flat_2 (xi l 8) (xi x 2) (xi x 3) (xi x 4)), solid_0 (xi l 8) u w (flat_2 (xi l 8) (xi x 2) (xi x 3) (xi x 4)),
          solid_1 (xi l 8) u w (flat_2 (xi l 8) (xi x 2) (xi x 3) (xi x 4)), solid_2 (xi l 8) u w (flat_2 (xi l 8) (xi x 2) (xi x 3) (xi x 4)), xi l 8,
          solid_0 (xi l 8) (flat_0 (xi l 8) (xi x 2) (xi x 3) (xi x 4)) (flat_1 (xi l 8) (xi x 2) (xi x 3) (xi x 4)) (flat_2 (xi l 8) (xi x 2) (xi x 3) (xi x 4)),
          solid_1 (xi l 8) (flat_0 (xi l 8) (xi x 2) (xi x 3) (xi x 4)) (flat_1 (xi l 8) (xi x 2) (xi x 3) (xi x 4)) (flat_2 (xi l 8) (xi x 2) (xi x 3) (xi x 4)),
          solid_2 (xi l 8) (flat_0 (xi l 8) (xi x 2) (xi x 3) (xi x 4)) (flat_1 (xi l 8) (xi x 2) (xi x 3) (xi x 4)) (flat_2 (xi l 8) (xi x 2) (xi x 3) (xi x 4)), IntKind.i64.wrap (0 - xi l 16), 0,
          xi x 14, bif xb x 15 then 1 else 0, 0, 0, 0, 0, 0, 0]]
  else
    line_46
      [GC.i 2, GC.i (xi x 1), GC.i 0, GC.i 0, GC.i 0, GC.i 0, GC.i 0, GC.i 0, GC.i 0, GC.i 0, GC.i 0, GC.i 0, GC.i 0, GC.b false, GC.i (xi x 14), GC.b (xb x 15), GC.i 0, GC.i 0, GC.i 0, GC.i 0, GC.i 0,
        GC.b false]
      u w (flat_2 (xi l 8) (xi x 2) (xi x 3) (xi x 4)) (flat_2 (xi l 8) (xi x 2) (xi x 3) (xi x 4)) false (nrm l) a0 a1 O
noncomputable def join_needs (x : List GC) (u : Int) (w : Int) (ou : Bool) (l : List GC) (a0 : Int) (a1 : Int) (O : List (List Int)) : List Prop :=
  [(ou && (decide (join_s4 x u w l a0 a1 > 0) || join_s4 x u w l a0 a1 == 0 && decide (vinner_0 (join_s0 x l a0) (join_s1 x l a1) (join_s2 x u l) (join_s3 x w l) < 0)) &&
            decide (vinner_0 (join_s0 x l a0) (join_s1 x l a1) (join_s0 x l a0) (join_s1 x l a1) ≥ 64) &&
          decide (vinner_0 (join_s2 x u l) (join_s3 x w l) (join_s2 x u l) (join_s3 x w l) ≥ 64)) =
        true →
      (O.length + 1) * 176 ≤ 140737488355328 ∧ O.length + 1 ≤ 9223372036854775807,
    (ou && (decide (join_s4 x u w l a0 a1 > 0) || join_s4 x u w l a0 a1 == 0 && decide (vinner_0 (join_s0 x l a0) (join_s1 x l a1) (join_s2 x u l) (join_s3 x w l) < 0)) &&
            decide (vinner_0 (join_s0 x l a0) (join_s1 x l a1) (join_s0 x l a0) (join_s1 x l a1) ≥ 64) &&
          decide (vinner_0 (join_s2 x u l) (join_s3 x w l) (join_s2 x u l) (join_s3 x w l) ≥ 64)) =
        false →
      O.length ≤ 1000000]
theorem join_weak {x : List GC} {u : Int} {w : Int} {ou : Bool} {l : List GC} {a0 : Int} {a1 : Int} {O : List (List Int)} (hW : ∀ q ∈ ([O.length ≤ 1000000] : List Prop), q) : ∀ q ∈ (join_needs x u w ou l a0 a1 O), q := by
  simp only [List.mem_cons, List.not_mem_nil, or_false, forall_eq_or_imp, forall_eq] at hW
  unfold join_needs
  simp only [List.forall_mem_cons, List.not_mem_nil, false_implies, implies_true, and_true]
  exact ⟨fun _ => ⟨by omega, by omega⟩, fun _ => hW⟩
set_option maxRecDepth 1000000 in
theorem join_runs (x : List GC) (u w : Int) (ou : Bool) (l y : List GC) (a0 a1 : Int) (tr op cl en mo : Bool) (la0 la1 la2 er : Int) (C O : List (List Int)) (hNeeds : ∀ pN ∈ (join_needs x u w ou l a0 a1 O), pN) : Runs (runF (sums K_shift) L_cr 68) (join_tpl.args (spread join_sp [.v x, .i u, .i w, .b ou, .v l, .v y, .i a0, .i a1, .b tr, .b op, .b cl, .b en, .b mo, .i la0, .i la1, .i la2, .i er])) (join_tpl.memo (spread join_sp [.v x, .i u, .i w, .b ou, .v l, .v y, .i a0, .i a1, .b tr, .b op, .b cl, .b en, .b mo, .i la0, .i la1, .i la2, .i er]) [C, O]) join_tpl.n (SV.tup [])
    ([(0,
      Obj.blk 66
        [(3, SC.int IntKind.i64 (SI.v (xi l 0))), (4, SC.int IntKind.i64 (SI.v (xi l 1))), (5, SC.int IntKind.i64 (SI.v (xi l 2))), (6, SC.int IntKind.i64 (SI.v (xi l 3))),
          (7, SC.int IntKind.i64 (SI.v (xi l 4))), (8, SC.int IntKind.i64 (SI.v (xi l 5))), (9, SC.int IntKind.i64 (SI.v (xi l 6))), (10, SC.int IntKind.i64 (SI.v (xi l 7))),
          (11, SC.int IntKind.i64 (SI.v (xi l 8))), (12, SC.int IntKind.i64 (SI.v (xi l 9))), (13, SC.int IntKind.i64 (SI.v (xi l 10))), (14, SC.int IntKind.i64 (SI.v (xi l 11))),
          (15, SC.int IntKind.i64 (SI.v (xi l 12))), (16, SC.bool (SB.v (xb l 13))), (17, SC.int IntKind.i64 (SI.v (xi l 14))), (18, SC.bool (SB.v (xb l 15))), (19, SC.int IntKind.i64 (SI.v (xi l 16))),
          (20, SC.int IntKind.i64 (SI.v (xi l 17))), (21, SC.int IntKind.i64 (SI.v (xi l 18))), (22, SC.int IntKind.i64 (SI.v (xi l 19))), (23, SC.int IntKind.i64 (SI.v (xi l 20))),
          (24, SC.bool (SB.v (xb l 21))), (25, SC.int IntKind.i64 (SI.v (xi y 0))), (26, SC.int IntKind.i64 (SI.v (xi y 1))), (27, SC.int IntKind.i64 (SI.v (xi y 2))),
          (28, SC.int IntKind.i64 (SI.v (xi y 3))), (29, SC.int IntKind.i64 (SI.v (xi y 4))), (30, SC.int IntKind.i64 (SI.v (xi y 5))), (31, SC.int IntKind.i64 (SI.v (xi y 6))),
          (32, SC.int IntKind.i64 (SI.v (xi y 7))), (33, SC.int IntKind.i64 (SI.v (xi y 8))), (34, SC.int IntKind.i64 (SI.v (xi y 9))), (35, SC.int IntKind.i64 (SI.v (xi y 10))),
          (36, SC.int IntKind.i64 (SI.v (xi y 11))), (37, SC.int IntKind.i64 (SI.v (xi y 12))), (38, SC.bool (SB.v (xb y 13))), (39, SC.int IntKind.i64 (SI.v (xi y 14))), (40, SC.bool (SB.v (xb y 15))),
          (41, SC.int IntKind.i64 (SI.v (xi y 16))), (42, SC.int IntKind.i64 (SI.v (xi y 17))), (43, SC.int IntKind.i64 (SI.v (xi y 18))), (44, SC.int IntKind.i64 (SI.v (xi y 19))),
          (45, SC.int IntKind.i64 (SI.v (xi y 20))), (46, SC.bool (SB.v (xb y 21))), (1678, SC.int IntKind.i64 (SI.v (join_44 x u w ou l a0 a1))),
          (1679, SC.int IntKind.i64 (SI.v (join_45 x u w ou l a0 a1))), (49, SC.bool (SB.v tr)), (50, SC.wh 1), (51, SC.bool (SB.v op)), (52, SC.bool (SB.v cl)), (53, SC.bool (SB.v en)),
          (54, SC.bool (SB.v mo)), (55, SC.int IntKind.i64 (SI.v la0)), (56, SC.int IntKind.i64 (SI.v la1)), (57, SC.int IntKind.i64 (SI.v la2)), (1664, SC.wh 1662),
          (59, SC.int IntKind.i64 (SI.v er))]),
    (1662,
      Obj.row false 32 22
        (RowC.lst 1677
          [CK.int IntKind.i64, CK.int IntKind.i64, CK.int IntKind.i64, CK.int IntKind.i64, CK.int IntKind.i64, CK.int IntKind.i64, CK.int IntKind.i64, CK.int IntKind.i64, CK.int IntKind.i64,
            CK.int IntKind.i64, CK.int IntKind.i64, CK.int IntKind.i64, CK.int IntKind.i64, CK.bool, CK.int IntKind.i64, CK.bool, CK.int IntKind.i64, CK.int IntKind.i64, CK.int IntKind.i64,
            CK.int IntKind.i64, CK.int IntKind.i64, CK.bool]
          (join_46 x u w ou l a0 a1 O))),
    (1,
      Obj.row false 32 22
        (RowC.lst 60
          [CK.int IntKind.i64, CK.int IntKind.i64, CK.int IntKind.i64, CK.int IntKind.i64, CK.int IntKind.i64, CK.int IntKind.i64, CK.int IntKind.i64, CK.int IntKind.i64, CK.int IntKind.i64,
            CK.int IntKind.i64, CK.int IntKind.i64, CK.int IntKind.i64, CK.int IntKind.i64, CK.bool, CK.int IntKind.i64, CK.bool, CK.int IntKind.i64, CK.int IntKind.i64, CK.int IntKind.i64,
            CK.int IntKind.i64, CK.int IntKind.i64, CK.bool]
          C))]) :=
  Runs.of1 (ps := (join_needs x u w ou l a0 a1 O)) (by kernel_rfl) hNeeds
noncomputable def join_out : List Gm → Lss → Option CRes
  | [.v x, .i u, .i w, .b ou, .v l, .v y, .i a0, .i a1, .b tr, .b op, .b cl, .b en, .b mo, .i la0, .i la1, .i la2, .i er], [C, O] => some ⟨SV.tup [],
    [(0,
      Obj.blk 66
        [(3, SC.int IntKind.i64 (SI.v (xi l 0))), (4, SC.int IntKind.i64 (SI.v (xi l 1))), (5, SC.int IntKind.i64 (SI.v (xi l 2))), (6, SC.int IntKind.i64 (SI.v (xi l 3))),
          (7, SC.int IntKind.i64 (SI.v (xi l 4))), (8, SC.int IntKind.i64 (SI.v (xi l 5))), (9, SC.int IntKind.i64 (SI.v (xi l 6))), (10, SC.int IntKind.i64 (SI.v (xi l 7))),
          (11, SC.int IntKind.i64 (SI.v (xi l 8))), (12, SC.int IntKind.i64 (SI.v (xi l 9))), (13, SC.int IntKind.i64 (SI.v (xi l 10))), (14, SC.int IntKind.i64 (SI.v (xi l 11))),
          (15, SC.int IntKind.i64 (SI.v (xi l 12))), (16, SC.bool (SB.v (xb l 13))), (17, SC.int IntKind.i64 (SI.v (xi l 14))), (18, SC.bool (SB.v (xb l 15))), (19, SC.int IntKind.i64 (SI.v (xi l 16))),
          (20, SC.int IntKind.i64 (SI.v (xi l 17))), (21, SC.int IntKind.i64 (SI.v (xi l 18))), (22, SC.int IntKind.i64 (SI.v (xi l 19))), (23, SC.int IntKind.i64 (SI.v (xi l 20))),
          (24, SC.bool (SB.v (xb l 21))), (25, SC.int IntKind.i64 (SI.v (xi y 0))), (26, SC.int IntKind.i64 (SI.v (xi y 1))), (27, SC.int IntKind.i64 (SI.v (xi y 2))),
          (28, SC.int IntKind.i64 (SI.v (xi y 3))), (29, SC.int IntKind.i64 (SI.v (xi y 4))), (30, SC.int IntKind.i64 (SI.v (xi y 5))), (31, SC.int IntKind.i64 (SI.v (xi y 6))),
          (32, SC.int IntKind.i64 (SI.v (xi y 7))), (33, SC.int IntKind.i64 (SI.v (xi y 8))), (34, SC.int IntKind.i64 (SI.v (xi y 9))), (35, SC.int IntKind.i64 (SI.v (xi y 10))),
          (36, SC.int IntKind.i64 (SI.v (xi y 11))), (37, SC.int IntKind.i64 (SI.v (xi y 12))), (38, SC.bool (SB.v (xb y 13))), (39, SC.int IntKind.i64 (SI.v (xi y 14))), (40, SC.bool (SB.v (xb y 15))),
          (41, SC.int IntKind.i64 (SI.v (xi y 16))), (42, SC.int IntKind.i64 (SI.v (xi y 17))), (43, SC.int IntKind.i64 (SI.v (xi y 18))), (44, SC.int IntKind.i64 (SI.v (xi y 19))),
          (45, SC.int IntKind.i64 (SI.v (xi y 20))), (46, SC.bool (SB.v (xb y 21))), (1678, SC.int IntKind.i64 (SI.v (u))),
          (1679, SC.int IntKind.i64 (SI.v (w))), (49, SC.bool (SB.v tr)), (50, SC.wh 1), (51, SC.bool (SB.v op)), (52, SC.bool (SB.v cl)), (53, SC.bool (SB.v en)),
          (54, SC.bool (SB.v mo)), (55, SC.int IntKind.i64 (SI.v la0)), (56, SC.int IntKind.i64 (SI.v la1)), (57, SC.int IntKind.i64 (SI.v la2)), (1664, SC.wh 1662),
          (59, SC.int IntKind.i64 (SI.v er))]),
    (1662,
      Obj.row false 32 22
        (RowC.lst 1677
          [CK.int IntKind.i64, CK.int IntKind.i64, CK.int IntKind.i64, CK.int IntKind.i64, CK.int IntKind.i64, CK.int IntKind.i64, CK.int IntKind.i64, CK.int IntKind.i64, CK.int IntKind.i64,
            CK.int IntKind.i64, CK.int IntKind.i64, CK.int IntKind.i64, CK.int IntKind.i64, CK.bool, CK.int IntKind.i64, CK.bool, CK.int IntKind.i64, CK.int IntKind.i64, CK.int IntKind.i64,
            CK.int IntKind.i64, CK.int IntKind.i64, CK.bool]
          (join_46 x u w ou l a0 a1 O))),
    (1,
      Obj.row false 32 22
        (RowC.lst 60
          [CK.int IntKind.i64, CK.int IntKind.i64, CK.int IntKind.i64, CK.int IntKind.i64, CK.int IntKind.i64, CK.int IntKind.i64, CK.int IntKind.i64, CK.int IntKind.i64, CK.int IntKind.i64,
            CK.int IntKind.i64, CK.int IntKind.i64, CK.int IntKind.i64, CK.int IntKind.i64, CK.bool, CK.int IntKind.i64, CK.bool, CK.int IntKind.i64, CK.int IntKind.i64, CK.int IntKind.i64,
            CK.int IntKind.i64, CK.int IntKind.i64, CK.bool]
          C))],
    [O.length ≤ 1000000], [], 1680⟩
  | _, _ => none
theorem join_turned (x : List GC) (u w : Int) (ou : Bool) (l y : List GC) (a0 a1 : Int) (tr op cl en mo : Bool) (la0 la1 la2 er : Int) (C O : List (List Int)) (hNeeds : ∀ pN ∈ (join_needs x u w ou l a0 a1 O), pN) : Runs (runF (sums K_shift) L_cr 68) (join_tpl.args (spread join_sp [.v x, .i u, .i w, .b ou, .v l, .v y, .i a0, .i a1, .b tr, .b op, .b cl, .b en, .b mo, .i la0, .i la1, .i la2, .i er])) (join_tpl.memo (spread join_sp [.v x, .i u, .i w, .b ou, .v l, .v y, .i a0, .i a1, .b tr, .b op, .b cl, .b en, .b mo, .i la0, .i la1, .i la2, .i er]) [C, O]) join_tpl.n (SV.tup [])
    ([(0,
      Obj.blk 66
        [(3, SC.int IntKind.i64 (SI.v (xi l 0))), (4, SC.int IntKind.i64 (SI.v (xi l 1))), (5, SC.int IntKind.i64 (SI.v (xi l 2))), (6, SC.int IntKind.i64 (SI.v (xi l 3))),
          (7, SC.int IntKind.i64 (SI.v (xi l 4))), (8, SC.int IntKind.i64 (SI.v (xi l 5))), (9, SC.int IntKind.i64 (SI.v (xi l 6))), (10, SC.int IntKind.i64 (SI.v (xi l 7))),
          (11, SC.int IntKind.i64 (SI.v (xi l 8))), (12, SC.int IntKind.i64 (SI.v (xi l 9))), (13, SC.int IntKind.i64 (SI.v (xi l 10))), (14, SC.int IntKind.i64 (SI.v (xi l 11))),
          (15, SC.int IntKind.i64 (SI.v (xi l 12))), (16, SC.bool (SB.v (xb l 13))), (17, SC.int IntKind.i64 (SI.v (xi l 14))), (18, SC.bool (SB.v (xb l 15))), (19, SC.int IntKind.i64 (SI.v (xi l 16))),
          (20, SC.int IntKind.i64 (SI.v (xi l 17))), (21, SC.int IntKind.i64 (SI.v (xi l 18))), (22, SC.int IntKind.i64 (SI.v (xi l 19))), (23, SC.int IntKind.i64 (SI.v (xi l 20))),
          (24, SC.bool (SB.v (xb l 21))), (25, SC.int IntKind.i64 (SI.v (xi y 0))), (26, SC.int IntKind.i64 (SI.v (xi y 1))), (27, SC.int IntKind.i64 (SI.v (xi y 2))),
          (28, SC.int IntKind.i64 (SI.v (xi y 3))), (29, SC.int IntKind.i64 (SI.v (xi y 4))), (30, SC.int IntKind.i64 (SI.v (xi y 5))), (31, SC.int IntKind.i64 (SI.v (xi y 6))),
          (32, SC.int IntKind.i64 (SI.v (xi y 7))), (33, SC.int IntKind.i64 (SI.v (xi y 8))), (34, SC.int IntKind.i64 (SI.v (xi y 9))), (35, SC.int IntKind.i64 (SI.v (xi y 10))),
          (36, SC.int IntKind.i64 (SI.v (xi y 11))), (37, SC.int IntKind.i64 (SI.v (xi y 12))), (38, SC.bool (SB.v (xb y 13))), (39, SC.int IntKind.i64 (SI.v (xi y 14))), (40, SC.bool (SB.v (xb y 15))),
          (41, SC.int IntKind.i64 (SI.v (xi y 16))), (42, SC.int IntKind.i64 (SI.v (xi y 17))), (43, SC.int IntKind.i64 (SI.v (xi y 18))), (44, SC.int IntKind.i64 (SI.v (xi y 19))),
          (45, SC.int IntKind.i64 (SI.v (xi y 20))), (46, SC.bool (SB.v (xb y 21))), (1678, SC.int IntKind.i64 (SI.v (u))),
          (1679, SC.int IntKind.i64 (SI.v (w))), (49, SC.bool (SB.v tr)), (50, SC.wh 1), (51, SC.bool (SB.v op)), (52, SC.bool (SB.v cl)), (53, SC.bool (SB.v en)),
          (54, SC.bool (SB.v mo)), (55, SC.int IntKind.i64 (SI.v la0)), (56, SC.int IntKind.i64 (SI.v la1)), (57, SC.int IntKind.i64 (SI.v la2)), (1664, SC.wh 1662),
          (59, SC.int IntKind.i64 (SI.v er))]),
    (1662,
      Obj.row false 32 22
        (RowC.lst 1677
          [CK.int IntKind.i64, CK.int IntKind.i64, CK.int IntKind.i64, CK.int IntKind.i64, CK.int IntKind.i64, CK.int IntKind.i64, CK.int IntKind.i64, CK.int IntKind.i64, CK.int IntKind.i64,
            CK.int IntKind.i64, CK.int IntKind.i64, CK.int IntKind.i64, CK.int IntKind.i64, CK.bool, CK.int IntKind.i64, CK.bool, CK.int IntKind.i64, CK.int IntKind.i64, CK.int IntKind.i64,
            CK.int IntKind.i64, CK.int IntKind.i64, CK.bool]
          (join_46 x u w ou l a0 a1 O))),
    (1,
      Obj.row false 32 22
        (RowC.lst 60
          [CK.int IntKind.i64, CK.int IntKind.i64, CK.int IntKind.i64, CK.int IntKind.i64, CK.int IntKind.i64, CK.int IntKind.i64, CK.int IntKind.i64, CK.int IntKind.i64, CK.int IntKind.i64,
            CK.int IntKind.i64, CK.int IntKind.i64, CK.int IntKind.i64, CK.int IntKind.i64, CK.bool, CK.int IntKind.i64, CK.bool, CK.int IntKind.i64, CK.int IntKind.i64, CK.int IntKind.i64,
            CK.int IntKind.i64, CK.int IntKind.i64, CK.bool]
          C))]) :=
  (join_runs x u w ou l y a0 a1 tr op cl en mo la0 la1 la2 er C O hNeeds).to (by first | rfl | (simp only [])) ((by simp only [join_44, join_45, Bool.cond_self]))
theorem join_ok : FOk Try.prog 68 (tplG join_sp join_tpl join_out) := by
  refine tplG_ok (runF_ok known_shift 68) fun ps ls r hr hn _ => ?_
  unfold join_out at hr
  split at hr
  · cases hr; exact ⟨_, join_turned _ _ _ _ _ _ _ _ _ _ _ _ _ _ _ _ _ _ _ (join_weak (by exact hn)), fun _ => rfl⟩
  · cases hr
noncomputable def K_join : List (Nat × Summ) := (68, tplG join_sp join_tpl join_out) :: K_shift
theorem known_join : Known Try.prog (sums K_join) L_cr := known_cons known_shift join_ok
theorem join_46_len (x : List GC) (u w : Int) (ou : Bool) (l : List GC) (a0 a1 : Int) (O : List (List Int)) : LenIn O (join_46 x u w ou l a0 a1 O) := by
  unfold join_46
  exact .ite (.one O _) (line_46_len ..)
end Go.Proofs.Ytmbfbhimdkjkoaa
