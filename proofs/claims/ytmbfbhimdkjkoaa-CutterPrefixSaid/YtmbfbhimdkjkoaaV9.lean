/-
  CUTTER: the lead-in, the corner, the lead-out. Conditions: there is room.
-/
import Derived.Test.YtmbfbhimdkjkoaaV8
set_option linter.all false
namespace Go.Proofs.Ytmbfbhimdkjkoaa
open Go.SX Go.RowKit
theorem release_len (l : List GC) (a0 a1 : Int) (C O : List (List Int)) : (release_44 l a0 a1 C O).length ≤ O.length + C.length := (relL_len l a0 a1 C O).2
theorem ite_le {c : Bool} {a b : List (List Int)} {k : Nat} (h : a.length ≤ k) (h' : b.length ≤ k) : (bif c then a else b).length ≤ k := by cases c <;> assumption
noncomputable def begin_tpl : Tpl := ⟨[.one (.ptr 0 0), .agg [.int .i64, .int .i64, .int .i64, .int .i64, .int .i64, .int .i64, .int .i64, .int .i64, .int .i64, .int .i64, .int .i64, .int .i64, .int .i64, .bool, .int .i64, .bool, .int .i64, .int .i64, .int .i64, .int .i64, .int .i64, .bool]], [(0, .blk 66 [(3, .int .i64), (4, .int .i64), (5, .int .i64), (6, .int .i64), (7, .int .i64), (8, .int .i64), (9, .int .i64), (10, .int .i64), (11, .int .i64), (12, .int .i64), (13, .int .i64), (14, .int .i64), (15, .int .i64), (16, .bool), (17, .int .i64), (18, .bool), (19, .int .i64), (20, .int .i64), (21, .int .i64), (22, .int .i64), (23, .int .i64), (24, .bool), (25, .int .i64), (26, .int .i64), (27, .int .i64), (28, .int .i64), (29, .int .i64), (30, .int .i64), (31, .int .i64), (32, .int .i64), (33, .int .i64), (34, .int .i64), (35, .int .i64), (36, .int .i64), (37, .int .i64), (38, .bool), (39, .int .i64), (40, .bool), (41, .int .i64), (42, .int .i64), (43, .int .i64), (44, .int .i64), (45, .int .i64), (46, .bool), (47, .int .i64), (48, .int .i64), (49, .bool), (50, .wh 1), (51, .bool), (52, .bool), (53, .bool), (54, .bool), (55, .int .i64), (56, .int .i64), (57, .int .i64), (58, .wh 2), (59, .int .i64)]), (1, .row false 32 22 60 [.int .i64, .int .i64, .int .i64, .int .i64, .int .i64, .int .i64, .int .i64, .int .i64, .int .i64, .int .i64, .int .i64, .int .i64, .int .i64, .bool, .int .i64, .bool, .int .i64, .int .i64, .int .i64, .int .i64, .int .i64, .bool]), (2, .row false 32 22 61 [.int .i64, .int .i64, .int .i64, .int .i64, .int .i64, .int .i64, .int .i64, .int .i64, .int .i64, .int .i64, .int .i64, .int .i64, .int .i64, .bool, .int .i64, .bool, .int .i64, .int .i64, .int .i64, .int .i64, .int .i64, .bool])], 62⟩
noncomputable def begin_sp : List GK := [.v itemB, .v itemB, .v itemB, .i, .i, .b, .b, .b, .b, .b, .i, .i, .i, .i]
noncomputable def begin_0 (x : List GC) : Int := bif !leads_0 (nrm x) (xi x 8) (xi x 17) then 14 else 0
noncomputable def begin_1 (x : List GC) (l : List GC) : Int := bif !leads_0 (nrm x) (xi x 8) (xi x 17) then xi l 0 else xi x 0
noncomputable def begin_2 (x : List GC) (l : List GC) : Int := bif !leads_0 (nrm x) (xi x 8) (xi x 17) then xi l 1 else xi x 1
noncomputable def begin_3 (x : List GC) (l : List GC) : Int := bif !leads_0 (nrm x) (xi x 8) (xi x 17) then xi l 2 else xi x 2
noncomputable def begin_4 (x : List GC) (l : List GC) : Int := bif !leads_0 (nrm x) (xi x 8) (xi x 17) then xi l 3 else xi x 3
noncomputable def begin_5 (x : List GC) (l : List GC) : Int := bif !leads_0 (nrm x) (xi x 8) (xi x 17) then xi l 4 else xi x 4
noncomputable def begin_6 (x : List GC) (l : List GC) : Int := bif !leads_0 (nrm x) (xi x 8) (xi x 17) then xi l 5 else xi x 5
noncomputable def begin_7 (x : List GC) (l : List GC) : Int := bif !leads_0 (nrm x) (xi x 8) (xi x 17) then xi l 6 else xi x 6
noncomputable def begin_8 (x : List GC) (l : List GC) : Int := bif !leads_0 (nrm x) (xi x 8) (xi x 17) then xi l 7 else xi x 7
noncomputable def begin_9 (x : List GC) (l : List GC) : Int := bif !leads_0 (nrm x) (xi x 8) (xi x 17) then xi l 8 else xi x 8
noncomputable def begin_10 (x : List GC) (l : List GC) : Int := bif !leads_0 (nrm x) (xi x 8) (xi x 17) then xi l 9 else xi x 9
noncomputable def begin_11 (x : List GC) (l : List GC) : Int := bif !leads_0 (nrm x) (xi x 8) (xi x 17) then xi l 10 else xi x 10
noncomputable def begin_12 (x : List GC) (l : List GC) : Int := bif !leads_0 (nrm x) (xi x 8) (xi x 17) then xi l 11 else xi x 11
noncomputable def begin_13 (x : List GC) (l : List GC) : Int := bif !leads_0 (nrm x) (xi x 8) (xi x 17) then xi l 12 else xi x 12
noncomputable def begin_14 (x : List GC) (l : List GC) : Bool := bif !leads_0 (nrm x) (xi x 8) (xi x 17) then xb l 13 else xb x 13
noncomputable def begin_15 (x : List GC) (l : List GC) : Int := bif !leads_0 (nrm x) (xi x 8) (xi x 17) then xi l 14 else xi x 14
noncomputable def begin_16 (x : List GC) (l : List GC) : Bool := bif !leads_0 (nrm x) (xi x 8) (xi x 17) then xb l 15 else xb x 15
noncomputable def begin_17 (x : List GC) (l : List GC) : Int := bif !leads_0 (nrm x) (xi x 8) (xi x 17) then xi l 16 else xi x 16
noncomputable def begin_18 (x : List GC) (l : List GC) : Int := bif !leads_0 (nrm x) (xi x 8) (xi x 17) then xi l 17 else xi x 17
noncomputable def begin_19 (x : List GC) (l : List GC) : Int := bif !leads_0 (nrm x) (xi x 8) (xi x 17) then xi l 18 else xi x 18
noncomputable def begin_20 (x : List GC) (l : List GC) : Int := bif !leads_0 (nrm x) (xi x 8) (xi x 17) then xi l 19 else xi x 19
noncomputable def begin_21 (x : List GC) (l : List GC) : Int := bif !leads_0 (nrm x) (xi x 8) (xi x 17) then xi l 20 else xi x 20
noncomputable def begin_22 (x : List GC) (l : List GC) : Bool := bif !leads_0 (nrm x) (xi x 8) (xi x 17) then xb l 21 else xb x 21
noncomputable def begin_23 (x : List GC) (y : List GC) : Int := bif !leads_0 (nrm x) (xi x 8) (xi x 17) then xi y 0 else 0
noncomputable def begin_24 (x : List GC) (y : List GC) : Int := bif !leads_0 (nrm x) (xi x 8) (xi x 17) then xi y 1 else 0
noncomputable def begin_25 (x : List GC) (y : List GC) : Int := bif !leads_0 (nrm x) (xi x 8) (xi x 17) then xi y 2 else 0
noncomputable def begin_26 (x : List GC) (y : List GC) : Int := bif !leads_0 (nrm x) (xi x 8) (xi x 17) then xi y 3 else 0
noncomputable def begin_27 (x : List GC) (y : List GC) : Int := bif !leads_0 (nrm x) (xi x 8) (xi x 17) then xi y 4 else 0
noncomputable def begin_28 (x : List GC) (y : List GC) : Int := bif !leads_0 (nrm x) (xi x 8) (xi x 17) then xi y 5 else 0
noncomputable def begin_29 (x : List GC) (y : List GC) : Int := bif !leads_0 (nrm x) (xi x 8) (xi x 17) then xi y 6 else 0
noncomputable def begin_30 (x : List GC) (y : List GC) : Int := bif !leads_0 (nrm x) (xi x 8) (xi x 17) then xi y 7 else 0
noncomputable def begin_31 (x : List GC) (y : List GC) : Int := bif !leads_0 (nrm x) (xi x 8) (xi x 17) then xi y 8 else 0
noncomputable def begin_32 (x : List GC) (y : List GC) : Int := bif !leads_0 (nrm x) (xi x 8) (xi x 17) then xi y 9 else 0
noncomputable def begin_33 (x : List GC) (y : List GC) : Int := bif !leads_0 (nrm x) (xi x 8) (xi x 17) then xi y 10 else 0
noncomputable def begin_34 (x : List GC) (y : List GC) : Int := bif !leads_0 (nrm x) (xi x 8) (xi x 17) then xi y 11 else 0
noncomputable def begin_35 (x : List GC) (y : List GC) : Int := bif !leads_0 (nrm x) (xi x 8) (xi x 17) then xi y 12 else 0
noncomputable def begin_36 (x : List GC) (y : List GC) : Bool := !leads_0 (nrm x) (xi x 8) (xi x 17) && xb y 13
noncomputable def begin_37 (x : List GC) (y : List GC) : Int := bif !leads_0 (nrm x) (xi x 8) (xi x 17) then xi y 14 else 0
noncomputable def begin_38 (x : List GC) (y : List GC) : Bool := !leads_0 (nrm x) (xi x 8) (xi x 17) && xb y 15
noncomputable def begin_39 (x : List GC) (y : List GC) : Int := bif !leads_0 (nrm x) (xi x 8) (xi x 17) then xi y 16 else 0
noncomputable def begin_40 (x : List GC) (y : List GC) : Int := bif !leads_0 (nrm x) (xi x 8) (xi x 17) then xi y 17 else 0
noncomputable def begin_41 (x : List GC) (y : List GC) : Int := bif !leads_0 (nrm x) (xi x 8) (xi x 17) then xi y 18 else 0
noncomputable def begin_42 (x : List GC) (y : List GC) : Int := bif !leads_0 (nrm x) (xi x 8) (xi x 17) then xi y 19 else 0
noncomputable def begin_43 (x : List GC) (y : List GC) : Int := bif !leads_0 (nrm x) (xi x 8) (xi x 17) then xi y 20 else 0
noncomputable def begin_44 (x : List GC) (y : List GC) : Bool := !leads_0 (nrm x) (xi x 8) (xi x 17) && xb y 21
noncomputable def begin_45 (x : List GC) (a0 : Int) : Int := bif !leads_0 (nrm x) (xi x 8) (xi x 17) then a0 else 0
noncomputable def begin_47 (x : List GC) (tr : Bool) : Bool := !leads_0 (nrm x) (xi x 8) (xi x 17) && tr
noncomputable def begin_48 (x : List GC) (op : Bool) : Bool := bif !leads_0 (nrm x) (xi x 8) (xi x 17) then op else true
noncomputable def begin_49 (x : List GC) (C : List (List Int)) : List (List Int) := bif !leads_0 (nrm x) (xi x 8) (xi x 17) then C else []
noncomputable def v9_c7 := [CK.int IntKind.i64, CK.int IntKind.i64, CK.int IntKind.i64, CK.int IntKind.i64, CK.int IntKind.i64, CK.int IntKind.i64, CK.int IntKind.i64, CK.int IntKind.i64, CK.int IntKind.i64, CK.int
   IntKind.i64, CK.int IntKind.i64, CK.int IntKind.i64, CK.int IntKind.i64, CK.bool, CK.int IntKind.i64, CK.bool, CK.int IntKind.i64, CK.int IntKind.i64, CK.int IntKind.i64, CK.int IntKind.i64, CK.int IntKind.i64, CK.bool]
noncomputable def v9_c10 (x : List GC) (l : List GC) (y : List GC) (a0 : Int) (a1 : Int) (tr : Bool) (op : Bool) (cl : Bool) (en : Bool) (mo : Bool) (la0 : Int) (la1 : Int) (la2 : Int) (er : Int) (C : List (List Int)) (O : List (List Int)) := [(0, Obj.blk 66 [(413, SC.int IntKind.i64 (SI.v (begin_1 x l))), (414, SC.int IntKind.i64 (SI.v (begin_2 x l))), (415, SC.int IntKind.i64 (SI.v (begin_3 x l))), (416, SC.int IntKind.i64 (SI.v
   (begin_4 x l))), (417, SC.int IntKind.i64 (SI.v (begin_5 x l))), (418, SC.int IntKind.i64 (SI.v (begin_6 x l))), (419, SC.int IntKind.i64 (SI.v (begin_7 x l))), (420, SC.int IntKind.i64 (SI.v
   (begin_8 x l))), (421, SC.int IntKind.i64 (SI.v (begin_9 x l))), (422, SC.int IntKind.i64 (SI.v (begin_10 x l))), (423, SC.int IntKind.i64 (SI.v (begin_11 x l))), (424, SC.int IntKind.i64 (SI.v
   (begin_12 x l))), (425, SC.int IntKind.i64 (SI.v (begin_13 x l))), (426, SC.bool (SB.v (begin_14 x l))), (427, SC.int IntKind.i64 (SI.v (begin_15 x l))), (428, SC.bool (SB.v (begin_16 x l))), (429,
   SC.int IntKind.i64 (SI.v (begin_17 x l))), (430, SC.int IntKind.i64 (SI.v (begin_18 x l))), (431, SC.int IntKind.i64 (SI.v (begin_19 x l))), (432, SC.int IntKind.i64 (SI.v (begin_20 x l))), (433,
   SC.int IntKind.i64 (SI.v (begin_21 x l))), (434, SC.bool (SB.v (begin_22 x l))), (435, SC.int IntKind.i64 (SI.v (begin_23 x y))), (436, SC.int IntKind.i64 (SI.v (begin_24 x y))), (437, SC.int
   IntKind.i64 (SI.v (begin_25 x y))), (438, SC.int IntKind.i64 (SI.v (begin_26 x y))), (439, SC.int IntKind.i64 (SI.v (begin_27 x y))), (440, SC.int IntKind.i64 (SI.v (begin_28 x y))), (441, SC.int
   IntKind.i64 (SI.v (begin_29 x y))), (442, SC.int IntKind.i64 (SI.v (begin_30 x y))), (443, SC.int IntKind.i64 (SI.v (begin_31 x y))), (444, SC.int IntKind.i64 (SI.v (begin_32 x y))), (445, SC.int
   IntKind.i64 (SI.v (begin_33 x y))), (446, SC.int IntKind.i64 (SI.v (begin_34 x y))), (447, SC.int IntKind.i64 (SI.v (begin_35 x y))), (448, SC.bool (SB.v (begin_36 x y))), (449, SC.int IntKind.i64
   (SI.v (begin_37 x y))), (450, SC.bool (SB.v (begin_38 x y))), (451, SC.int IntKind.i64 (SI.v (begin_39 x y))), (452, SC.int IntKind.i64 (SI.v (begin_40 x y))), (453, SC.int IntKind.i64 (SI.v
   (begin_41 x y))), (454, SC.int IntKind.i64 (SI.v (begin_42 x y))), (455, SC.int IntKind.i64 (SI.v (begin_43 x y))), (456, SC.bool (SB.v (begin_44 x y))), (457, SC.int IntKind.i64 (SI.v (begin_45 x
   a0))), (458, SC.int IntKind.i64 (SI.v (begin_45 x a1))), (459, SC.bool (SB.v (begin_47 x tr))), (411, SC.wh 409), (460, SC.bool (SB.v (begin_48 x op))), (52, SC.bool (SB.v cl)), (53, SC.bool (SB.v
   en)), (54, SC.bool (SB.v mo)), (55, SC.int IntKind.i64 (SI.v la0)), (56, SC.int IntKind.i64 (SI.v la1)), (57, SC.int IntKind.i64 (SI.v la2)), (58, SC.wh 2), (59, SC.int IntKind.i64 (SI.v er))]),
   (409, Obj.row false 32 22 (RowC.lst 412 v9_c7 (begin_49 x C))), (2, Obj.row false 32 22 (RowC.lst 61 v9_c7 O))]
set_option maxRecDepth 1000000 in
theorem begin_runs (x l y : List GC) (a0 a1 : Int) (tr op cl en mo : Bool) (la0 la1 la2 er : Int) (C O : List (List Int)) : Runs (runF (sums K_release) L_rel 37) (begin_tpl.args (spread begin_sp [.v x, .v l, .v y, .i a0, .i a1, .b tr, .b op, .b cl, .b en, .b mo, .i la0, .i la1, .i la2, .i er])) (begin_tpl.memo (spread begin_sp [.v x, .v l, .v y, .i a0, .i a1, .b tr, .b op, .b cl, .b en, .b mo, .i la0, .i la1, .i la2, .i er]) [C, O]) begin_tpl.n (SV.one (SC.int IntKind.i64 (SI.v (begin_0 x)))) ((v9_c10 x l y a0 a1 tr op cl en mo la0 la1 la2 er C O)) :=
  Runs.of1 (ps := []) (by kernel_rfl) (by simp)
noncomputable def begin_out : List Gm → Lss → Option CRes
  | [.v x, .v l, .v y, .i a0, .i a1, .b tr, .b op, .b cl, .b en, .b mo, .i la0, .i la1, .i la2, .i er], [C, O] => some ⟨SV.one (SC.int IntKind.i64 (SI.v (begin_0 x))), (v9_c10 x l y a0 a1 tr op cl en mo la0 la1 la2 er C O), [], [], 461⟩
  | _, _ => none
theorem begin_ok : FOk Try.prog 37 (tplG begin_sp begin_tpl begin_out) := by
  refine tplG_ok (runF_ok known_release 37) fun ps ls r hr hn _ => ?_
  unfold begin_out at hr
  split at hr
  · cases hr; exact ⟨_, begin_runs _ _ _ _ _ _ _ _ _ _ _ _ _ _ _ _, fun _ => rfl⟩
  · cases hr
noncomputable def K_begin : List (Nat × Summ) := (37, tplG begin_sp begin_tpl begin_out) :: K_release
theorem known_begin : Known Try.prog (sums K_begin) L_rel := known_cons known_release begin_ok
noncomputable def enter_tpl : Tpl := ⟨[.one (.ptr 0 0), .agg [.int .i64, .int .i64, .int .i64, .int .i64, .int .i64, .int .i64, .int .i64, .int .i64, .int .i64, .int .i64, .int .i64, .int .i64, .int .i64, .bool, .int .i64, .bool, .int .i64, .int .i64, .int .i64, .int .i64, .int .i64, .bool]], [(0, .blk 66 [(3, .int .i64), (4, .int .i64), (5, .int .i64), (6, .int .i64), (7, .int .i64), (8, .int .i64), (9, .int .i64), (10, .int .i64), (11, .int .i64), (12, .int .i64), (13, .int .i64), (14, .int .i64), (15, .int .i64), (16, .bool), (17, .int .i64), (18, .bool), (19, .int .i64), (20, .int .i64), (21, .int .i64), (22, .int .i64), (23, .int .i64), (24, .bool), (25, .int .i64), (26, .int .i64), (27, .int .i64), (28, .int .i64), (29, .int .i64), (30, .int .i64), (31, .int .i64), (32, .int .i64), (33, .int .i64), (34, .int .i64), (35, .int .i64), (36, .int .i64), (37, .int .i64), (38, .bool), (39, .int .i64), (40, .bool), (41, .int .i64), (42, .int .i64), (43, .int .i64), (44, .int .i64), (45, .int .i64), (46, .bool), (47, .int .i64), (48, .int .i64), (49, .bool), (50, .wh 1), (51, .bool), (52, .bool), (53, .bool), (54, .bool), (55, .int .i64), (56, .int .i64), (57, .int .i64), (58, .wh 2), (59, .int .i64)]), (1, .row false 32 22 60 [.int .i64, .int .i64, .int .i64, .int .i64, .int .i64, .int .i64, .int .i64, .int .i64, .int .i64, .int .i64, .int .i64, .int .i64, .int .i64, .bool, .int .i64, .bool, .int .i64, .int .i64, .int .i64, .int .i64, .int .i64, .bool]), (2, .row false 32 22 61 [.int .i64, .int .i64, .int .i64, .int .i64, .int .i64, .int .i64, .int .i64, .int .i64, .int .i64, .int .i64, .int .i64, .int .i64, .int .i64, .bool, .int .i64, .bool, .int .i64, .int .i64, .int .i64, .int .i64, .int .i64, .bool])], 62⟩
noncomputable def enter_sp : List GK := [.v itemB, .v itemB, .v itemB, .i, .i, .b, .b, .b, .b, .b, .i, .i, .i, .i]
noncomputable def enter_s0 (x : List GC) (l : List GC) : Int := oends_4 (flat_0 (xi l 8) (xi x 2) (xi x 3) (xi x 4)) (flat_1 (xi l 8) (xi x 2) (xi x 3) (xi x 4)) (flat_0 (xi l 8) (xi x 5) (xi x 6) (xi x 7)) (flat_1 (xi l 8) (xi x 5) (xi x 6) (xi x 7)) (bif xi x
   0 == 3 then flat_0 (xi l 8) (xi x 9) (xi x 10) (xi x 11) else 0) (bif xi x 0 == 3 then flat_1 (xi l 8) (xi x 9) (xi x 10) (xi x 11) else 0) (bif xi x 0 == 3 then xi x 12 else 0) (IntKind.i64.wrap (xi l 16 * xi l 17))
noncomputable def enter_0 (x : List GC) (l : List GC) : Int := bif enter_s0 x l != 0 then enter_s0 x l else 0
noncomputable def enter_23 (x : List GC) (l : List GC) (y : List GC) : Int := bif oends_4 (flat_0 (xi l 8) (xi x 2) (xi x 3) (xi x 4)) (flat_1 (xi l 8) (xi x 2) (xi x 3) (xi x 4)) (flat_0 (xi l 8) (xi x 5) (xi x 6) (xi x 7)) (flat_1 (xi l 8) (xi x 5) (xi x 6) (xi x 7)) (bif
   xi x 0 == 3 then flat_0 (xi l 8) (xi x 9) (xi x 10) (xi x 11) else 0) (bif xi x 0 == 3 then flat_1 (xi l 8) (xi x 9) (xi x 10) (xi x 11) else 0) (bif xi x 0 == 3 then xi x 12 else 0)
   (IntKind.i64.wrap (xi l 16 * xi l 17)) != 0 then xi y 0 else xi x 0
noncomputable def enter_24 (x : List GC) (l : List GC) (y : List GC) : Int := bif oends_4 (flat_0 (xi l 8) (xi x 2) (xi x 3) (xi x 4)) (flat_1 (xi l 8) (xi x 2) (xi x 3) (xi x 4)) (flat_0 (xi l 8) (xi x 5) (xi x 6) (xi x 7)) (flat_1 (xi l 8) (xi x 5) (xi x 6) (xi x 7)) (bif
   xi x 0 == 3 then flat_0 (xi l 8) (xi x 9) (xi x 10) (xi x 11) else 0) (bif xi x 0 == 3 then flat_1 (xi l 8) (xi x 9) (xi x 10) (xi x 11) else 0) (bif xi x 0 == 3 then xi x 12 else 0)
   (IntKind.i64.wrap (xi l 16 * xi l 17)) != 0 then xi y 1 else xi x 1
noncomputable def enter_25 (x : List GC) (l : List GC) (y : List GC) : Int := bif oends_4 (flat_0 (xi l 8) (xi x 2) (xi x 3) (xi x 4)) (flat_1 (xi l 8) (xi x 2) (xi x 3) (xi x 4)) (flat_0 (xi l 8) (xi x 5) (xi x 6) (xi x 7)) (flat_1 (xi l 8) (xi x 5) (xi x 6) (xi x 7)) (bif
   xi x 0 == 3 then flat_0 (xi l 8) (xi x 9) (xi x 10) (xi x 11) else 0) (bif xi x 0 == 3 then flat_1 (xi l 8) (xi x 9) (xi x 10) (xi x 11) else 0) (bif xi x 0 == 3 then xi x 12 else 0)
   (IntKind.i64.wrap (xi l 16 * xi l 17)) != 0 then xi y 2 else xi x 2
noncomputable def enter_26 (x : List GC) (l : List GC) (y : List GC) : Int := bif oends_4 (flat_0 (xi l 8) (xi x 2) (xi x 3) (xi x 4)) (flat_1 (xi l 8) (xi x 2) (xi x 3) (xi x 4)) (flat_0 (xi l 8) (xi x 5) (xi x 6) (xi x 7)) (flat_1 (xi l 8) (xi x 5) (xi x 6) (xi x 7)) (bif
   xi x 0 == 3 then flat_0 (xi l 8) (xi x 9) (xi x 10) (xi x 11) else 0) (bif xi x 0 == 3 then flat_1 (xi l 8) (xi x 9) (xi x 10) (xi x 11) else 0) (bif xi x 0 == 3 then xi x 12 else 0)
   (IntKind.i64.wrap (xi l 16 * xi l 17)) != 0 then xi y 3 else xi x 3
noncomputable def enter_27 (x : List GC) (l : List GC) (y : List GC) : Int := bif oends_4 (flat_0 (xi l 8) (xi x 2) (xi x 3) (xi x 4)) (flat_1 (xi l 8) (xi x 2) (xi x 3) (xi x 4)) (flat_0 (xi l 8) (xi x 5) (xi x 6) (xi x 7)) (flat_1 (xi l 8) (xi x 5) (xi x 6) (xi x 7)) (bif
   xi x 0 == 3 then flat_0 (xi l 8) (xi x 9) (xi x 10) (xi x 11) else 0) (bif xi x 0 == 3 then flat_1 (xi l 8) (xi x 9) (xi x 10) (xi x 11) else 0) (bif xi x 0 == 3 then xi x 12 else 0)
   (IntKind.i64.wrap (xi l 16 * xi l 17)) != 0 then xi y 4 else xi x 4
noncomputable def enter_28 (x : List GC) (l : List GC) (y : List GC) : Int := bif oends_4 (flat_0 (xi l 8) (xi x 2) (xi x 3) (xi x 4)) (flat_1 (xi l 8) (xi x 2) (xi x 3) (xi x 4)) (flat_0 (xi l 8) (xi x 5) (xi x 6) (xi x 7)) (flat_1 (xi l 8) (xi x 5) (xi x 6) (xi x 7)) (bif
   xi x 0 == 3 then flat_0 (xi l 8) (xi x 9) (xi x 10) (xi x 11) else 0) (bif xi x 0 == 3 then flat_1 (xi l 8) (xi x 9) (xi x 10) (xi x 11) else 0) (bif xi x 0 == 3 then xi x 12 else 0)
   (IntKind.i64.wrap (xi l 16 * xi l 17)) != 0 then xi y 5 else xi x 5
noncomputable def enter_29 (x : List GC) (l : List GC) (y : List GC) : Int := bif oends_4 (flat_0 (xi l 8) (xi x 2) (xi x 3) (xi x 4)) (flat_1 (xi l 8) (xi x 2) (xi x 3) (xi x 4)) (flat_0 (xi l 8) (xi x 5) (xi x 6) (xi x 7)) (flat_1 (xi l 8) (xi x 5) (xi x 6) (xi x 7)) (bif
   xi x 0 == 3 then flat_0 (xi l 8) (xi x 9) (xi x 10) (xi x 11) else 0) (bif xi x 0 == 3 then flat_1 (xi l 8) (xi x 9) (xi x 10) (xi x 11) else 0) (bif xi x 0 == 3 then xi x 12 else 0)
   (IntKind.i64.wrap (xi l 16 * xi l 17)) != 0 then xi y 6 else xi x 6
noncomputable def enter_30 (x : List GC) (l : List GC) (y : List GC) : Int := bif oends_4 (flat_0 (xi l 8) (xi x 2) (xi x 3) (xi x 4)) (flat_1 (xi l 8) (xi x 2) (xi x 3) (xi x 4)) (flat_0 (xi l 8) (xi x 5) (xi x 6) (xi x 7)) (flat_1 (xi l 8) (xi x 5) (xi x 6) (xi x 7)) (bif
   xi x 0 == 3 then flat_0 (xi l 8) (xi x 9) (xi x 10) (xi x 11) else 0) (bif xi x 0 == 3 then flat_1 (xi l 8) (xi x 9) (xi x 10) (xi x 11) else 0) (bif xi x 0 == 3 then xi x 12 else 0)
   (IntKind.i64.wrap (xi l 16 * xi l 17)) != 0 then xi y 7 else xi x 7
noncomputable def enter_31 (x : List GC) (l : List GC) (y : List GC) : Int := bif oends_4 (flat_0 (xi l 8) (xi x 2) (xi x 3) (xi x 4)) (flat_1 (xi l 8) (xi x 2) (xi x 3) (xi x 4)) (flat_0 (xi l 8) (xi x 5) (xi x 6) (xi x 7)) (flat_1 (xi l 8) (xi x 5) (xi x 6) (xi x 7)) (bif
   xi x 0 == 3 then flat_0 (xi l 8) (xi x 9) (xi x 10) (xi x 11) else 0) (bif xi x 0 == 3 then flat_1 (xi l 8) (xi x 9) (xi x 10) (xi x 11) else 0) (bif xi x 0 == 3 then xi x 12 else 0)
   (IntKind.i64.wrap (xi l 16 * xi l 17)) != 0 then xi y 8 else xi x 8
noncomputable def enter_32 (x : List GC) (l : List GC) (y : List GC) : Int := bif oends_4 (flat_0 (xi l 8) (xi x 2) (xi x 3) (xi x 4)) (flat_1 (xi l 8) (xi x 2) (xi x 3) (xi x 4)) (flat_0 (xi l 8) (xi x 5) (xi x 6) (xi x 7)) (flat_1 (xi l 8) (xi x 5) (xi x 6) (xi x 7)) (bif
   xi x 0 == 3 then flat_0 (xi l 8) (xi x 9) (xi x 10) (xi x 11) else 0) (bif xi x 0 == 3 then flat_1 (xi l 8) (xi x 9) (xi x 10) (xi x 11) else 0) (bif xi x 0 == 3 then xi x 12 else 0)
   (IntKind.i64.wrap (xi l 16 * xi l 17)) != 0 then xi y 9 else xi x 9
noncomputable def enter_33 (x : List GC) (l : List GC) (y : List GC) : Int := bif oends_4 (flat_0 (xi l 8) (xi x 2) (xi x 3) (xi x 4)) (flat_1 (xi l 8) (xi x 2) (xi x 3) (xi x 4)) (flat_0 (xi l 8) (xi x 5) (xi x 6) (xi x 7)) (flat_1 (xi l 8) (xi x 5) (xi x 6) (xi x 7)) (bif
   xi x 0 == 3 then flat_0 (xi l 8) (xi x 9) (xi x 10) (xi x 11) else 0) (bif xi x 0 == 3 then flat_1 (xi l 8) (xi x 9) (xi x 10) (xi x 11) else 0) (bif xi x 0 == 3 then xi x 12 else 0)
   (IntKind.i64.wrap (xi l 16 * xi l 17)) != 0 then xi y 10 else xi x 10
noncomputable def enter_34 (x : List GC) (l : List GC) (y : List GC) : Int := bif oends_4 (flat_0 (xi l 8) (xi x 2) (xi x 3) (xi x 4)) (flat_1 (xi l 8) (xi x 2) (xi x 3) (xi x 4)) (flat_0 (xi l 8) (xi x 5) (xi x 6) (xi x 7)) (flat_1 (xi l 8) (xi x 5) (xi x 6) (xi x 7)) (bif
   xi x 0 == 3 then flat_0 (xi l 8) (xi x 9) (xi x 10) (xi x 11) else 0) (bif xi x 0 == 3 then flat_1 (xi l 8) (xi x 9) (xi x 10) (xi x 11) else 0) (bif xi x 0 == 3 then xi x 12 else 0)
   (IntKind.i64.wrap (xi l 16 * xi l 17)) != 0 then xi y 11 else xi x 11
noncomputable def enter_35 (x : List GC) (l : List GC) (y : List GC) : Int := bif oends_4 (flat_0 (xi l 8) (xi x 2) (xi x 3) (xi x 4)) (flat_1 (xi l 8) (xi x 2) (xi x 3) (xi x 4)) (flat_0 (xi l 8) (xi x 5) (xi x 6) (xi x 7)) (flat_1 (xi l 8) (xi x 5) (xi x 6) (xi x 7)) (bif
   xi x 0 == 3 then flat_0 (xi l 8) (xi x 9) (xi x 10) (xi x 11) else 0) (bif xi x 0 == 3 then flat_1 (xi l 8) (xi x 9) (xi x 10) (xi x 11) else 0) (bif xi x 0 == 3 then xi x 12 else 0)
   (IntKind.i64.wrap (xi l 16 * xi l 17)) != 0 then xi y 12 else xi x 12
noncomputable def enter_36 (x : List GC) (l : List GC) (y : List GC) : Bool := bif oends_4 (flat_0 (xi l 8) (xi x 2) (xi x 3) (xi x 4)) (flat_1 (xi l 8) (xi x 2) (xi x 3) (xi x 4)) (flat_0 (xi l 8) (xi x 5) (xi x 6) (xi x 7)) (flat_1 (xi l 8) (xi x 5) (xi x 6) (xi x 7)) (bif
   xi x 0 == 3 then flat_0 (xi l 8) (xi x 9) (xi x 10) (xi x 11) else 0) (bif xi x 0 == 3 then flat_1 (xi l 8) (xi x 9) (xi x 10) (xi x 11) else 0) (bif xi x 0 == 3 then xi x 12 else 0)
   (IntKind.i64.wrap (xi l 16 * xi l 17)) != 0 then xb y 13 else xb x 13
noncomputable def enter_37 (x : List GC) (l : List GC) (y : List GC) : Int := bif oends_4 (flat_0 (xi l 8) (xi x 2) (xi x 3) (xi x 4)) (flat_1 (xi l 8) (xi x 2) (xi x 3) (xi x 4)) (flat_0 (xi l 8) (xi x 5) (xi x 6) (xi x 7)) (flat_1 (xi l 8) (xi x 5) (xi x 6) (xi x 7)) (bif
   xi x 0 == 3 then flat_0 (xi l 8) (xi x 9) (xi x 10) (xi x 11) else 0) (bif xi x 0 == 3 then flat_1 (xi l 8) (xi x 9) (xi x 10) (xi x 11) else 0) (bif xi x 0 == 3 then xi x 12 else 0)
   (IntKind.i64.wrap (xi l 16 * xi l 17)) != 0 then xi y 14 else xi x 14
noncomputable def enter_38 (x : List GC) (l : List GC) (y : List GC) : Bool := bif oends_4 (flat_0 (xi l 8) (xi x 2) (xi x 3) (xi x 4)) (flat_1 (xi l 8) (xi x 2) (xi x 3) (xi x 4)) (flat_0 (xi l 8) (xi x 5) (xi x 6) (xi x 7)) (flat_1 (xi l 8) (xi x 5) (xi x 6) (xi x 7)) (bif
   xi x 0 == 3 then flat_0 (xi l 8) (xi x 9) (xi x 10) (xi x 11) else 0) (bif xi x 0 == 3 then flat_1 (xi l 8) (xi x 9) (xi x 10) (xi x 11) else 0) (bif xi x 0 == 3 then xi x 12 else 0)
   (IntKind.i64.wrap (xi l 16 * xi l 17)) != 0 then xb y 15 else xb x 15
noncomputable def enter_39 (x : List GC) (l : List GC) (y : List GC) : Int := bif oends_4 (flat_0 (xi l 8) (xi x 2) (xi x 3) (xi x 4)) (flat_1 (xi l 8) (xi x 2) (xi x 3) (xi x 4)) (flat_0 (xi l 8) (xi x 5) (xi x 6) (xi x 7)) (flat_1 (xi l 8) (xi x 5) (xi x 6) (xi x 7)) (bif
   xi x 0 == 3 then flat_0 (xi l 8) (xi x 9) (xi x 10) (xi x 11) else 0) (bif xi x 0 == 3 then flat_1 (xi l 8) (xi x 9) (xi x 10) (xi x 11) else 0) (bif xi x 0 == 3 then xi x 12 else 0)
   (IntKind.i64.wrap (xi l 16 * xi l 17)) != 0 then xi y 16 else xi x 16
noncomputable def enter_40 (x : List GC) (l : List GC) (y : List GC) : Int := bif oends_4 (flat_0 (xi l 8) (xi x 2) (xi x 3) (xi x 4)) (flat_1 (xi l 8) (xi x 2) (xi x 3) (xi x 4)) (flat_0 (xi l 8) (xi x 5) (xi x 6) (xi x 7)) (flat_1 (xi l 8) (xi x 5) (xi x 6) (xi x 7)) (bif
   xi x 0 == 3 then flat_0 (xi l 8) (xi x 9) (xi x 10) (xi x 11) else 0) (bif xi x 0 == 3 then flat_1 (xi l 8) (xi x 9) (xi x 10) (xi x 11) else 0) (bif xi x 0 == 3 then xi x 12 else 0)
   (IntKind.i64.wrap (xi l 16 * xi l 17)) != 0 then xi y 17 else xi x 17
noncomputable def enter_41 (x : List GC) (l : List GC) (y : List GC) : Int := bif oends_4 (flat_0 (xi l 8) (xi x 2) (xi x 3) (xi x 4)) (flat_1 (xi l 8) (xi x 2) (xi x 3) (xi x 4)) (flat_0 (xi l 8) (xi x 5) (xi x 6) (xi x 7)) (flat_1 (xi l 8) (xi x 5) (xi x 6) (xi x 7)) (bif
   xi x 0 == 3 then flat_0 (xi l 8) (xi x 9) (xi x 10) (xi x 11) else 0) (bif xi x 0 == 3 then flat_1 (xi l 8) (xi x 9) (xi x 10) (xi x 11) else 0) (bif xi x 0 == 3 then xi x 12 else 0)
   (IntKind.i64.wrap (xi l 16 * xi l 17)) != 0 then xi y 18 else xi x 18
noncomputable def enter_42 (x : List GC) (l : List GC) (y : List GC) : Int := bif oends_4 (flat_0 (xi l 8) (xi x 2) (xi x 3) (xi x 4)) (flat_1 (xi l 8) (xi x 2) (xi x 3) (xi x 4)) (flat_0 (xi l 8) (xi x 5) (xi x 6) (xi x 7)) (flat_1 (xi l 8) (xi x 5) (xi x 6) (xi x 7)) (bif
   xi x 0 == 3 then flat_0 (xi l 8) (xi x 9) (xi x 10) (xi x 11) else 0) (bif xi x 0 == 3 then flat_1 (xi l 8) (xi x 9) (xi x 10) (xi x 11) else 0) (bif xi x 0 == 3 then xi x 12 else 0)
   (IntKind.i64.wrap (xi l 16 * xi l 17)) != 0 then xi y 19 else xi x 19
noncomputable def enter_43 (x : List GC) (l : List GC) (y : List GC) : Int := bif oends_4 (flat_0 (xi l 8) (xi x 2) (xi x 3) (xi x 4)) (flat_1 (xi l 8) (xi x 2) (xi x 3) (xi x 4)) (flat_0 (xi l 8) (xi x 5) (xi x 6) (xi x 7)) (flat_1 (xi l 8) (xi x 5) (xi x 6) (xi x 7)) (bif
   xi x 0 == 3 then flat_0 (xi l 8) (xi x 9) (xi x 10) (xi x 11) else 0) (bif xi x 0 == 3 then flat_1 (xi l 8) (xi x 9) (xi x 10) (xi x 11) else 0) (bif xi x 0 == 3 then xi x 12 else 0)
   (IntKind.i64.wrap (xi l 16 * xi l 17)) != 0 then xi y 20 else xi x 20
noncomputable def enter_44 (x : List GC) (l : List GC) (y : List GC) : Bool := bif oends_4 (flat_0 (xi l 8) (xi x 2) (xi x 3) (xi x 4)) (flat_1 (xi l 8) (xi x 2) (xi x 3) (xi x 4)) (flat_0 (xi l 8) (xi x 5) (xi x 6) (xi x 7)) (flat_1 (xi l 8) (xi x 5) (xi x 6) (xi x 7)) (bif
   xi x 0 == 3 then flat_0 (xi l 8) (xi x 9) (xi x 10) (xi x 11) else 0) (bif xi x 0 == 3 then flat_1 (xi l 8) (xi x 9) (xi x 10) (xi x 11) else 0) (bif xi x 0 == 3 then xi x 12 else 0)
   (IntKind.i64.wrap (xi l 16 * xi l 17)) != 0 then xb y 21 else xb x 21
noncomputable def enter_s1 (x : List GC) (l : List GC) : Int := bif xi x 0 == 3 then flat_0 (xi l 8) (xi x 9) (xi x 10) (xi x 11) else 0
noncomputable def enter_s2 (x : List GC) (l : List GC) : Int := bif xi x 0 == 3 then flat_1 (xi l 8) (xi x 9) (xi x 10) (xi x 11) else 0
noncomputable def enter_s3 (x : List GC) : Int := bif xi x 0 == 3 then xi x 12 else 0
noncomputable def enter_45 (x : List GC) (l : List GC) (a0 : Int) : Int := bif oends_4 (flat_0 (xi l 8) (xi x 2) (xi x 3) (xi x 4)) (flat_1 (xi l 8) (xi x 2) (xi x 3) (xi x 4)) (flat_0 (xi l 8) (xi x 5) (xi x 6) (xi x 7)) (flat_1 (xi l 8) (xi x 5) (xi x 6) (xi x 7))
   (enter_s1 x l) (enter_s2 x l) (enter_s3 x) (IntKind.i64.wrap (xi l 16 * xi l 17)) != 0 then a0 else oends_0 (flat_0 (xi l 8) (xi x 2) (xi x 3) (xi x 4)) (flat_1 (xi l 8) (xi x 2) (xi x 3) (xi x 4))
   (flat_0 (xi l 8) (xi x 5) (xi x 6) (xi x 7)) (flat_1 (xi l 8) (xi x 5) (xi x 6) (xi x 7)) (enter_s1 x l) (enter_s2 x l) (enter_s3 x) (IntKind.i64.wrap (xi l 16 * xi l 17))
noncomputable def enter_46 (x : List GC) (l : List GC) (a1 : Int) : Int := bif oends_4 (flat_0 (xi l 8) (xi x 2) (xi x 3) (xi x 4)) (flat_1 (xi l 8) (xi x 2) (xi x 3) (xi x 4)) (flat_0 (xi l 8) (xi x 5) (xi x 6) (xi x 7)) (flat_1 (xi l 8) (xi x 5) (xi x 6) (xi x 7))
   (enter_s1 x l) (enter_s2 x l) (enter_s3 x) (IntKind.i64.wrap (xi l 16 * xi l 17)) != 0 then a1 else oends_1 (flat_0 (xi l 8) (xi x 2) (xi x 3) (xi x 4)) (flat_1 (xi l 8) (xi x 2) (xi x 3) (xi x 4))
   (flat_0 (xi l 8) (xi x 5) (xi x 6) (xi x 7)) (flat_1 (xi l 8) (xi x 5) (xi x 6) (xi x 7)) (enter_s1 x l) (enter_s2 x l) (enter_s3 x) (IntKind.i64.wrap (xi l 16 * xi l 17))
noncomputable def enter_s4 (x : List GC) (l : List GC) : Int := oends_0 (flat_0 (xi l 8) (xi x 2) (xi x 3) (xi x 4)) (flat_1 (xi l 8) (xi x 2) (xi x 3) (xi x 4)) (flat_0 (xi l 8) (xi x 5) (xi x 6) (xi x 7)) (flat_1 (xi l 8) (xi x 5) (xi x 6) (xi x 7)) (enter_s1
   x l) (enter_s2 x l) (enter_s3 x) (IntKind.i64.wrap (xi l 16 * xi l 17))
noncomputable def enter_s5 (x : List GC) (l : List GC) : Int := oends_1 (flat_0 (xi l 8) (xi x 2) (xi x 3) (xi x 4)) (flat_1 (xi l 8) (xi x 2) (xi x 3) (xi x 4)) (flat_0 (xi l 8) (xi x 5) (xi x 6) (xi x 7)) (flat_1 (xi l 8) (xi x 5) (xi x 6) (xi x 7)) (enter_s1
   x l) (enter_s2 x l) (enter_s3 x) (IntKind.i64.wrap (xi l 16 * xi l 17))
noncomputable def enter_47 (x : List GC) (l : List GC) (C : List (List Int)) (O : List (List Int)) : List (List Int) := bif oends_4 (flat_0 (xi l 8) (xi x 2) (xi x 3) (xi x 4)) (flat_1 (xi l 8) (xi x 2) (xi x 3) (xi x 4)) (flat_0 (xi l 8) (xi x 5) (xi x 6) (xi x 7)) (flat_1 (xi l 8) (xi x 5) (xi x 6) (xi x 7))
   (enter_s1 x l) (enter_s2 x l) (enter_s3 x) (IntKind.i64.wrap (xi l 16 * xi l 17)) != 0 then O else release_44 (nrm l) (enter_s4 x l) (enter_s5 x l) C (line_46 (nrm l) (enter_s4 x l) (enter_s5 x l)
   (flat_2 (xi l 8) (xi l 2) (xi l 3) (xi l 4)) (flat_2 (xi l 8) (xi l 2) (xi l 3) (xi l 4)) true (nrm l) (flat_0 (xi l 8) (xi l 2) (xi l 3) (xi l 4)) (flat_1 (xi l 8) (xi l 2) (xi l 3) (xi l 4)) O)
noncomputable def enter_48 (x : List GC) (l : List GC) (C : List (List Int)) : List (List Int) := bif oends_4 (flat_0 (xi l 8) (xi x 2) (xi x 3) (xi x 4)) (flat_1 (xi l 8) (xi x 2) (xi x 3) (xi x 4)) (flat_0 (xi l 8) (xi x 5) (xi x 6) (xi x 7)) (flat_1 (xi l 8) (xi x 5) (xi x 6) (xi x 7)) (bif
   xi x 0 == 3 then flat_0 (xi l 8) (xi x 9) (xi x 10) (xi x 11) else 0) (bif xi x 0 == 3 then flat_1 (xi l 8) (xi x 9) (xi x 10) (xi x 11) else 0) (bif xi x 0 == 3 then xi x 12 else 0)
   (IntKind.i64.wrap (xi l 16 * xi l 17)) != 0 then C else []
noncomputable def enter_needs (x : List GC) (l : List GC) (C : List (List Int)) (O : List (List Int)) : List Prop := [(oends_4 (flat_0 (xi l 8) (xi x 2) (xi x 3) (xi x 4)) (flat_1 (xi l 8) (xi x 2) (xi x 3) (xi x 4)) (flat_0 (xi l 8) (xi x 5) (xi x 6) (xi x 7)) (flat_1 (xi l 8) (xi x 5) (xi x 6) (xi x 7))
   (enter_s1 x l) (enter_s2 x l) (enter_s3 x) (IntKind.i64.wrap (xi l 16 * xi l 17)) != 0) = false → O.length ≤ 1000000 ∧ C.length ≤ 1000 ∧ (line_46 (nrm l) (oends_0 (flat_0 (xi l 8) (xi x 2) (xi x 3)
   (xi x 4)) (flat_1 (xi l 8) (xi x 2) (xi x 3) (xi x 4)) (flat_0 (xi l 8) (xi x 5) (xi x 6) (xi x 7)) (flat_1 (xi l 8) (xi x 5) (xi x 6) (xi x 7)) (enter_s1 x l) (enter_s2 x l) (enter_s3 x)
   (IntKind.i64.wrap (xi l 16 * xi l 17))) (oends_1 (flat_0 (xi l 8) (xi x 2) (xi x 3) (xi x 4)) (flat_1 (xi l 8) (xi x 2) (xi x 3) (xi x 4)) (flat_0 (xi l 8) (xi x 5) (xi x 6) (xi x 7)) (flat_1 (xi l
   8) (xi x 5) (xi x 6) (xi x 7)) (enter_s1 x l) (enter_s2 x l) (enter_s3 x) (IntKind.i64.wrap (xi l 16 * xi l 17))) (flat_2 (xi l 8) (xi l 2) (xi l 3) (xi l 4)) (flat_2 (xi l 8) (xi l 2) (xi l 3) (xi l
   4)) true (nrm l) (flat_0 (xi l 8) (xi l 2) (xi l 3) (xi l 4)) (flat_1 (xi l 8) (xi l 2) (xi l 3) (xi l 4)) O).length ≤ 900000]
theorem enter_weak {x : List GC} {l : List GC} {C : List (List Int)} {O : List (List Int)} (hW : ∀ q ∈ ([C.length ≤ 1000, O.length ≤ 800000] : List Prop), q) : ∀ q ∈ (enter_needs x l C O), q := by
  simp only [List.mem_cons, List.not_mem_nil, or_false, forall_eq_or_imp, forall_eq] at hW
  unfold enter_needs
  simp only [List.forall_mem_cons, List.not_mem_nil, false_implies, implies_true, and_true]
  obtain ⟨h1, h2⟩ := hW
  refine fun _ => ⟨by omega, h1, ?_⟩
  refine Nat.le_trans (line_46_len ..).2 (by omega)
noncomputable def v9_c11 (l : List GC) (x : List GC) (y : List GC) (a0 : Int) (a1 : Int) (tr : Bool) (op : Bool) (cl : Bool) (en : Bool) (mo : Bool) (la0 : Int) (la1 : Int) (la2 : Int) (er : Int) (C : List (List Int)) (O : List (List Int)) := [(0, Obj.blk 66 [(3, SC.int IntKind.i64 (SI.v (xi l 0))), (4, SC.int IntKind.i64 (SI.v (xi l 1))), (5, SC.int IntKind.i64 (SI.v (xi l 2))), (6, SC.int IntKind.i64 (SI.v (xi l 3))), (7, SC.int
   IntKind.i64 (SI.v (xi l 4))), (8, SC.int IntKind.i64 (SI.v (xi l 5))), (9, SC.int IntKind.i64 (SI.v (xi l 6))), (10, SC.int IntKind.i64 (SI.v (xi l 7))), (11, SC.int IntKind.i64 (SI.v (xi l 8))),
   (12, SC.int IntKind.i64 (SI.v (xi l 9))), (13, SC.int IntKind.i64 (SI.v (xi l 10))), (14, SC.int IntKind.i64 (SI.v (xi l 11))), (15, SC.int IntKind.i64 (SI.v (xi l 12))), (16, SC.bool (SB.v (xb l
   13))), (17, SC.int IntKind.i64 (SI.v (xi l 14))), (18, SC.bool (SB.v (xb l 15))), (19, SC.int IntKind.i64 (SI.v (xi l 16))), (20, SC.int IntKind.i64 (SI.v (xi l 17))), (21, SC.int IntKind.i64 (SI.v
   (xi l 18))), (22, SC.int IntKind.i64 (SI.v (xi l 19))), (23, SC.int IntKind.i64 (SI.v (xi l 20))), (24, SC.bool (SB.v (xb l 21))), (12673, SC.int IntKind.i64 (SI.v (enter_23 x l y))), (12674, SC.int
   IntKind.i64 (SI.v (enter_24 x l y))), (12675, SC.int IntKind.i64 (SI.v (enter_25 x l y))), (12676, SC.int IntKind.i64 (SI.v (enter_26 x l y))), (12677, SC.int IntKind.i64 (SI.v (enter_27 x l y))),
   (12678, SC.int IntKind.i64 (SI.v (enter_28 x l y))), (12679, SC.int IntKind.i64 (SI.v (enter_29 x l y))), (12680, SC.int IntKind.i64 (SI.v (enter_30 x l y))), (12681, SC.int IntKind.i64 (SI.v
   (enter_31 x l y))), (12682, SC.int IntKind.i64 (SI.v (enter_32 x l y))), (12683, SC.int IntKind.i64 (SI.v (enter_33 x l y))), (12684, SC.int IntKind.i64 (SI.v (enter_34 x l y))), (12685, SC.int
   IntKind.i64 (SI.v (enter_35 x l y))), (12686, SC.bool (SB.v (enter_36 x l y))), (12687, SC.int IntKind.i64 (SI.v (enter_37 x l y))), (12688, SC.bool (SB.v (enter_38 x l y))), (12689, SC.int
   IntKind.i64 (SI.v (enter_39 x l y))), (12690, SC.int IntKind.i64 (SI.v (enter_40 x l y))), (12691, SC.int IntKind.i64 (SI.v (enter_41 x l y))), (12692, SC.int IntKind.i64 (SI.v (enter_42 x l y))),
   (12693, SC.int IntKind.i64 (SI.v (enter_43 x l y))), (12694, SC.bool (SB.v (enter_44 x l y))), (12695, SC.int IntKind.i64 (SI.v (enter_45 x l a0))), (12696, SC.int IntKind.i64 (SI.v (enter_46 x l
   a1))), (49, SC.bool (SB.v tr)), (12667, SC.wh 12665), (51, SC.bool (SB.v op)), (52, SC.bool (SB.v cl)), (53, SC.bool (SB.v en)), (54, SC.bool (SB.v mo)), (55, SC.int IntKind.i64 (SI.v la0)), (56,
   SC.int IntKind.i64 (SI.v la1)), (57, SC.int IntKind.i64 (SI.v la2)), (12670, SC.wh 12668), (59, SC.int IntKind.i64 (SI.v er))]), (12668, Obj.row false 32 22 (RowC.lst 12672 v9_c7 (enter_47 x l C
   O))), (12665, Obj.row false 32 22 (RowC.lst 12671 v9_c7 (enter_48 x l C)))]
set_option maxRecDepth 1000000 in
theorem enter_runs (x l y : List GC) (a0 a1 : Int) (tr op cl en mo : Bool) (la0 la1 la2 er : Int) (C O : List (List Int)) (hNeeds : ∀ pN ∈ (enter_needs x l C O), pN) : Runs (runF (sums K_begin) L_rel 50) (enter_tpl.args (spread enter_sp [.v x, .v l, .v y, .i a0, .i a1, .b tr, .b op, .b cl, .b en, .b mo, .i la0, .i la1, .i la2, .i er])) (enter_tpl.memo (spread enter_sp [.v x, .v l, .v y, .i a0, .i a1, .b tr, .b op, .b cl, .b en, .b mo, .i la0, .i la1, .i la2, .i er]) [C, O]) enter_tpl.n (SV.one (SC.int IntKind.i64 (SI.v (enter_0 x l)))) ((v9_c11 l x y a0 a1 tr op cl en mo la0 la1 la2 er C O)) :=
  Runs.of1 (ps := (enter_needs x l C O)) (by kernel_rfl) hNeeds
noncomputable def enter_out : List Gm → Lss → Option CRes
  | [.v x, .v l, .v y, .i a0, .i a1, .b tr, .b op, .b cl, .b en, .b mo, .i la0, .i la1, .i la2, .i er], [C, O] => some ⟨SV.one (SC.int IntKind.i64 (SI.v (enter_0 x l))), (v9_c11 l x y a0 a1 tr op cl en mo la0 la1 la2 er C O), [C.length ≤ 1000, O.length ≤ 800000], [], 12697⟩
  | _, _ => none
theorem enter_ok : FOk Try.prog 50 (tplG enter_sp enter_tpl enter_out) := by
  refine tplG_ok (runF_ok known_begin 50) fun ps ls r hr hn _ => ?_
  unfold enter_out at hr
  split at hr
  · cases hr; exact ⟨_, enter_runs _ _ _ _ _ _ _ _ _ _ _ _ _ _ _ _ (enter_weak (by exact hn)), fun _ => rfl⟩
  · cases hr
noncomputable def K_enter : List (Nat × Summ) := (50, tplG enter_sp enter_tpl enter_out) :: K_begin
theorem known_enter : Known Try.prog (sums K_enter) L_rel := known_cons known_begin enter_ok
noncomputable def turn_tpl : Tpl := ⟨[.one (.ptr 0 0), .agg [.int .i64, .int .i64, .int .i64, .int .i64, .int .i64, .int .i64, .int .i64, .int .i64, .int .i64, .int .i64, .int .i64, .int .i64, .int .i64, .bool, .int .i64, .bool, .int .i64, .int .i64, .int .i64, .int .i64, .int .i64, .bool]], [(0, .blk 66 [(3, .int .i64), (4, .int .i64), (5, .int .i64), (6, .int .i64), (7, .int .i64), (8, .int .i64), (9, .int .i64), (10, .int .i64), (11, .int .i64), (12, .int .i64), (13, .int .i64), (14, .int .i64), (15, .int .i64), (16, .bool), (17, .int .i64), (18, .bool), (19, .int .i64), (20, .int .i64), (21, .int .i64), (22, .int .i64), (23, .int .i64), (24, .bool), (25, .int .i64), (26, .int .i64), (27, .int .i64), (28, .int .i64), (29, .int .i64), (30, .int .i64), (31, .int .i64), (32, .int .i64), (33, .int .i64), (34, .int .i64), (35, .int .i64), (36, .int .i64), (37, .int .i64), (38, .bool), (39, .int .i64), (40, .bool), (41, .int .i64), (42, .int .i64), (43, .int .i64), (44, .int .i64), (45, .int .i64), (46, .bool), (47, .int .i64), (48, .int .i64), (49, .bool), (50, .wh 1), (51, .bool), (52, .bool), (53, .bool), (54, .bool), (55, .int .i64), (56, .int .i64), (57, .int .i64), (58, .wh 2), (59, .int .i64)]), (1, .row false 32 22 60 [.int .i64, .int .i64, .int .i64, .int .i64, .int .i64, .int .i64, .int .i64, .int .i64, .int .i64, .int .i64, .int .i64, .int .i64, .int .i64, .bool, .int .i64, .bool, .int .i64, .int .i64, .int .i64, .int .i64, .int .i64, .bool]), (2, .row false 32 22 61 [.int .i64, .int .i64, .int .i64, .int .i64, .int .i64, .int .i64, .int .i64, .int .i64, .int .i64, .int .i64, .int .i64, .int .i64, .int .i64, .bool, .int .i64, .bool, .int .i64, .int .i64, .int .i64, .int .i64, .int .i64, .bool])], 62⟩
noncomputable def turn_sp : List GK := [.v itemB, .v itemB, .v itemB, .i, .i, .b, .b, .b, .b, .b, .i, .i, .i, .i]
noncomputable def turn_s0 (l : List GC) (y : List GC) : Int := bif xi y 0 == 3 then flat_0 (xi l 8) (xi y 9) (xi y 10) (xi y 11) else 0
noncomputable def turn_s1 (l : List GC) (y : List GC) : Int := bif xi y 0 == 3 then flat_1 (xi l 8) (xi y 9) (xi y 10) (xi y 11) else 0
noncomputable def turn_s2 (y : List GC) : Int := bif xi y 0 == 3 then xi y 12 else 0
noncomputable def turn_s3 (y : List GC) : Bool := xi y 0 == 3 && xb y 13
noncomputable def turn_s4 (x : List GC) (l : List GC) : Int := bif xi x 0 == 3 then flat_0 (xi l 8) (xi x 9) (xi x 10) (xi x 11) else 0
noncomputable def turn_s5 (x : List GC) (l : List GC) : Int := bif xi x 0 == 3 then flat_1 (xi l 8) (xi x 9) (xi x 10) (xi x 11) else 0
noncomputable def turn_s8 (x : List GC) (l : List GC) (y : List GC) : Int := trim_2 (flat_0 (xi l 8) (xi y 2) (xi y 3) (xi y 4)) (flat_1 (xi l 8) (xi y 2) (xi y 3) (xi y 4)) (flat_0 (xi l 8) (xi y 5) (xi y 6) (xi y 7)) (flat_1 (xi l 8) (xi y 5) (xi y 6) (xi y 7)) (turn_s0 l
   y) (turn_s1 l y) (turn_s2 y) (turn_s3 y) (flat_0 (xi l 8) (xi x 2) (xi x 3) (xi x 4)) (flat_1 (xi l 8) (xi x 2) (xi x 3) (xi x 4)) (flat_0 (xi l 8) (xi x 5) (xi x 6) (xi x 7)) (flat_1 (xi l 8) (xi x
   5) (xi x 6) (xi x 7)) (turn_s4 x l) (turn_s5 x l) (turn_s2 x) (turn_s3 x) (IntKind.i64.wrap (xi l 16 * xi l 17))
noncomputable def v9_c3 (l : List GC) (y : List GC) (x : List GC) := trim_0 (flat_0 (xi l 8) (xi y 2) (xi y 3) (xi y 4)) (flat_1 (xi l 8) (xi y 2) (xi y 3) (xi y 4)) (flat_0 (xi l 8) (xi y 5) (xi y 6) (xi y 7)) (flat_1 (xi l 8) (xi y 5) (xi y 6) (xi y 7)) (turn_s0 l
   y) (turn_s1 l y) (turn_s2 y) (turn_s3 y) (flat_0 (xi l 8) (xi x 2) (xi x 3) (xi x 4)) (flat_1 (xi l 8) (xi x 2) (xi x 3) (xi x 4)) (flat_0 (xi l 8) (xi x 5) (xi x 6) (xi x 7)) (flat_1 (xi l 8) (xi x
   5) (xi x 6) (xi x 7)) (turn_s4 x l) (turn_s5 x l) (turn_s2 x) (turn_s3 x) (IntKind.i64.wrap (xi l 16 * xi l 17))
noncomputable def v9_c4 (l : List GC) (y : List GC) (x : List GC) := trim_1 (flat_0 (xi l 8) (xi y 2) (xi y 3) (xi y 4)) (flat_1 (xi l 8) (xi y 2) (xi y 3) (xi y 4)) (flat_0 (xi l 8) (xi y 5) (xi y 6) (xi y 7)) (flat_1 (xi l 8) (xi y 5) (xi y 6) (xi y 7)) (turn_s0 l
   y) (turn_s1 l y) (turn_s2 y) (turn_s3 y) (flat_0 (xi l 8) (xi x 2) (xi x 3) (xi x 4)) (flat_1 (xi l 8) (xi x 2) (xi x 3) (xi x 4)) (flat_0 (xi l 8) (xi x 5) (xi x 6) (xi x 7)) (flat_1 (xi l 8) (xi x
   5) (xi x 6) (xi x 7)) (turn_s4 x l) (turn_s5 x l) (turn_s2 x) (turn_s3 x) (IntKind.i64.wrap (xi l 16 * xi l 17))
noncomputable def turn_s9 (x : List GC) (l : List GC) (y : List GC) (a0 : Int) (a1 : Int) (tr : Bool) : Int := shift_0 (v9_c3 l y x) (v9_c4 l y x) true (nrm l) (nrm y) a0 a1 tr
noncomputable def turn_s10 (l : List GC) (y : List GC) : Int := oends_4 (flat_0 (xi l 8) (xi y 2) (xi y 3) (xi y 4)) (flat_1 (xi l 8) (xi y 2) (xi y 3) (xi y 4)) (flat_0 (xi l 8) (xi y 5) (xi y 6) (xi y 7)) (flat_1 (xi l 8) (xi y 5) (xi y 6) (xi y 7)) (turn_s0 l
   y) (turn_s1 l y) (turn_s2 y) (IntKind.i64.wrap (xi l 16 * xi l 17))
noncomputable def turn_s11 (x : List GC) (l : List GC) : Int := oends_4 (flat_0 (xi l 8) (xi x 2) (xi x 3) (xi x 4)) (flat_1 (xi l 8) (xi x 2) (xi x 3) (xi x 4)) (flat_0 (xi l 8) (xi x 5) (xi x 6) (xi x 7)) (flat_1 (xi l 8) (xi x 5) (xi x 6) (xi x 7)) (turn_s4 x
   l) (turn_s5 x l) (turn_s2 x) (IntKind.i64.wrap (xi l 16 * xi l 17))
noncomputable def v9_c5 (l : List GC) (y : List GC) := oends_2 (flat_0 (xi l 8) (xi y 2) (xi y 3) (xi y 4)) (flat_1 (xi l 8) (xi y 2) (xi y 3) (xi y 4)) (flat_0 (xi l 8) (xi y 5) (xi y 6) (xi y 7)) (flat_1 (xi l 8) (xi y 5) (xi y 6) (xi y 7)) (turn_s0 l
   y) (turn_s1 l y) (turn_s2 y) (IntKind.i64.wrap (xi l 16 * xi l 17))
noncomputable def v9_c6 (l : List GC) (y : List GC) := oends_3 (flat_0 (xi l 8) (xi y 2) (xi y 3) (xi y 4)) (flat_1 (xi l 8) (xi y 2) (xi y 3) (xi y 4)) (flat_0 (xi l 8) (xi y 5) (xi y 6) (xi y 7)) (flat_1 (xi l 8) (xi y 5) (xi y 6) (xi y 7)) (turn_s0 l
   y) (turn_s1 l y) (turn_s2 y) (IntKind.i64.wrap (xi l 16 * xi l 17))
noncomputable def turn_s12 (l : List GC) (y : List GC) (a0 : Int) (a1 : Int) (tr : Bool) : Int := shift_0 (v9_c5 l y) (v9_c6 l y) false (nrm l) (nrm y) a0 a1 tr
noncomputable def v9_c0 (l : List GC) (y : List GC) (x : List GC) := bif IntKind.i64.wrap (xi l 16 * xi l 17) == 0 then 0 else ocorner_0 (atang_0 (xi y 0) (xi y 2) (xi y 3) (xi y 4) (xi y 5) (xi y 6) (xi y 7) (xi y 8) (xi y 9) (xi y 10) (xi y 11) (xi y 12) true)
   (atang_1 (xi y 0) (xi y 2) (xi y 3) (xi y 4) (xi y 5) (xi y 6) (xi y 7) (xi y 8) (xi y 9) (xi y 10) (xi y 11) (xi y 12) true) (atang_0 (xi x 0) (xi x 2) (xi x 3) (xi x 4) (xi x 5) (xi x 6) (xi x 7)
   (xi x 8) (xi x 9) (xi x 10) (xi x 11) (xi x 12) false) (atang_1 (xi x 0) (xi x 2) (xi x 3) (xi x 4) (xi x 5) (xi x 6) (xi x 7) (xi x 8) (xi x 9) (xi x 10) (xi x 11) (xi x 12) false) (xi l 16)
noncomputable def turn_0 (x : List GC) (l : List GC) (y : List GC) (a0 : Int) (a1 : Int) (tr : Bool) : Int := bif (v9_c0 l y x) == 2 then bif turn_s8 x l y == 0 then bif turn_s9 x l y a0 a1 tr != 0 then turn_s9 x l y a0 a1 tr else 0 else bif turn_s8 x l y != 0 then turn_s8 x l y else 0 else bif turn_s10 l y
   != 0 then turn_s10 l y else bif turn_s11 x l == 0 then bif turn_s12 l y a0 a1 tr != 0 then turn_s12 l y a0 a1 tr else 0 else bif turn_s11 x l != 0 then turn_s11 x l else 0
noncomputable def turn_23 (x : List GC) (l : List GC) (y : List GC) (a0 : Int) (a1 : Int) (tr : Bool) : Int := bif (v9_c0 l y x) == 2 then bif turn_s8 x l y == 0 then bif shift_0 (v9_c3 l y x) (v9_c4 l y x) true (nrm l) (nrm y) a0 a1 tr != 0 then xi y 0 else xi x 0 else bif turn_s8 x l y != 0 then xi y 0
   else xi x 0 else bif oends_4 (flat_0 (xi l 8) (xi y 2) (xi y 3) (xi y 4)) (flat_1 (xi l 8) (xi y 2) (xi y 3) (xi y 4)) (flat_0 (xi l 8) (xi y 5) (xi y 6) (xi y 7)) (flat_1 (xi l 8) (xi y 5) (xi y 6)
   (xi y 7)) (turn_s0 l y) (turn_s1 l y) (turn_s2 y) (IntKind.i64.wrap (xi l 16 * xi l 17)) != 0 then xi y 0 else bif turn_s11 x l == 0 then bif shift_0 (v9_c5 l y) (v9_c6 l y) false (nrm l) (nrm y) a0
   a1 tr != 0 then xi y 0 else xi x 0 else bif turn_s11 x l != 0 then xi y 0 else xi x 0
noncomputable def turn_24 (x : List GC) (l : List GC) (y : List GC) (a0 : Int) (a1 : Int) (tr : Bool) : Int := bif (v9_c0 l y x) == 2 then bif turn_s8 x l y == 0 then bif shift_0 (v9_c3 l y x) (v9_c4 l y x) true (nrm l) (nrm y) a0 a1 tr != 0 then xi y 1 else xi x 1 else bif turn_s8 x l y != 0 then xi y 1
   else xi x 1 else bif oends_4 (flat_0 (xi l 8) (xi y 2) (xi y 3) (xi y 4)) (flat_1 (xi l 8) (xi y 2) (xi y 3) (xi y 4)) (flat_0 (xi l 8) (xi y 5) (xi y 6) (xi y 7)) (flat_1 (xi l 8) (xi y 5) (xi y 6)
   (xi y 7)) (turn_s0 l y) (turn_s1 l y) (turn_s2 y) (IntKind.i64.wrap (xi l 16 * xi l 17)) != 0 then xi y 1 else bif turn_s11 x l == 0 then bif shift_0 (v9_c5 l y) (v9_c6 l y) false (nrm l) (nrm y) a0
   a1 tr != 0 then xi y 1 else xi x 1 else bif turn_s11 x l != 0 then xi y 1 else xi x 1
noncomputable def turn_25 (x : List GC) (l : List GC) (y : List GC) (a0 : Int) (a1 : Int) (tr : Bool) : Int := bif (v9_c0 l y x) == 2 then bif turn_s8 x l y == 0 then bif shift_0 (v9_c3 l y x) (v9_c4 l y x) true (nrm l) (nrm y) a0 a1 tr != 0 then xi y 2 else xi x 2 else bif turn_s8 x l y != 0 then xi y 2
   else xi x 2 else bif oends_4 (flat_0 (xi l 8) (xi y 2) (xi y 3) (xi y 4)) (flat_1 (xi l 8) (xi y 2) (xi y 3) (xi y 4)) (flat_0 (xi l 8) (xi y 5) (xi y 6) (xi y 7)) (flat_1 (xi l 8) (xi y 5) (xi y 6)
   (xi y 7)) (turn_s0 l y) (turn_s1 l y) (turn_s2 y) (IntKind.i64.wrap (xi l 16 * xi l 17)) != 0 then xi y 2 else bif turn_s11 x l == 0 then bif shift_0 (v9_c5 l y) (v9_c6 l y) false (nrm l) (nrm y) a0
   a1 tr != 0 then xi y 2 else xi x 2 else bif turn_s11 x l != 0 then xi y 2 else xi x 2
noncomputable def turn_26 (x : List GC) (l : List GC) (y : List GC) (a0 : Int) (a1 : Int) (tr : Bool) : Int := bif (v9_c0 l y x) == 2 then bif turn_s8 x l y == 0 then bif shift_0 (v9_c3 l y x) (v9_c4 l y x) true (nrm l) (nrm y) a0 a1 tr != 0 then xi y 3 else xi x 3 else bif turn_s8 x l y != 0 then xi y 3
   else xi x 3 else bif oends_4 (flat_0 (xi l 8) (xi y 2) (xi y 3) (xi y 4)) (flat_1 (xi l 8) (xi y 2) (xi y 3) (xi y 4)) (flat_0 (xi l 8) (xi y 5) (xi y 6) (xi y 7)) (flat_1 (xi l 8) (xi y 5) (xi y 6)
   (xi y 7)) (turn_s0 l y) (turn_s1 l y) (turn_s2 y) (IntKind.i64.wrap (xi l 16 * xi l 17)) != 0 then xi y 3 else bif turn_s11 x l == 0 then bif shift_0 (v9_c5 l y) (v9_c6 l y) false (nrm l) (nrm y) a0
   a1 tr != 0 then xi y 3 else xi x 3 else bif turn_s11 x l != 0 then xi y 3 else xi x 3
noncomputable def turn_27 (x : List GC) (l : List GC) (y : List GC) (a0 : Int) (a1 : Int) (tr : Bool) : Int := bif (v9_c0 l y x) == 2 then bif turn_s8 x l y == 0 then bif shift_0 (v9_c3 l y x) (v9_c4 l y x) true (nrm l) (nrm y) a0 a1 tr != 0 then xi y 4 else xi x 4 else bif turn_s8 x l y != 0 then xi y 4
   else xi x 4 else bif oends_4 (flat_0 (xi l 8) (xi y 2) (xi y 3) (xi y 4)) (flat_1 (xi l 8) (xi y 2) (xi y 3) (xi y 4)) (flat_0 (xi l 8) (xi y 5) (xi y 6) (xi y 7)) (flat_1 (xi l 8) (xi y 5) (xi y 6)
   (xi y 7)) (turn_s0 l y) (turn_s1 l y) (turn_s2 y) (IntKind.i64.wrap (xi l 16 * xi l 17)) != 0 then xi y 4 else bif turn_s11 x l == 0 then bif shift_0 (v9_c5 l y) (v9_c6 l y) false (nrm l) (nrm y) a0
   a1 tr != 0 then xi y 4 else xi x 4 else bif turn_s11 x l != 0 then xi y 4 else xi x 4
noncomputable def turn_28 (x : List GC) (l : List GC) (y : List GC) (a0 : Int) (a1 : Int) (tr : Bool) : Int := bif (v9_c0 l y x) == 2 then bif turn_s8 x l y == 0 then bif shift_0 (v9_c3 l y x) (v9_c4 l y x) true (nrm l) (nrm y) a0 a1 tr != 0 then xi y 5 else xi x 5 else bif turn_s8 x l y != 0 then xi y 5
   else xi x 5 else bif oends_4 (flat_0 (xi l 8) (xi y 2) (xi y 3) (xi y 4)) (flat_1 (xi l 8) (xi y 2) (xi y 3) (xi y 4)) (flat_0 (xi l 8) (xi y 5) (xi y 6) (xi y 7)) (flat_1 (xi l 8) (xi y 5) (xi y 6)
   (xi y 7)) (turn_s0 l y) (turn_s1 l y) (turn_s2 y) (IntKind.i64.wrap (xi l 16 * xi l 17)) != 0 then xi y 5 else bif turn_s11 x l == 0 then bif shift_0 (v9_c5 l y) (v9_c6 l y) false (nrm l) (nrm y) a0
   a1 tr != 0 then xi y 5 else xi x 5 else bif turn_s11 x l != 0 then xi y 5 else xi x 5
noncomputable def turn_29 (x : List GC) (l : List GC) (y : List GC) (a0 : Int) (a1 : Int) (tr : Bool) : Int := bif (v9_c0 l y x) == 2 then bif turn_s8 x l y == 0 then bif shift_0 (v9_c3 l y x) (v9_c4 l y x) true (nrm l) (nrm y) a0 a1 tr != 0 then xi y 6 else xi x 6 else bif turn_s8 x l y != 0 then xi y 6
   else xi x 6 else bif oends_4 (flat_0 (xi l 8) (xi y 2) (xi y 3) (xi y 4)) (flat_1 (xi l 8) (xi y 2) (xi y 3) (xi y 4)) (flat_0 (xi l 8) (xi y 5) (xi y 6) (xi y 7)) (flat_1 (xi l 8) (xi y 5) (xi y 6)
   (xi y 7)) (turn_s0 l y) (turn_s1 l y) (turn_s2 y) (IntKind.i64.wrap (xi l 16 * xi l 17)) != 0 then xi y 6 else bif turn_s11 x l == 0 then bif shift_0 (v9_c5 l y) (v9_c6 l y) false (nrm l) (nrm y) a0
   a1 tr != 0 then xi y 6 else xi x 6 else bif turn_s11 x l != 0 then xi y 6 else xi x 6
noncomputable def turn_30 (x : List GC) (l : List GC) (y : List GC) (a0 : Int) (a1 : Int) (tr : Bool) : Int := bif (v9_c0 l y x) == 2 then bif turn_s8 x l y == 0 then bif shift_0 (v9_c3 l y x) (v9_c4 l y x) true (nrm l) (nrm y) a0 a1 tr != 0 then xi y 7 else xi x 7 else bif turn_s8 x l y != 0 then xi y 7
   else xi x 7 else bif oends_4 (flat_0 (xi l 8) (xi y 2) (xi y 3) (xi y 4)) (flat_1 (xi l 8) (xi y 2) (xi y 3) (xi y 4)) (flat_0 (xi l 8) (xi y 5) (xi y 6) (xi y 7)) (flat_1 (xi l 8) (xi y 5) (xi y 6)
   (xi y 7)) (turn_s0 l y) (turn_s1 l y) (turn_s2 y) (IntKind.i64.wrap (xi l 16 * xi l 17)) != 0 then xi y 7 else bif turn_s11 x l == 0 then bif shift_0 (v9_c5 l y) (v9_c6 l y) false (nrm l) (nrm y) a0
   a1 tr != 0 then xi y 7 else xi x 7 else bif turn_s11 x l != 0 then xi y 7 else xi x 7
noncomputable def turn_31 (x : List GC) (l : List GC) (y : List GC) (a0 : Int) (a1 : Int) (tr : Bool) : Int := bif (v9_c0 l y x) == 2 then bif turn_s8 x l y == 0 then bif shift_0 (v9_c3 l y x) (v9_c4 l y x) true (nrm l) (nrm y) a0 a1 tr != 0 then xi y 8 else xi x 8 else bif turn_s8 x l y != 0 then xi y 8
   else xi x 8 else bif oends_4 (flat_0 (xi l 8) (xi y 2) (xi y 3) (xi y 4)) (flat_1 (xi l 8) (xi y 2) (xi y 3) (xi y 4)) (flat_0 (xi l 8) (xi y 5) (xi y 6) (xi y 7)) (flat_1 (xi l 8) (xi y 5) (xi y 6)
   (xi y 7)) (turn_s0 l y) (turn_s1 l y) (turn_s2 y) (IntKind.i64.wrap (xi l 16 * xi l 17)) != 0 then xi y 8 else bif turn_s11 x l == 0 then bif shift_0 (v9_c5 l y) (v9_c6 l y) false (nrm l) (nrm y) a0
   a1 tr != 0 then xi y 8 else xi x 8 else bif turn_s11 x l != 0 then xi y 8 else xi x 8
noncomputable def turn_32 (x : List GC) (l : List GC) (y : List GC) (a0 : Int) (a1 : Int) (tr : Bool) : Int := bif (v9_c0 l y x) == 2 then bif turn_s8 x l y == 0 then bif shift_0 (v9_c3 l y x) (v9_c4 l y x) true (nrm l) (nrm y) a0 a1 tr != 0 then xi y 9 else xi x 9 else bif turn_s8 x l y != 0 then xi y 9
   else xi x 9 else bif oends_4 (flat_0 (xi l 8) (xi y 2) (xi y 3) (xi y 4)) (flat_1 (xi l 8) (xi y 2) (xi y 3) (xi y 4)) (flat_0 (xi l 8) (xi y 5) (xi y 6) (xi y 7)) (flat_1 (xi l 8) (xi y 5) (xi y 6)
   (xi y 7)) (turn_s0 l y) (turn_s1 l y) (turn_s2 y) (IntKind.i64.wrap (xi l 16 * xi l 17)) != 0 then xi y 9 else bif turn_s11 x l == 0 then bif shift_0 (v9_c5 l y) (v9_c6 l y) false (nrm l) (nrm y) a0
   a1 tr != 0 then xi y 9 else xi x 9 else bif turn_s11 x l != 0 then xi y 9 else xi x 9
noncomputable def turn_33 (x : List GC) (l : List GC) (y : List GC) (a0 : Int) (a1 : Int) (tr : Bool) : Int := bif (v9_c0 l y x) == 2 then bif turn_s8 x l y == 0 then bif shift_0 (v9_c3 l y x) (v9_c4 l y x) true (nrm l) (nrm y) a0 a1 tr != 0 then xi y 10 else xi x 10 else bif turn_s8 x l y != 0 then xi y 10
   else xi x 10 else bif oends_4 (flat_0 (xi l 8) (xi y 2) (xi y 3) (xi y 4)) (flat_1 (xi l 8) (xi y 2) (xi y 3) (xi y 4)) (flat_0 (xi l 8) (xi y 5) (xi y 6) (xi y 7)) (flat_1 (xi l 8) (xi y 5) (xi y 6)
   (xi y 7)) (turn_s0 l y) (turn_s1 l y) (turn_s2 y) (IntKind.i64.wrap (xi l 16 * xi l 17)) != 0 then xi y 10 else bif turn_s11 x l == 0 then bif shift_0 (v9_c5 l y) (v9_c6 l y) false (nrm l) (nrm y) a0
   a1 tr != 0 then xi y 10 else xi x 10 else bif turn_s11 x l != 0 then xi y 10 else xi x 10
noncomputable def turn_34 (x : List GC) (l : List GC) (y : List GC) (a0 : Int) (a1 : Int) (tr : Bool) : Int := bif (v9_c0 l y x) == 2 then bif turn_s8 x l y == 0 then bif shift_0 (v9_c3 l y x) (v9_c4 l y x) true (nrm l) (nrm y) a0 a1 tr != 0 then xi y 11 else xi x 11 else bif turn_s8 x l y != 0 then xi y 11
   else xi x 11 else bif oends_4 (flat_0 (xi l 8) (xi y 2) (xi y 3) (xi y 4)) (flat_1 (xi l 8) (xi y 2) (xi y 3) (xi y 4)) (flat_0 (xi l 8) (xi y 5) (xi y 6) (xi y 7)) (flat_1 (xi l 8) (xi y 5) (xi y 6)
   (xi y 7)) (turn_s0 l y) (turn_s1 l y) (turn_s2 y) (IntKind.i64.wrap (xi l 16 * xi l 17)) != 0 then xi y 11 else bif turn_s11 x l == 0 then bif shift_0 (v9_c5 l y) (v9_c6 l y) false (nrm l) (nrm y) a0
   a1 tr != 0 then xi y 11 else xi x 11 else bif turn_s11 x l != 0 then xi y 11 else xi x 11
noncomputable def turn_35 (x : List GC) (l : List GC) (y : List GC) (a0 : Int) (a1 : Int) (tr : Bool) : Int := bif (v9_c0 l y x) == 2 then bif turn_s8 x l y == 0 then bif shift_0 (v9_c3 l y x) (v9_c4 l y x) true (nrm l) (nrm y) a0 a1 tr != 0 then xi y 12 else xi x 12 else bif turn_s8 x l y != 0 then xi y 12
   else xi x 12 else bif oends_4 (flat_0 (xi l 8) (xi y 2) (xi y 3) (xi y 4)) (flat_1 (xi l 8) (xi y 2) (xi y 3) (xi y 4)) (flat_0 (xi l 8) (xi y 5) (xi y 6) (xi y 7)) (flat_1 (xi l 8) (xi y 5) (xi y 6)
   (xi y 7)) (turn_s0 l y) (turn_s1 l y) (turn_s2 y) (IntKind.i64.wrap (xi l 16 * xi l 17)) != 0 then xi y 12 else bif turn_s11 x l == 0 then bif shift_0 (v9_c5 l y) (v9_c6 l y) false (nrm l) (nrm y) a0
   a1 tr != 0 then xi y 12 else xi x 12 else bif turn_s11 x l != 0 then xi y 12 else xi x 12
noncomputable def turn_36 (x : List GC) (l : List GC) (y : List GC) (a0 : Int) (a1 : Int) (tr : Bool) : Bool := bif (v9_c0 l y x) == 2 then bif turn_s8 x l y == 0 then bif shift_0 (v9_c3 l y x) (v9_c4 l y x) true (nrm l) (nrm y) a0 a1 tr != 0 then xb y 13 else xb x 13 else bif turn_s8 x l y != 0 then xb y 13
   else xb x 13 else bif oends_4 (flat_0 (xi l 8) (xi y 2) (xi y 3) (xi y 4)) (flat_1 (xi l 8) (xi y 2) (xi y 3) (xi y 4)) (flat_0 (xi l 8) (xi y 5) (xi y 6) (xi y 7)) (flat_1 (xi l 8) (xi y 5) (xi y 6)
   (xi y 7)) (turn_s0 l y) (turn_s1 l y) (turn_s2 y) (IntKind.i64.wrap (xi l 16 * xi l 17)) != 0 then xb y 13 else bif turn_s11 x l == 0 then bif shift_0 (v9_c5 l y) (v9_c6 l y) false (nrm l) (nrm y) a0
   a1 tr != 0 then xb y 13 else xb x 13 else bif turn_s11 x l != 0 then xb y 13 else xb x 13
noncomputable def turn_37 (x : List GC) (l : List GC) (y : List GC) (a0 : Int) (a1 : Int) (tr : Bool) : Int := bif (v9_c0 l y x) == 2 then bif turn_s8 x l y == 0 then bif shift_0 (v9_c3 l y x) (v9_c4 l y x) true (nrm l) (nrm y) a0 a1 tr != 0 then xi y 14 else xi x 14 else bif turn_s8 x l y != 0 then xi y 14
   else xi x 14 else bif oends_4 (flat_0 (xi l 8) (xi y 2) (xi y 3) (xi y 4)) (flat_1 (xi l 8) (xi y 2) (xi y 3) (xi y 4)) (flat_0 (xi l 8) (xi y 5) (xi y 6) (xi y 7)) (flat_1 (xi l 8) (xi y 5) (xi y 6)
   (xi y 7)) (turn_s0 l y) (turn_s1 l y) (turn_s2 y) (IntKind.i64.wrap (xi l 16 * xi l 17)) != 0 then xi y 14 else bif turn_s11 x l == 0 then bif shift_0 (v9_c5 l y) (v9_c6 l y) false (nrm l) (nrm y) a0
   a1 tr != 0 then xi y 14 else xi x 14 else bif turn_s11 x l != 0 then xi y 14 else xi x 14
noncomputable def turn_38 (x : List GC) (l : List GC) (y : List GC) (a0 : Int) (a1 : Int) (tr : Bool) : Bool := bif (v9_c0 l y x) == 2 then bif turn_s8 x l y == 0 then bif shift_0 (v9_c3 l y x) (v9_c4 l y x) true (nrm l) (nrm y) a0 a1 tr != 0 then xb y 15 else xb x 15 else bif turn_s8 x l y != 0 then xb y 15
   else xb x 15 else bif oends_4 (flat_0 (xi l 8) (xi y 2) (xi y 3) (xi y 4)) (flat_1 (xi l 8) (xi y 2) (xi y 3) (xi y 4)) (flat_0 (xi l 8) (xi y 5) (xi y 6) (xi y 7)) (flat_1 (xi l 8) (xi y 5) (xi y 6)
   (xi y 7)) (turn_s0 l y) (turn_s1 l y) (turn_s2 y) (IntKind.i64.wrap (xi l 16 * xi l 17)) != 0 then xb y 15 else bif turn_s11 x l == 0 then bif shift_0 (v9_c5 l y) (v9_c6 l y) false (nrm l) (nrm y) a0
   a1 tr != 0 then xb y 15 else xb x 15 else bif turn_s11 x l != 0 then xb y 15 else xb x 15
noncomputable def turn_39 (x : List GC) (l : List GC) (y : List GC) (a0 : Int) (a1 : Int) (tr : Bool) : Int := bif (v9_c0 l y x) == 2 then bif turn_s8 x l y == 0 then bif shift_0 (v9_c3 l y x) (v9_c4 l y x) true (nrm l) (nrm y) a0 a1 tr != 0 then xi y 16 else xi x 16 else bif turn_s8 x l y != 0 then xi y 16
   else xi x 16 else bif oends_4 (flat_0 (xi l 8) (xi y 2) (xi y 3) (xi y 4)) (flat_1 (xi l 8) (xi y 2) (xi y 3) (xi y 4)) (flat_0 (xi l 8) (xi y 5) (xi y 6) (xi y 7)) (flat_1 (xi l 8) (xi y 5) (xi y 6)
   (xi y 7)) (turn_s0 l y) (turn_s1 l y) (turn_s2 y) (IntKind.i64.wrap (xi l 16 * xi l 17)) != 0 then xi y 16 else bif turn_s11 x l == 0 then bif shift_0 (v9_c5 l y) (v9_c6 l y) false (nrm l) (nrm y) a0
   a1 tr != 0 then xi y 16 else xi x 16 else bif turn_s11 x l != 0 then xi y 16 else xi x 16
noncomputable def turn_40 (x : List GC) (l : List GC) (y : List GC) (a0 : Int) (a1 : Int) (tr : Bool) : Int := bif (v9_c0 l y x) == 2 then bif turn_s8 x l y == 0 then bif shift_0 (v9_c3 l y x) (v9_c4 l y x) true (nrm l) (nrm y) a0 a1 tr != 0 then xi y 17 else xi x 17 else bif turn_s8 x l y != 0 then xi y 17
   else xi x 17 else bif oends_4 (flat_0 (xi l 8) (xi y 2) (xi y 3) (xi y 4)) (flat_1 (xi l 8) (xi y 2) (xi y 3) (xi y 4)) (flat_0 (xi l 8) (xi y 5) (xi y 6) (xi y 7)) (flat_1 (xi l 8) (xi y 5) (xi y 6)
   (xi y 7)) (turn_s0 l y) (turn_s1 l y) (turn_s2 y) (IntKind.i64.wrap (xi l 16 * xi l 17)) != 0 then xi y 17 else bif turn_s11 x l == 0 then bif shift_0 (v9_c5 l y) (v9_c6 l y) false (nrm l) (nrm y) a0
   a1 tr != 0 then xi y 17 else xi x 17 else bif turn_s11 x l != 0 then xi y 17 else xi x 17
noncomputable def turn_41 (x : List GC) (l : List GC) (y : List GC) (a0 : Int) (a1 : Int) (tr : Bool) : Int := bif (v9_c0 l y x) == 2 then bif turn_s8 x l y == 0 then bif shift_0 (v9_c3 l y x) (v9_c4 l y x) true (nrm l) (nrm y) a0 a1 tr != 0 then xi y 18 else xi x 18 else bif turn_s8 x l y != 0 then xi y 18
   else xi x 18 else bif oends_4 (flat_0 (xi l 8) (xi y 2) (xi y 3) (xi y 4)) (flat_1 (xi l 8) (xi y 2) (xi y 3) (xi y 4)) (flat_0 (xi l 8) (xi y 5) (xi y 6) (xi y 7)) (flat_1 (xi l 8) (xi y 5) (xi y 6)
   (xi y 7)) (turn_s0 l y) (turn_s1 l y) (turn_s2 y) (IntKind.i64.wrap (xi l 16 * xi l 17)) != 0 then xi y 18 else bif turn_s11 x l == 0 then bif shift_0 (v9_c5 l y) (v9_c6 l y) false (nrm l) (nrm y) a0
   a1 tr != 0 then xi y 18 else xi x 18 else bif turn_s11 x l != 0 then xi y 18 else xi x 18
noncomputable def turn_42 (x : List GC) (l : List GC) (y : List GC) (a0 : Int) (a1 : Int) (tr : Bool) : Int := bif (v9_c0 l y x) == 2 then bif turn_s8 x l y == 0 then bif shift_0 (v9_c3 l y x) (v9_c4 l y x) true (nrm l) (nrm y) a0 a1 tr != 0 then xi y 19 else xi x 19 else bif turn_s8 x l y != 0 then xi y 19
   else xi x 19 else bif oends_4 (flat_0 (xi l 8) (xi y 2) (xi y 3) (xi y 4)) (flat_1 (xi l 8) (xi y 2) (xi y 3) (xi y 4)) (flat_0 (xi l 8) (xi y 5) (xi y 6) (xi y 7)) (flat_1 (xi l 8) (xi y 5) (xi y 6)
   (xi y 7)) (turn_s0 l y) (turn_s1 l y) (turn_s2 y) (IntKind.i64.wrap (xi l 16 * xi l 17)) != 0 then xi y 19 else bif turn_s11 x l == 0 then bif shift_0 (v9_c5 l y) (v9_c6 l y) false (nrm l) (nrm y) a0
   a1 tr != 0 then xi y 19 else xi x 19 else bif turn_s11 x l != 0 then xi y 19 else xi x 19
noncomputable def turn_43 (x : List GC) (l : List GC) (y : List GC) (a0 : Int) (a1 : Int) (tr : Bool) : Int := bif (v9_c0 l y x) == 2 then bif turn_s8 x l y == 0 then bif shift_0 (v9_c3 l y x) (v9_c4 l y x) true (nrm l) (nrm y) a0 a1 tr != 0 then xi y 20 else xi x 20 else bif turn_s8 x l y != 0 then xi y 20
   else xi x 20 else bif oends_4 (flat_0 (xi l 8) (xi y 2) (xi y 3) (xi y 4)) (flat_1 (xi l 8) (xi y 2) (xi y 3) (xi y 4)) (flat_0 (xi l 8) (xi y 5) (xi y 6) (xi y 7)) (flat_1 (xi l 8) (xi y 5) (xi y 6)
   (xi y 7)) (turn_s0 l y) (turn_s1 l y) (turn_s2 y) (IntKind.i64.wrap (xi l 16 * xi l 17)) != 0 then xi y 20 else bif turn_s11 x l == 0 then bif shift_0 (v9_c5 l y) (v9_c6 l y) false (nrm l) (nrm y) a0
   a1 tr != 0 then xi y 20 else xi x 20 else bif turn_s11 x l != 0 then xi y 20 else xi x 20
noncomputable def turn_44 (x : List GC) (l : List GC) (y : List GC) (a0 : Int) (a1 : Int) (tr : Bool) : Bool := bif (v9_c0 l y x) == 2 then bif turn_s8 x l y == 0 then bif shift_0 (v9_c3 l y x) (v9_c4 l y x) true (nrm l) (nrm y) a0 a1 tr != 0 then xb y 21 else xb x 21 else bif turn_s8 x l y != 0 then xb y 21
   else xb x 21 else bif oends_4 (flat_0 (xi l 8) (xi y 2) (xi y 3) (xi y 4)) (flat_1 (xi l 8) (xi y 2) (xi y 3) (xi y 4)) (flat_0 (xi l 8) (xi y 5) (xi y 6) (xi y 7)) (flat_1 (xi l 8) (xi y 5) (xi y 6)
   (xi y 7)) (turn_s0 l y) (turn_s1 l y) (turn_s2 y) (IntKind.i64.wrap (xi l 16 * xi l 17)) != 0 then xb y 21 else bif turn_s11 x l == 0 then bif shift_0 (v9_c5 l y) (v9_c6 l y) false (nrm l) (nrm y) a0
   a1 tr != 0 then xb y 21 else xb x 21 else bif turn_s11 x l != 0 then xb y 21 else xb x 21
noncomputable def turn_s13 (x : List GC) (l : List GC) (y : List GC) : Int := trim_0 (flat_0 (xi l 8) (xi y 2) (xi y 3) (xi y 4)) (flat_1 (xi l 8) (xi y 2) (xi y 3) (xi y 4)) (flat_0 (xi l 8) (xi y 5) (xi y 6) (xi y 7)) (flat_1 (xi l 8) (xi y 5) (xi y 6) (xi y 7)) (turn_s0 l
   y) (turn_s1 l y) (turn_s2 y) (turn_s3 y) (flat_0 (xi l 8) (xi x 2) (xi x 3) (xi x 4)) (flat_1 (xi l 8) (xi x 2) (xi x 3) (xi x 4)) (flat_0 (xi l 8) (xi x 5) (xi x 6) (xi x 7)) (flat_1 (xi l 8) (xi x
   5) (xi x 6) (xi x 7)) (turn_s4 x l) (turn_s5 x l) (turn_s2 x) (turn_s3 x) (IntKind.i64.wrap (xi l 16 * xi l 17))
noncomputable def turn_s14 (x : List GC) (l : List GC) (y : List GC) : Int := trim_1 (flat_0 (xi l 8) (xi y 2) (xi y 3) (xi y 4)) (flat_1 (xi l 8) (xi y 2) (xi y 3) (xi y 4)) (flat_0 (xi l 8) (xi y 5) (xi y 6) (xi y 7)) (flat_1 (xi l 8) (xi y 5) (xi y 6) (xi y 7)) (turn_s0 l
   y) (turn_s1 l y) (turn_s2 y) (turn_s3 y) (flat_0 (xi l 8) (xi x 2) (xi x 3) (xi x 4)) (flat_1 (xi l 8) (xi x 2) (xi x 3) (xi x 4)) (flat_0 (xi l 8) (xi x 5) (xi x 6) (xi x 7)) (flat_1 (xi l 8) (xi x
   5) (xi x 6) (xi x 7)) (turn_s4 x l) (turn_s5 x l) (turn_s2 x) (turn_s3 x) (IntKind.i64.wrap (xi l 16 * xi l 17))
noncomputable def turn_s15 (l : List GC) (y : List GC) : Int := oends_2 (flat_0 (xi l 8) (xi y 2) (xi y 3) (xi y 4)) (flat_1 (xi l 8) (xi y 2) (xi y 3) (xi y 4)) (flat_0 (xi l 8) (xi y 5) (xi y 6) (xi y 7)) (flat_1 (xi l 8) (xi y 5) (xi y 6) (xi y 7)) (turn_s0 l
   y) (turn_s1 l y) (turn_s2 y) (IntKind.i64.wrap (xi l 16 * xi l 17))
noncomputable def turn_s16 (l : List GC) (y : List GC) : Int := oends_3 (flat_0 (xi l 8) (xi y 2) (xi y 3) (xi y 4)) (flat_1 (xi l 8) (xi y 2) (xi y 3) (xi y 4)) (flat_0 (xi l 8) (xi y 5) (xi y 6) (xi y 7)) (flat_1 (xi l 8) (xi y 5) (xi y 6) (xi y 7)) (turn_s0 l
   y) (turn_s1 l y) (turn_s2 y) (IntKind.i64.wrap (xi l 16 * xi l 17))
noncomputable def turn_s17 (x : List GC) (l : List GC) : Int := oends_0 (flat_0 (xi l 8) (xi x 2) (xi x 3) (xi x 4)) (flat_1 (xi l 8) (xi x 2) (xi x 3) (xi x 4)) (flat_0 (xi l 8) (xi x 5) (xi x 6) (xi x 7)) (flat_1 (xi l 8) (xi x 5) (xi x 6) (xi x 7)) (turn_s4 x
   l) (turn_s5 x l) (turn_s2 x) (IntKind.i64.wrap (xi l 16 * xi l 17))
noncomputable def turn_45 (x : List GC) (l : List GC) (y : List GC) (a0 : Int) (a1 : Int) (tr : Bool) : Int := bif (v9_c0 l y x) == 2 then bif turn_s8 x l y == 0 then bif shift_0 (turn_s13 x l y) (turn_s14 x l y) true (nrm l) (nrm y) a0 a1 tr != 0 then shift_45 (turn_s13 x l y) (turn_s14 x l y) true (nrm l)
   (nrm y) a0 a1 tr else shift_45 (turn_s13 x l y) (turn_s14 x l y) true (nrm l) (nrm y) a0 a1 tr else bif turn_s8 x l y != 0 then a0 else a0 else bif oends_4 (flat_0 (xi l 8) (xi y 2) (xi y 3) (xi y
   4)) (flat_1 (xi l 8) (xi y 2) (xi y 3) (xi y 4)) (flat_0 (xi l 8) (xi y 5) (xi y 6) (xi y 7)) (flat_1 (xi l 8) (xi y 5) (xi y 6) (xi y 7)) (turn_s0 l y) (turn_s1 l y) (turn_s2 y) (IntKind.i64.wrap
   (xi l 16 * xi l 17)) != 0 then a0 else bif turn_s11 x l == 0 then bif shift_0 (turn_s15 l y) (turn_s16 l y) false (nrm l) (nrm y) a0 a1 tr != 0 then shift_45 (turn_s15 l y) (turn_s16 l y) false (nrm
   l) (nrm y) a0 a1 tr else turn_s17 x l else bif turn_s11 x l != 0 then a0 else turn_s17 x l
noncomputable def turn_s18 (x : List GC) (l : List GC) : Int := oends_1 (flat_0 (xi l 8) (xi x 2) (xi x 3) (xi x 4)) (flat_1 (xi l 8) (xi x 2) (xi x 3) (xi x 4)) (flat_0 (xi l 8) (xi x 5) (xi x 6) (xi x 7)) (flat_1 (xi l 8) (xi x 5) (xi x 6) (xi x 7)) (turn_s4 x
   l) (turn_s5 x l) (turn_s2 x) (IntKind.i64.wrap (xi l 16 * xi l 17))
noncomputable def turn_46 (x : List GC) (l : List GC) (y : List GC) (a0 : Int) (a1 : Int) (tr : Bool) : Int := bif (v9_c0 l y x) == 2 then bif turn_s8 x l y == 0 then bif shift_0 (turn_s13 x l y) (turn_s14 x l y) true (nrm l) (nrm y) a0 a1 tr != 0 then shift_46 (turn_s13 x l y) (turn_s14 x l y) true (nrm l)
   (nrm y) a0 a1 tr else shift_46 (turn_s13 x l y) (turn_s14 x l y) true (nrm l) (nrm y) a0 a1 tr else bif turn_s8 x l y != 0 then a1 else a1 else bif oends_4 (flat_0 (xi l 8) (xi y 2) (xi y 3) (xi y
   4)) (flat_1 (xi l 8) (xi y 2) (xi y 3) (xi y 4)) (flat_0 (xi l 8) (xi y 5) (xi y 6) (xi y 7)) (flat_1 (xi l 8) (xi y 5) (xi y 6) (xi y 7)) (turn_s0 l y) (turn_s1 l y) (turn_s2 y) (IntKind.i64.wrap
   (xi l 16 * xi l 17)) != 0 then a1 else bif turn_s11 x l == 0 then bif shift_0 (turn_s15 l y) (turn_s16 l y) false (nrm l) (nrm y) a0 a1 tr != 0 then shift_46 (turn_s15 l y) (turn_s16 l y) false (nrm
   l) (nrm y) a0 a1 tr else turn_s18 x l else bif turn_s11 x l != 0 then a1 else turn_s18 x l
noncomputable def turn_47 (x : List GC) (l : List GC) (y : List GC) (a0 : Int) (a1 : Int) (tr : Bool) : Bool := bif (v9_c0 l y x) == 2 then bif turn_s8 x l y == 0 then bif shift_0 (v9_c3 l y x) (v9_c4 l y x) true (nrm l) (nrm y) a0 a1 tr != 0 then tr else true else bif turn_s8 x l y != 0 then tr else true
   else bif oends_4 (flat_0 (xi l 8) (xi y 2) (xi y 3) (xi y 4)) (flat_1 (xi l 8) (xi y 2) (xi y 3) (xi y 4)) (flat_0 (xi l 8) (xi y 5) (xi y 6) (xi y 7)) (flat_1 (xi l 8) (xi y 5) (xi y 6) (xi y 7))
   (turn_s0 l y) (turn_s1 l y) (turn_s2 y) (IntKind.i64.wrap (xi l 16 * xi l 17)) != 0 then tr else bif turn_s11 x l == 0 then shift_0 (v9_c5 l y) (v9_c6 l y) false (nrm l) (nrm y) a0 a1 tr != 0 && tr
   else turn_s11 x l != 0 && tr
noncomputable def turn_s19 (x : List GC) (l : List GC) (y : List GC) (a0 : Int) (a1 : Int) (tr : Bool) (O : List (List Int)) : List (List Int) := shift_47 (turn_s13 x l y) (turn_s14 x l y) true (nrm l) (nrm y) a0 a1 tr O
noncomputable def turn_48 (x : List GC) (l : List GC) (y : List GC) (a0 : Int) (a1 : Int) (tr : Bool) (C : List (List Int)) (O : List (List Int)) : List (List Int) := bif (v9_c0 l y x) == 2 then bif turn_s8 x l y == 0 then bif shift_0 (turn_s13 x l y) (turn_s14 x l y) true (nrm l) (nrm y) a0 a1 tr != 0 then turn_s19 x l y a0 a1 tr O else release_44 (nrm l)
   (shift_45 (turn_s13 x l y) (turn_s14 x l y) true (nrm l) (nrm y) a0 a1 tr) (shift_46 (turn_s13 x l y) (turn_s14 x l y) true (nrm l) (nrm y) a0 a1 tr) C (turn_s19 x l y a0 a1 tr O) else bif turn_s8 x
   l y != 0 then O else release_44 (nrm l) a0 a1 C O else bif oends_4 (flat_0 (xi l 8) (xi y 2) (xi y 3) (xi y 4)) (flat_1 (xi l 8) (xi y 2) (xi y 3) (xi y 4)) (flat_0 (xi l 8) (xi y 5) (xi y 6) (xi y
   7)) (flat_1 (xi l 8) (xi y 5) (xi y 6) (xi y 7)) (turn_s0 l y) (turn_s1 l y) (turn_s2 y) (IntKind.i64.wrap (xi l 16 * xi l 17)) != 0 then O else bif turn_s11 x l == 0 then bif shift_0 (turn_s15 l y)
   (turn_s16 l y) false (nrm l) (nrm y) a0 a1 tr != 0 then shift_47 (turn_s15 l y) (turn_s16 l y) false (nrm l) (nrm y) a0 a1 tr O else join_46 (nrm x) (oends_0 (flat_0 (xi l 8) (xi x 2) (xi x 3) (xi x
   4)) (flat_1 (xi l 8) (xi x 2) (xi x 3) (xi x 4)) (flat_0 (xi l 8) (xi x 5) (xi x 6) (xi x 7)) (flat_1 (xi l 8) (xi x 5) (xi x 6) (xi x 7)) (turn_s4 x l) (turn_s5 x l) (turn_s2 x) (IntKind.i64.wrap
   (xi l 16 * xi l 17))) (oends_1 (flat_0 (xi l 8) (xi x 2) (xi x 3) (xi x 4)) (flat_1 (xi l 8) (xi x 2) (xi x 3) (xi x 4)) (flat_0 (xi l 8) (xi x 5) (xi x 6) (xi x 7)) (flat_1 (xi l 8) (xi x 5) (xi x
   6) (xi x 7)) (turn_s4 x l) (turn_s5 x l) (turn_s2 x) (IntKind.i64.wrap (xi l 16 * xi l 17))) ((v9_c0 l y x) == 1) (nrm l) (shift_45 (turn_s15 l y) (turn_s16 l y) false (nrm l) (nrm y) a0 a1 tr)
   (shift_46 (turn_s15 l y) (turn_s16 l y) false (nrm l) (nrm y) a0 a1 tr) (release_44 (nrm l) (shift_45 (turn_s15 l y) (turn_s16 l y) false (nrm l) (nrm y) a0 a1 tr) (shift_46 (turn_s15 l y) (turn_s16
   l y) false (nrm l) (nrm y) a0 a1 tr) C (shift_47 (turn_s15 l y) (turn_s16 l y) false (nrm l) (nrm y) a0 a1 tr O)) else bif turn_s11 x l != 0 then O else join_46 (nrm x) (oends_0 (flat_0 (xi l 8) (xi
   x 2) (xi x 3) (xi x 4)) (flat_1 (xi l 8) (xi x 2) (xi x 3) (xi x 4)) (flat_0 (xi l 8) (xi x 5) (xi x 6) (xi x 7)) (flat_1 (xi l 8) (xi x 5) (xi x 6) (xi x 7)) (turn_s4 x l) (turn_s5 x l) (turn_s2 x)
   (IntKind.i64.wrap (xi l 16 * xi l 17))) (oends_1 (flat_0 (xi l 8) (xi x 2) (xi x 3) (xi x 4)) (flat_1 (xi l 8) (xi x 2) (xi x 3) (xi x 4)) (flat_0 (xi l 8) (xi x 5) (xi x 6) (xi x 7)) (flat_1 (xi l
   8) (xi x 5) (xi x 6) (xi x 7)) (turn_s4 x l) (turn_s5 x l) (turn_s2 x) (IntKind.i64.wrap (xi l 16 * xi l 17))) ((v9_c0 l y x) == 1) (nrm l) a0 a1 (release_44 (nrm l) a0 a1 C O)
noncomputable def turn_49 (x : List GC) (l : List GC) (y : List GC) (a0 : Int) (a1 : Int) (tr : Bool) (C : List (List Int)) : List (List Int) := bif (v9_c0 l y x) == 2 then bif turn_s8 x l y == 0 then bif shift_0 (v9_c3 l y x) (v9_c4 l y x) true (nrm l) (nrm y) a0 a1 tr != 0 then C else [] else bif turn_s8 x l y != 0 then C else [] else bif
   oends_4 (flat_0 (xi l 8) (xi y 2) (xi y 3) (xi y 4)) (flat_1 (xi l 8) (xi y 2) (xi y 3) (xi y 4)) (flat_0 (xi l 8) (xi y 5) (xi y 6) (xi y 7)) (flat_1 (xi l 8) (xi y 5) (xi y 6) (xi y 7)) (turn_s0 l
   y) (turn_s1 l y) (turn_s2 y) (IntKind.i64.wrap (xi l 16 * xi l 17)) != 0 then C else bif turn_s11 x l == 0 then bif shift_0 (v9_c5 l y) (v9_c6 l y) false (nrm l) (nrm y) a0 a1 tr != 0 then C else []
   else bif turn_s11 x l != 0 then C else []
noncomputable def turn_needs (x : List GC) (l : List GC) (y : List GC) (a0 : Int) (a1 : Int) (tr : Bool) (C : List (List Int)) (O : List (List Int)) : List Prop := [((v9_c0 l y x) == 2) = true → ((turn_s8 x l y == 0) = true → O.length ≤ 1000000) ∧ ((turn_s8 x l y == 0) = true → (shift_0 (turn_s13 x l y) (turn_s14 x l y) true (nrm l) (nrm y) a0 a1 tr != 0) =
   false → C.length ≤ 1000 ∧ (shift_47 (turn_s13 x l y) (turn_s14 x l y) true (nrm l) (nrm y) a0 a1 tr O).length ≤ 900000) ∧ ((turn_s8 x l y == 0) = false → (turn_s8 x l y != 0) = false → C.length ≤
   1000 ∧ O.length ≤ 900000), ((v9_c0 l y x) == 2) = false → (oends_4 (flat_0 (xi l 8) (xi y 2) (xi y 3) (xi y 4)) (flat_1 (xi l 8) (xi y 2) (xi y 3) (xi y 4)) (flat_0 (xi l 8) (xi y 5) (xi y 6) (xi y
   7)) (flat_1 (xi l 8) (xi y 5) (xi y 6) (xi y 7)) (turn_s0 l y) (turn_s1 l y) (turn_s2 y) (IntKind.i64.wrap (xi l 16 * xi l 17)) != 0) = false → ((turn_s11 x l == 0) = true → O.length ≤ 1000000) ∧
   ((turn_s11 x l == 0) = true → (shift_0 (turn_s15 l y) (turn_s16 l y) false (nrm l) (nrm y) a0 a1 tr != 0) = false → C.length ≤ 1000 ∧ (shift_47 (turn_s15 l y) (turn_s16 l y) false (nrm l) (nrm y) a0
   a1 tr O).length ≤ 900000 ∧ (release_44 (nrm l) (shift_45 (turn_s15 l y) (turn_s16 l y) false (nrm l) (nrm y) a0 a1 tr) (shift_46 (turn_s15 l y) (turn_s16 l y) false (nrm l) (nrm y) a0 a1 tr) C
   (shift_47 (turn_s15 l y) (turn_s16 l y) false (nrm l) (nrm y) a0 a1 tr O)).length ≤ 1000000) ∧ ((turn_s11 x l == 0) = false → (turn_s11 x l != 0) = false → C.length ≤ 1000 ∧ O.length ≤ 900000 ∧
   (release_44 (nrm l) a0 a1 C O).length ≤ 1000000)]
theorem turn_weak {x : List GC} {l : List GC} {y : List GC} {a0 : Int} {a1 : Int} {tr : Bool} {C : List (List Int)} {O : List (List Int)} (hW : ∀ q ∈ ([C.length ≤ 1000, O.length ≤ 800000] : List Prop), q) : ∀ q ∈ (turn_needs x l y a0 a1 tr C O), q := by
  simp only [List.mem_cons, List.not_mem_nil, or_false, forall_eq_or_imp, forall_eq] at hW
  unfold turn_needs
  simp only [List.forall_mem_cons, List.not_mem_nil, false_implies, implies_true, and_true]
  obtain ⟨h1, h2⟩ := hW
  have s := fun u w tm => (shift_47_len u w tm (nrm l) (nrm y) a0 a1 tr O).2
  have r := fun a0 a1 O => release_len (nrm l) a0 a1 C O
  refine ⟨fun _ => ⟨fun _ => by omega, fun _ _ => ⟨h1, Nat.le_trans (s ..) (by omega)⟩, fun _ _ => ⟨h1, by omega⟩⟩, fun _ _ => ⟨fun _ => by omega, fun _ _ => ⟨h1, Nat.le_trans (s ..) (by omega), Nat.le_trans (r ..) (Nat.le_trans (Nat.add_le_add_right (s ..) _) (by omega))⟩, fun _ _ => ⟨h1, by omega, Nat.le_trans (r ..) (by omega)⟩⟩⟩
noncomputable def v9_c9 (l : List GC) (x : List GC) (y : List GC) (a0 : Int) (a1 : Int) (tr : Bool) (op : Bool) (cl : Bool) (en : Bool) (mo : Bool) (la0 : Int) (la1 : Int) (la2 : Int) (er : Int) (C : List (List Int)) (O : List (List Int)) := [(0, Obj.blk 66 [(3, SC.int IntKind.i64 (SI.v (xi l 0))), (4, SC.int IntKind.i64 (SI.v (xi l 1))), (5, SC.int IntKind.i64 (SI.v (xi l 2))), (6, SC.int IntKind.i64 (SI.v (xi l 3))), (7, SC.int
   IntKind.i64 (SI.v (xi l 4))), (8, SC.int IntKind.i64 (SI.v (xi l 5))), (9, SC.int IntKind.i64 (SI.v (xi l 6))), (10, SC.int IntKind.i64 (SI.v (xi l 7))), (11, SC.int IntKind.i64 (SI.v (xi l 8))),
   (12, SC.int IntKind.i64 (SI.v (xi l 9))), (13, SC.int IntKind.i64 (SI.v (xi l 10))), (14, SC.int IntKind.i64 (SI.v (xi l 11))), (15, SC.int IntKind.i64 (SI.v (xi l 12))), (16, SC.bool (SB.v (xb l
   13))), (17, SC.int IntKind.i64 (SI.v (xi l 14))), (18, SC.bool (SB.v (xb l 15))), (19, SC.int IntKind.i64 (SI.v (xi l 16))), (20, SC.int IntKind.i64 (SI.v (xi l 17))), (21, SC.int IntKind.i64 (SI.v
   (xi l 18))), (22, SC.int IntKind.i64 (SI.v (xi l 19))), (23, SC.int IntKind.i64 (SI.v (xi l 20))), (24, SC.bool (SB.v (xb l 21))), (66287, SC.int IntKind.i64 (SI.v (turn_23 x l y a0 a1 tr))), (66288,
   SC.int IntKind.i64 (SI.v (turn_24 x l y a0 a1 tr))), (66289, SC.int IntKind.i64 (SI.v (turn_25 x l y a0 a1 tr))), (66290, SC.int IntKind.i64 (SI.v (turn_26 x l y a0 a1 tr))), (66291, SC.int
   IntKind.i64 (SI.v (turn_27 x l y a0 a1 tr))), (66292, SC.int IntKind.i64 (SI.v (turn_28 x l y a0 a1 tr))), (66293, SC.int IntKind.i64 (SI.v (turn_29 x l y a0 a1 tr))), (66294, SC.int IntKind.i64
   (SI.v (turn_30 x l y a0 a1 tr))), (66295, SC.int IntKind.i64 (SI.v (turn_31 x l y a0 a1 tr))), (66296, SC.int IntKind.i64 (SI.v (turn_32 x l y a0 a1 tr))), (66297, SC.int IntKind.i64 (SI.v (turn_33 x
   l y a0 a1 tr))), (66298, SC.int IntKind.i64 (SI.v (turn_34 x l y a0 a1 tr))), (66299, SC.int IntKind.i64 (SI.v (turn_35 x l y a0 a1 tr))), (66300, SC.bool (SB.v (turn_36 x l y a0 a1 tr))), (66301,
   SC.int IntKind.i64 (SI.v (turn_37 x l y a0 a1 tr))), (66302, SC.bool (SB.v (turn_38 x l y a0 a1 tr))), (66303, SC.int IntKind.i64 (SI.v (turn_39 x l y a0 a1 tr))), (66304, SC.int IntKind.i64 (SI.v
   (turn_40 x l y a0 a1 tr))), (66305, SC.int IntKind.i64 (SI.v (turn_41 x l y a0 a1 tr))), (66306, SC.int IntKind.i64 (SI.v (turn_42 x l y a0 a1 tr))), (66307, SC.int IntKind.i64 (SI.v (turn_43 x l y
   a0 a1 tr))), (66308, SC.bool (SB.v (turn_44 x l y a0 a1 tr))), (66309, SC.int IntKind.i64 (SI.v (turn_45 x l y a0 a1 tr))), (66310, SC.int IntKind.i64 (SI.v (turn_46 x l y a0 a1 tr))), (66311,
   SC.bool (SB.v (turn_47 x l y a0 a1 tr))), (66281, SC.wh 66279), (51, SC.bool (SB.v op)), (52, SC.bool (SB.v cl)), (53, SC.bool (SB.v en)), (54, SC.bool (SB.v mo)), (55, SC.int IntKind.i64 (SI.v
   la0)), (56, SC.int IntKind.i64 (SI.v la1)), (57, SC.int IntKind.i64 (SI.v la2)), (66284, SC.wh 66282), (59, SC.int IntKind.i64 (SI.v er))]), (66282, Obj.row false 32 22 (RowC.lst 66286 v9_c7 (turn_48
   x l y a0 a1 tr C O))), (66279, Obj.row false 32 22 (RowC.lst 66285 v9_c7 (turn_49 x l y a0 a1 tr C)))]
set_option maxRecDepth 1000000 in
theorem turn_runs (x l y : List GC) (a0 a1 : Int) (tr op cl en mo : Bool) (la0 la1 la2 er : Int) (C O : List (List Int)) (hNeeds : ∀ pN ∈ (turn_needs x l y a0 a1 tr C O), pN) : Runs (runF (sums K_enter) L_rel 51) (turn_tpl.args (spread turn_sp [.v x, .v l, .v y, .i a0, .i a1, .b tr, .b op, .b cl, .b en, .b mo, .i la0, .i la1, .i la2, .i er])) (turn_tpl.memo (spread turn_sp [.v x, .v l, .v y, .i a0, .i a1, .b tr, .b op, .b cl, .b en, .b mo, .i la0, .i la1, .i la2, .i er]) [C, O]) turn_tpl.n (SV.one (SC.int IntKind.i64 (SI.v (turn_0 x l y a0 a1 tr)))) ((v9_c9 l x y a0 a1 tr op cl en mo la0 la1 la2 er C O)) :=
  Runs.of1 (ps := (turn_needs x l y a0 a1 tr C O)) (by kernel_rfl) hNeeds
noncomputable def turn_out : List Gm → Lss → Option CRes
  | [.v x, .v l, .v y, .i a0, .i a1, .b tr, .b op, .b cl, .b en, .b mo, .i la0, .i la1, .i la2, .i er], [C, O] => some ⟨SV.one (SC.int IntKind.i64 (SI.v (turn_0 x l y a0 a1 tr))), (v9_c9 l x y a0 a1 tr op cl en mo la0 la1 la2 er C O), [C.length ≤ 1000, O.length ≤ 800000], [], 66312⟩
  | _, _ => none
theorem turn_ok : FOk Try.prog 51 (tplG turn_sp turn_tpl turn_out) := by
  refine tplG_ok (runF_ok known_enter 51) fun ps ls r hr hn _ => ?_
  unfold turn_out at hr
  split at hr
  · cases hr; exact ⟨_, turn_runs _ _ _ _ _ _ _ _ _ _ _ _ _ _ _ _ (turn_weak (by exact hn)), fun _ => rfl⟩
  · cases hr
noncomputable def K_turn : List (Nat × Summ) := (51, tplG turn_sp turn_tpl turn_out) :: K_enter
theorem known_turn : Known Try.prog (sums K_turn) L_rel := known_cons known_enter turn_ok
noncomputable def finish_tpl : Tpl := ⟨[.one (.ptr 0 0), .agg [.int .i64, .int .i64, .int .i64, .int .i64, .int .i64, .int .i64, .int .i64, .int .i64, .int .i64, .int .i64, .int .i64, .int .i64, .int .i64, .bool, .int .i64, .bool, .int .i64, .int .i64, .int .i64, .int .i64, .int .i64, .bool]], [(0, .blk 66 [(3, .int .i64), (4, .int .i64), (5, .int .i64), (6, .int .i64), (7, .int .i64), (8, .int .i64), (9, .int .i64), (10, .int .i64), (11, .int .i64), (12, .int .i64), (13, .int .i64), (14, .int .i64), (15, .int .i64), (16, .bool), (17, .int .i64), (18, .bool), (19, .int .i64), (20, .int .i64), (21, .int .i64), (22, .int .i64), (23, .int .i64), (24, .bool), (25, .int .i64), (26, .int .i64), (27, .int .i64), (28, .int .i64), (29, .int .i64), (30, .int .i64), (31, .int .i64), (32, .int .i64), (33, .int .i64), (34, .int .i64), (35, .int .i64), (36, .int .i64), (37, .int .i64), (38, .bool), (39, .int .i64), (40, .bool), (41, .int .i64), (42, .int .i64), (43, .int .i64), (44, .int .i64), (45, .int .i64), (46, .bool), (47, .int .i64), (48, .int .i64), (49, .bool), (50, .wh 1), (51, .bool), (52, .bool), (53, .bool), (54, .bool), (55, .int .i64), (56, .int .i64), (57, .int .i64), (58, .wh 2), (59, .int .i64)]), (1, .row false 32 22 60 [.int .i64, .int .i64, .int .i64, .int .i64, .int .i64, .int .i64, .int .i64, .int .i64, .int .i64, .int .i64, .int .i64, .int .i64, .int .i64, .bool, .int .i64, .bool, .int .i64, .int .i64, .int .i64, .int .i64, .int .i64, .bool]), (2, .row false 32 22 61 [.int .i64, .int .i64, .int .i64, .int .i64, .int .i64, .int .i64, .int .i64, .int .i64, .int .i64, .int .i64, .int .i64, .int .i64, .int .i64, .bool, .int .i64, .bool, .int .i64, .int .i64, .int .i64, .int .i64, .int .i64, .bool])], 62⟩
noncomputable def finish_sp : List GK := [.v itemB, .v itemB, .v itemB, .i, .i, .b, .b, .b, .b, .b, .i, .i, .i, .i]
noncomputable def finish_s0 (l : List GC) (y : List GC) : Int := bif xi y 0 == 3 then flat_0 (xi l 8) (xi y 9) (xi y 10) (xi y 11) else 0
noncomputable def finish_s1 (l : List GC) (y : List GC) : Int := bif xi y 0 == 3 then flat_1 (xi l 8) (xi y 9) (xi y 10) (xi y 11) else 0
noncomputable def finish_s2 (y : List GC) : Int := bif xi y 0 == 3 then xi y 12 else 0
noncomputable def finish_s3 (l : List GC) (y : List GC) : Int := oends_4 (flat_0 (xi l 8) (xi y 2) (xi y 3) (xi y 4)) (flat_1 (xi l 8) (xi y 2) (xi y 3) (xi y 4)) (flat_0 (xi l 8) (xi y 5) (xi y 6) (xi y 7)) (flat_1 (xi l 8) (xi y 5) (xi y 6) (xi y 7)) (finish_s0
   l y) (finish_s1 l y) (finish_s2 y) (IntKind.i64.wrap (xi l 16 * xi l 17))
noncomputable def v9_c1 (l : List GC) (y : List GC) := oends_2 (flat_0 (xi l 8) (xi y 2) (xi y 3) (xi y 4)) (flat_1 (xi l 8) (xi y 2) (xi y 3) (xi y 4)) (flat_0 (xi l 8) (xi y 5) (xi y 6) (xi y 7)) (flat_1 (xi l 8) (xi y 5) (xi y 6) (xi y 7)) (finish_s0
   l y) (finish_s1 l y) (finish_s2 y) (IntKind.i64.wrap (xi l 16 * xi l 17))
noncomputable def v9_c2 (l : List GC) (y : List GC) := oends_3 (flat_0 (xi l 8) (xi y 2) (xi y 3) (xi y 4)) (flat_1 (xi l 8) (xi y 2) (xi y 3) (xi y 4)) (flat_0 (xi l 8) (xi y 5) (xi y 6) (xi y 7)) (flat_1 (xi l 8) (xi y 5) (xi y 6) (xi y 7)) (finish_s0
   l y) (finish_s1 l y) (finish_s2 y) (IntKind.i64.wrap (xi l 16 * xi l 17))
noncomputable def finish_s4 (l : List GC) (y : List GC) (a0 : Int) (a1 : Int) (tr : Bool) : Int := shift_0 (v9_c1 l y) (v9_c2 l y) false (nrm l) (nrm y) a0 a1 tr
noncomputable def finish_0 (x : List GC) (l : List GC) (y : List GC) (a0 : Int) (a1 : Int) (tr : Bool) : Int := bif !leads_0 (nrm x) (xi l 8) (xi l 17) || xi y 0 == 0 then 14 else bif finish_s3 l y == 0 then bif finish_s4 l y a0 a1 tr != 0 then finish_s4 l y a0 a1 tr else 0 else bif finish_s3 l y != 0 then finish_s3 l y else 0
noncomputable def finish_1 (x : List GC) (l : List GC) (y : List GC) (a0 : Int) (a1 : Int) (tr : Bool) : Int := bif !leads_0 (nrm x) (xi l 8) (xi l 17) || xi y 0 == 0 then xi l 0 else bif finish_s3 l y == 0 then bif shift_0 (v9_c1 l y) (v9_c2 l y) false (nrm l) (nrm y) a0 a1 tr != 0 then xi l 0 else 0 else
   bif finish_s3 l y != 0 then xi l 0 else 0
noncomputable def finish_2 (x : List GC) (l : List GC) (y : List GC) (a0 : Int) (a1 : Int) (tr : Bool) : Int := bif !leads_0 (nrm x) (xi l 8) (xi l 17) || xi y 0 == 0 then xi l 1 else bif finish_s3 l y == 0 then bif shift_0 (v9_c1 l y) (v9_c2 l y) false (nrm l) (nrm y) a0 a1 tr != 0 then xi l 1 else 0 else
   bif finish_s3 l y != 0 then xi l 1 else 0
noncomputable def finish_3 (x : List GC) (l : List GC) (y : List GC) (a0 : Int) (a1 : Int) (tr : Bool) : Int := bif !leads_0 (nrm x) (xi l 8) (xi l 17) || xi y 0 == 0 then xi l 2 else bif finish_s3 l y == 0 then bif shift_0 (v9_c1 l y) (v9_c2 l y) false (nrm l) (nrm y) a0 a1 tr != 0 then xi l 2 else 0 else
   bif finish_s3 l y != 0 then xi l 2 else 0
noncomputable def finish_4 (x : List GC) (l : List GC) (y : List GC) (a0 : Int) (a1 : Int) (tr : Bool) : Int := bif !leads_0 (nrm x) (xi l 8) (xi l 17) || xi y 0 == 0 then xi l 3 else bif finish_s3 l y == 0 then bif shift_0 (v9_c1 l y) (v9_c2 l y) false (nrm l) (nrm y) a0 a1 tr != 0 then xi l 3 else 0 else
   bif finish_s3 l y != 0 then xi l 3 else 0
noncomputable def finish_5 (x : List GC) (l : List GC) (y : List GC) (a0 : Int) (a1 : Int) (tr : Bool) : Int := bif !leads_0 (nrm x) (xi l 8) (xi l 17) || xi y 0 == 0 then xi l 4 else bif finish_s3 l y == 0 then bif shift_0 (v9_c1 l y) (v9_c2 l y) false (nrm l) (nrm y) a0 a1 tr != 0 then xi l 4 else 0 else
   bif finish_s3 l y != 0 then xi l 4 else 0
noncomputable def finish_6 (x : List GC) (l : List GC) (y : List GC) (a0 : Int) (a1 : Int) (tr : Bool) : Int := bif !leads_0 (nrm x) (xi l 8) (xi l 17) || xi y 0 == 0 then xi l 5 else bif finish_s3 l y == 0 then bif shift_0 (v9_c1 l y) (v9_c2 l y) false (nrm l) (nrm y) a0 a1 tr != 0 then xi l 5 else 0 else
   bif finish_s3 l y != 0 then xi l 5 else 0
noncomputable def finish_7 (x : List GC) (l : List GC) (y : List GC) (a0 : Int) (a1 : Int) (tr : Bool) : Int := bif !leads_0 (nrm x) (xi l 8) (xi l 17) || xi y 0 == 0 then xi l 6 else bif finish_s3 l y == 0 then bif shift_0 (v9_c1 l y) (v9_c2 l y) false (nrm l) (nrm y) a0 a1 tr != 0 then xi l 6 else 0 else
   bif finish_s3 l y != 0 then xi l 6 else 0
noncomputable def finish_8 (x : List GC) (l : List GC) (y : List GC) (a0 : Int) (a1 : Int) (tr : Bool) : Int := bif !leads_0 (nrm x) (xi l 8) (xi l 17) || xi y 0 == 0 then xi l 7 else bif finish_s3 l y == 0 then bif shift_0 (v9_c1 l y) (v9_c2 l y) false (nrm l) (nrm y) a0 a1 tr != 0 then xi l 7 else 0 else
   bif finish_s3 l y != 0 then xi l 7 else 0
noncomputable def finish_9 (x : List GC) (l : List GC) (y : List GC) (a0 : Int) (a1 : Int) (tr : Bool) : Int := bif !leads_0 (nrm x) (xi l 8) (xi l 17) || xi y 0 == 0 then xi l 8 else bif finish_s3 l y == 0 then bif shift_0 (v9_c1 l y) (v9_c2 l y) false (nrm l) (nrm y) a0 a1 tr != 0 then xi l 8 else 0 else
   bif finish_s3 l y != 0 then xi l 8 else 0
noncomputable def finish_10 (x : List GC) (l : List GC) (y : List GC) (a0 : Int) (a1 : Int) (tr : Bool) : Int := bif !leads_0 (nrm x) (xi l 8) (xi l 17) || xi y 0 == 0 then xi l 9 else bif finish_s3 l y == 0 then bif shift_0 (v9_c1 l y) (v9_c2 l y) false (nrm l) (nrm y) a0 a1 tr != 0 then xi l 9 else 0 else
   bif finish_s3 l y != 0 then xi l 9 else 0
noncomputable def finish_11 (x : List GC) (l : List GC) (y : List GC) (a0 : Int) (a1 : Int) (tr : Bool) : Int := bif !leads_0 (nrm x) (xi l 8) (xi l 17) || xi y 0 == 0 then xi l 10 else bif finish_s3 l y == 0 then bif shift_0 (v9_c1 l y) (v9_c2 l y) false (nrm l) (nrm y) a0 a1 tr != 0 then xi l 10 else 0 else
   bif finish_s3 l y != 0 then xi l 10 else 0
noncomputable def finish_12 (x : List GC) (l : List GC) (y : List GC) (a0 : Int) (a1 : Int) (tr : Bool) : Int := bif !leads_0 (nrm x) (xi l 8) (xi l 17) || xi y 0 == 0 then xi l 11 else bif finish_s3 l y == 0 then bif shift_0 (v9_c1 l y) (v9_c2 l y) false (nrm l) (nrm y) a0 a1 tr != 0 then xi l 11 else 0 else
   bif finish_s3 l y != 0 then xi l 11 else 0
noncomputable def finish_13 (x : List GC) (l : List GC) (y : List GC) (a0 : Int) (a1 : Int) (tr : Bool) : Int := bif !leads_0 (nrm x) (xi l 8) (xi l 17) || xi y 0 == 0 then xi l 12 else bif finish_s3 l y == 0 then bif shift_0 (v9_c1 l y) (v9_c2 l y) false (nrm l) (nrm y) a0 a1 tr != 0 then xi l 12 else 0 else
   bif finish_s3 l y != 0 then xi l 12 else 0
noncomputable def finish_14 (x : List GC) (l : List GC) (y : List GC) (a0 : Int) (a1 : Int) (tr : Bool) : Bool := bif !leads_0 (nrm x) (xi l 8) (xi l 17) || xi y 0 == 0 then xb l 13 else bif finish_s3 l y == 0 then shift_0 (v9_c1 l y) (v9_c2 l y) false (nrm l) (nrm y) a0 a1 tr != 0 && xb l 13 else finish_s3 l y != 0 && xb l 13
noncomputable def finish_15 (x : List GC) (l : List GC) (y : List GC) (a0 : Int) (a1 : Int) (tr : Bool) : Int := bif !leads_0 (nrm x) (xi l 8) (xi l 17) || xi y 0 == 0 then xi l 14 else bif finish_s3 l y == 0 then bif shift_0 (v9_c1 l y) (v9_c2 l y) false (nrm l) (nrm y) a0 a1 tr != 0 then xi l 14 else 0 else
   bif finish_s3 l y != 0 then xi l 14 else 0
noncomputable def finish_16 (x : List GC) (l : List GC) (y : List GC) (a0 : Int) (a1 : Int) (tr : Bool) : Bool := bif !leads_0 (nrm x) (xi l 8) (xi l 17) || xi y 0 == 0 then xb l 15 else bif finish_s3 l y == 0 then shift_0 (v9_c1 l y) (v9_c2 l y) false (nrm l) (nrm y) a0 a1 tr != 0 && xb l 15 else finish_s3 l y != 0 && xb l 15
noncomputable def finish_17 (x : List GC) (l : List GC) (y : List GC) (a0 : Int) (a1 : Int) (tr : Bool) : Int := bif !leads_0 (nrm x) (xi l 8) (xi l 17) || xi y 0 == 0 then xi l 16 else bif finish_s3 l y == 0 then bif shift_0 (v9_c1 l y) (v9_c2 l y) false (nrm l) (nrm y) a0 a1 tr != 0 then xi l 16 else 0 else
   bif finish_s3 l y != 0 then xi l 16 else 0
noncomputable def finish_18 (x : List GC) (l : List GC) (y : List GC) (a0 : Int) (a1 : Int) (tr : Bool) : Int := bif !leads_0 (nrm x) (xi l 8) (xi l 17) || xi y 0 == 0 then xi l 17 else bif finish_s3 l y == 0 then bif shift_0 (v9_c1 l y) (v9_c2 l y) false (nrm l) (nrm y) a0 a1 tr != 0 then xi l 17 else 0 else
   bif finish_s3 l y != 0 then xi l 17 else 0
noncomputable def finish_19 (x : List GC) (l : List GC) (y : List GC) (a0 : Int) (a1 : Int) (tr : Bool) : Int := bif !leads_0 (nrm x) (xi l 8) (xi l 17) || xi y 0 == 0 then xi l 18 else bif finish_s3 l y == 0 then bif shift_0 (v9_c1 l y) (v9_c2 l y) false (nrm l) (nrm y) a0 a1 tr != 0 then xi l 18 else 0 else
   bif finish_s3 l y != 0 then xi l 18 else 0
noncomputable def finish_20 (x : List GC) (l : List GC) (y : List GC) (a0 : Int) (a1 : Int) (tr : Bool) : Int := bif !leads_0 (nrm x) (xi l 8) (xi l 17) || xi y 0 == 0 then xi l 19 else bif finish_s3 l y == 0 then bif shift_0 (v9_c1 l y) (v9_c2 l y) false (nrm l) (nrm y) a0 a1 tr != 0 then xi l 19 else 0 else
   bif finish_s3 l y != 0 then xi l 19 else 0
noncomputable def finish_21 (x : List GC) (l : List GC) (y : List GC) (a0 : Int) (a1 : Int) (tr : Bool) : Int := bif !leads_0 (nrm x) (xi l 8) (xi l 17) || xi y 0 == 0 then xi l 20 else bif finish_s3 l y == 0 then bif shift_0 (v9_c1 l y) (v9_c2 l y) false (nrm l) (nrm y) a0 a1 tr != 0 then xi l 20 else 0 else
   bif finish_s3 l y != 0 then xi l 20 else 0
noncomputable def finish_22 (x : List GC) (l : List GC) (y : List GC) (a0 : Int) (a1 : Int) (tr : Bool) : Bool := bif !leads_0 (nrm x) (xi l 8) (xi l 17) || xi y 0 == 0 then xb l 21 else bif finish_s3 l y == 0 then shift_0 (v9_c1 l y) (v9_c2 l y) false (nrm l) (nrm y) a0 a1 tr != 0 && xb l 21 else finish_s3 l y != 0 && xb l 21
noncomputable def finish_23 (x : List GC) (l : List GC) (y : List GC) (a0 : Int) (a1 : Int) (tr : Bool) : Int := bif !leads_0 (nrm x) (xi l 8) (xi l 17) || xi y 0 == 0 then xi y 0 else bif finish_s3 l y == 0 then bif shift_0 (v9_c1 l y) (v9_c2 l y) false (nrm l) (nrm y) a0 a1 tr != 0 then xi y 0 else 0 else
   bif finish_s3 l y != 0 then xi y 0 else 0
noncomputable def finish_24 (x : List GC) (l : List GC) (y : List GC) (a0 : Int) (a1 : Int) (tr : Bool) : Int := bif !leads_0 (nrm x) (xi l 8) (xi l 17) || xi y 0 == 0 then xi y 1 else bif finish_s3 l y == 0 then bif shift_0 (v9_c1 l y) (v9_c2 l y) false (nrm l) (nrm y) a0 a1 tr != 0 then xi y 1 else 0 else
   bif finish_s3 l y != 0 then xi y 1 else 0
noncomputable def finish_25 (x : List GC) (l : List GC) (y : List GC) (a0 : Int) (a1 : Int) (tr : Bool) : Int := bif !leads_0 (nrm x) (xi l 8) (xi l 17) || xi y 0 == 0 then xi y 2 else bif finish_s3 l y == 0 then bif shift_0 (v9_c1 l y) (v9_c2 l y) false (nrm l) (nrm y) a0 a1 tr != 0 then xi y 2 else 0 else
   bif finish_s3 l y != 0 then xi y 2 else 0
noncomputable def finish_26 (x : List GC) (l : List GC) (y : List GC) (a0 : Int) (a1 : Int) (tr : Bool) : Int := bif !leads_0 (nrm x) (xi l 8) (xi l 17) || xi y 0 == 0 then xi y 3 else bif finish_s3 l y == 0 then bif shift_0 (v9_c1 l y) (v9_c2 l y) false (nrm l) (nrm y) a0 a1 tr != 0 then xi y 3 else 0 else
   bif finish_s3 l y != 0 then xi y 3 else 0
noncomputable def finish_27 (x : List GC) (l : List GC) (y : List GC) (a0 : Int) (a1 : Int) (tr : Bool) : Int := bif !leads_0 (nrm x) (xi l 8) (xi l 17) || xi y 0 == 0 then xi y 4 else bif finish_s3 l y == 0 then bif shift_0 (v9_c1 l y) (v9_c2 l y) false (nrm l) (nrm y) a0 a1 tr != 0 then xi y 4 else 0 else
   bif finish_s3 l y != 0 then xi y 4 else 0
noncomputable def finish_28 (x : List GC) (l : List GC) (y : List GC) (a0 : Int) (a1 : Int) (tr : Bool) : Int := bif !leads_0 (nrm x) (xi l 8) (xi l 17) || xi y 0 == 0 then xi y 5 else bif finish_s3 l y == 0 then bif shift_0 (v9_c1 l y) (v9_c2 l y) false (nrm l) (nrm y) a0 a1 tr != 0 then xi y 5 else 0 else
   bif finish_s3 l y != 0 then xi y 5 else 0
noncomputable def finish_29 (x : List GC) (l : List GC) (y : List GC) (a0 : Int) (a1 : Int) (tr : Bool) : Int := bif !leads_0 (nrm x) (xi l 8) (xi l 17) || xi y 0 == 0 then xi y 6 else bif finish_s3 l y == 0 then bif shift_0 (v9_c1 l y) (v9_c2 l y) false (nrm l) (nrm y) a0 a1 tr != 0 then xi y 6 else 0 else
   bif finish_s3 l y != 0 then xi y 6 else 0
noncomputable def finish_30 (x : List GC) (l : List GC) (y : List GC) (a0 : Int) (a1 : Int) (tr : Bool) : Int := bif !leads_0 (nrm x) (xi l 8) (xi l 17) || xi y 0 == 0 then xi y 7 else bif finish_s3 l y == 0 then bif shift_0 (v9_c1 l y) (v9_c2 l y) false (nrm l) (nrm y) a0 a1 tr != 0 then xi y 7 else 0 else
   bif finish_s3 l y != 0 then xi y 7 else 0
noncomputable def finish_31 (x : List GC) (l : List GC) (y : List GC) (a0 : Int) (a1 : Int) (tr : Bool) : Int := bif !leads_0 (nrm x) (xi l 8) (xi l 17) || xi y 0 == 0 then xi y 8 else bif finish_s3 l y == 0 then bif shift_0 (v9_c1 l y) (v9_c2 l y) false (nrm l) (nrm y) a0 a1 tr != 0 then xi y 8 else 0 else
   bif finish_s3 l y != 0 then xi y 8 else 0
noncomputable def finish_32 (x : List GC) (l : List GC) (y : List GC) (a0 : Int) (a1 : Int) (tr : Bool) : Int := bif !leads_0 (nrm x) (xi l 8) (xi l 17) || xi y 0 == 0 then xi y 9 else bif finish_s3 l y == 0 then bif shift_0 (v9_c1 l y) (v9_c2 l y) false (nrm l) (nrm y) a0 a1 tr != 0 then xi y 9 else 0 else
   bif finish_s3 l y != 0 then xi y 9 else 0
noncomputable def finish_33 (x : List GC) (l : List GC) (y : List GC) (a0 : Int) (a1 : Int) (tr : Bool) : Int := bif !leads_0 (nrm x) (xi l 8) (xi l 17) || xi y 0 == 0 then xi y 10 else bif finish_s3 l y == 0 then bif shift_0 (v9_c1 l y) (v9_c2 l y) false (nrm l) (nrm y) a0 a1 tr != 0 then xi y 10 else 0 else
   bif finish_s3 l y != 0 then xi y 10 else 0
noncomputable def finish_34 (x : List GC) (l : List GC) (y : List GC) (a0 : Int) (a1 : Int) (tr : Bool) : Int := bif !leads_0 (nrm x) (xi l 8) (xi l 17) || xi y 0 == 0 then xi y 11 else bif finish_s3 l y == 0 then bif shift_0 (v9_c1 l y) (v9_c2 l y) false (nrm l) (nrm y) a0 a1 tr != 0 then xi y 11 else 0 else
   bif finish_s3 l y != 0 then xi y 11 else 0
noncomputable def finish_35 (x : List GC) (l : List GC) (y : List GC) (a0 : Int) (a1 : Int) (tr : Bool) : Int := bif !leads_0 (nrm x) (xi l 8) (xi l 17) || xi y 0 == 0 then xi y 12 else bif finish_s3 l y == 0 then bif shift_0 (v9_c1 l y) (v9_c2 l y) false (nrm l) (nrm y) a0 a1 tr != 0 then xi y 12 else 0 else
   bif finish_s3 l y != 0 then xi y 12 else 0
noncomputable def finish_36 (x : List GC) (l : List GC) (y : List GC) (a0 : Int) (a1 : Int) (tr : Bool) : Bool := bif !leads_0 (nrm x) (xi l 8) (xi l 17) || xi y 0 == 0 then xb y 13 else bif finish_s3 l y == 0 then shift_0 (v9_c1 l y) (v9_c2 l y) false (nrm l) (nrm y) a0 a1 tr != 0 && xb y 13 else finish_s3 l y != 0 && xb y 13
noncomputable def finish_37 (x : List GC) (l : List GC) (y : List GC) (a0 : Int) (a1 : Int) (tr : Bool) : Int := bif !leads_0 (nrm x) (xi l 8) (xi l 17) || xi y 0 == 0 then xi y 14 else bif finish_s3 l y == 0 then bif shift_0 (v9_c1 l y) (v9_c2 l y) false (nrm l) (nrm y) a0 a1 tr != 0 then xi y 14 else 0 else
   bif finish_s3 l y != 0 then xi y 14 else 0
noncomputable def finish_38 (x : List GC) (l : List GC) (y : List GC) (a0 : Int) (a1 : Int) (tr : Bool) : Bool := bif !leads_0 (nrm x) (xi l 8) (xi l 17) || xi y 0 == 0 then xb y 15 else bif finish_s3 l y == 0 then shift_0 (v9_c1 l y) (v9_c2 l y) false (nrm l) (nrm y) a0 a1 tr != 0 && xb y 15 else finish_s3 l y != 0 && xb y 15
noncomputable def finish_39 (x : List GC) (l : List GC) (y : List GC) (a0 : Int) (a1 : Int) (tr : Bool) : Int := bif !leads_0 (nrm x) (xi l 8) (xi l 17) || xi y 0 == 0 then xi y 16 else bif finish_s3 l y == 0 then bif shift_0 (v9_c1 l y) (v9_c2 l y) false (nrm l) (nrm y) a0 a1 tr != 0 then xi y 16 else 0 else
   bif finish_s3 l y != 0 then xi y 16 else 0
noncomputable def finish_40 (x : List GC) (l : List GC) (y : List GC) (a0 : Int) (a1 : Int) (tr : Bool) : Int := bif !leads_0 (nrm x) (xi l 8) (xi l 17) || xi y 0 == 0 then xi y 17 else bif finish_s3 l y == 0 then bif shift_0 (v9_c1 l y) (v9_c2 l y) false (nrm l) (nrm y) a0 a1 tr != 0 then xi y 17 else 0 else
   bif finish_s3 l y != 0 then xi y 17 else 0
noncomputable def finish_41 (x : List GC) (l : List GC) (y : List GC) (a0 : Int) (a1 : Int) (tr : Bool) : Int := bif !leads_0 (nrm x) (xi l 8) (xi l 17) || xi y 0 == 0 then xi y 18 else bif finish_s3 l y == 0 then bif shift_0 (v9_c1 l y) (v9_c2 l y) false (nrm l) (nrm y) a0 a1 tr != 0 then xi y 18 else 0 else
   bif finish_s3 l y != 0 then xi y 18 else 0
noncomputable def finish_42 (x : List GC) (l : List GC) (y : List GC) (a0 : Int) (a1 : Int) (tr : Bool) : Int := bif !leads_0 (nrm x) (xi l 8) (xi l 17) || xi y 0 == 0 then xi y 19 else bif finish_s3 l y == 0 then bif shift_0 (v9_c1 l y) (v9_c2 l y) false (nrm l) (nrm y) a0 a1 tr != 0 then xi y 19 else 0 else
   bif finish_s3 l y != 0 then xi y 19 else 0
noncomputable def finish_43 (x : List GC) (l : List GC) (y : List GC) (a0 : Int) (a1 : Int) (tr : Bool) : Int := bif !leads_0 (nrm x) (xi l 8) (xi l 17) || xi y 0 == 0 then xi y 20 else bif finish_s3 l y == 0 then bif shift_0 (v9_c1 l y) (v9_c2 l y) false (nrm l) (nrm y) a0 a1 tr != 0 then xi y 20 else 0 else
   bif finish_s3 l y != 0 then xi y 20 else 0
noncomputable def finish_44 (x : List GC) (l : List GC) (y : List GC) (a0 : Int) (a1 : Int) (tr : Bool) : Bool := bif !leads_0 (nrm x) (xi l 8) (xi l 17) || xi y 0 == 0 then xb y 21 else bif finish_s3 l y == 0 then shift_0 (v9_c1 l y) (v9_c2 l y) false (nrm l) (nrm y) a0 a1 tr != 0 && xb y 21 else finish_s3 l y != 0 && xb y 21
noncomputable def finish_s5 (l : List GC) (y : List GC) : Int := oends_2 (flat_0 (xi l 8) (xi y 2) (xi y 3) (xi y 4)) (flat_1 (xi l 8) (xi y 2) (xi y 3) (xi y 4)) (flat_0 (xi l 8) (xi y 5) (xi y 6) (xi y 7)) (flat_1 (xi l 8) (xi y 5) (xi y 6) (xi y 7)) (finish_s0
   l y) (finish_s1 l y) (finish_s2 y) (IntKind.i64.wrap (xi l 16 * xi l 17))
noncomputable def finish_s6 (l : List GC) (y : List GC) : Int := oends_3 (flat_0 (xi l 8) (xi y 2) (xi y 3) (xi y 4)) (flat_1 (xi l 8) (xi y 2) (xi y 3) (xi y 4)) (flat_0 (xi l 8) (xi y 5) (xi y 6) (xi y 7)) (flat_1 (xi l 8) (xi y 5) (xi y 6) (xi y 7)) (finish_s0
   l y) (finish_s1 l y) (finish_s2 y) (IntKind.i64.wrap (xi l 16 * xi l 17))
noncomputable def finish_45 (x : List GC) (l : List GC) (y : List GC) (a0 : Int) (a1 : Int) (tr : Bool) : Int := bif !leads_0 (nrm x) (xi l 8) (xi l 17) || xi y 0 == 0 then a0 else bif finish_s3 l y == 0 then bif shift_0 (finish_s5 l y) (finish_s6 l y) false (nrm l) (nrm y) a0 a1 tr != 0 then shift_45
   (finish_s5 l y) (finish_s6 l y) false (nrm l) (nrm y) a0 a1 tr else 0 else bif finish_s3 l y != 0 then a0 else 0
noncomputable def finish_46 (x : List GC) (l : List GC) (y : List GC) (a0 : Int) (a1 : Int) (tr : Bool) : Int := bif !leads_0 (nrm x) (xi l 8) (xi l 17) || xi y 0 == 0 then a1 else bif finish_s3 l y == 0 then bif shift_0 (finish_s5 l y) (finish_s6 l y) false (nrm l) (nrm y) a0 a1 tr != 0 then shift_46
   (finish_s5 l y) (finish_s6 l y) false (nrm l) (nrm y) a0 a1 tr else 0 else bif finish_s3 l y != 0 then a1 else 0
noncomputable def finish_47 (x : List GC) (l : List GC) (y : List GC) (a0 : Int) (a1 : Int) (tr : Bool) : Bool := bif !leads_0 (nrm x) (xi l 8) (xi l 17) || xi y 0 == 0 then tr else bif finish_s3 l y == 0 then shift_0 (v9_c1 l y) (v9_c2 l y) false (nrm l) (nrm y) a0 a1 tr != 0 && tr else finish_s3 l y != 0 && tr
noncomputable def finish_48 (x : List GC) (l : List GC) (y : List GC) (a0 : Int) (a1 : Int) (tr : Bool) (op : Bool) : Bool := bif !leads_0 (nrm x) (xi l 8) (xi l 17) || xi y 0 == 0 then op else bif finish_s3 l y == 0 then shift_0 (v9_c1 l y) (v9_c2 l y) false (nrm l) (nrm y) a0 a1 tr != 0 && op else finish_s3 l y != 0 && op
noncomputable def finish_49 (x : List GC) (l : List GC) (y : List GC) (a0 : Int) (a1 : Int) (tr : Bool) (C : List (List Int)) (O : List (List Int)) : List (List Int) := bif !leads_0 (nrm x) (xi l 8) (xi l 17) || xi y 0 == 0 then O else bif finish_s3 l y == 0 then bif shift_0 (finish_s5 l y) (finish_s6 l y) false (nrm l) (nrm y) a0 a1 tr != 0 then shift_47
   (finish_s5 l y) (finish_s6 l y) false (nrm l) (nrm y) a0 a1 tr O else line_46 (nrm x) (flat_0 (xi l 8) (xi x 5) (xi x 6) (xi x 7)) (flat_1 (xi l 8) (xi x 5) (xi x 6) (xi x 7)) (flat_2 (xi l 8) (xi x
   5) (xi x 6) (xi x 7)) (flat_2 (xi l 8) (xi x 5) (xi x 6) (xi x 7)) true (nrm l) (shift_45 (finish_s5 l y) (finish_s6 l y) false (nrm l) (nrm y) a0 a1 tr) (shift_46 (finish_s5 l y) (finish_s6 l y)
   false (nrm l) (nrm y) a0 a1 tr) (release_44 (nrm l) (shift_45 (finish_s5 l y) (finish_s6 l y) false (nrm l) (nrm y) a0 a1 tr) (shift_46 (finish_s5 l y) (finish_s6 l y) false (nrm l) (nrm y) a0 a1 tr)
   C (shift_47 (finish_s5 l y) (finish_s6 l y) false (nrm l) (nrm y) a0 a1 tr O)) else bif finish_s3 l y != 0 then O else line_46 (nrm x) (flat_0 (xi l 8) (xi x 5) (xi x 6) (xi x 7)) (flat_1 (xi l 8)
   (xi x 5) (xi x 6) (xi x 7)) (flat_2 (xi l 8) (xi x 5) (xi x 6) (xi x 7)) (flat_2 (xi l 8) (xi x 5) (xi x 6) (xi x 7)) true (nrm l) a0 a1 (release_44 (nrm l) a0 a1 C O)
noncomputable def finish_50 (x : List GC) (l : List GC) (y : List GC) (a0 : Int) (a1 : Int) (tr : Bool) (C : List (List Int)) : List (List Int) := bif !leads_0 (nrm x) (xi l 8) (xi l 17) || xi y 0 == 0 then C else bif finish_s3 l y == 0 then bif shift_0 (v9_c1 l y) (v9_c2 l y) false (nrm l) (nrm y) a0 a1 tr != 0 then C else [] else bif
   finish_s3 l y != 0 then C else []
noncomputable def finish_needs (x : List GC) (l : List GC) (y : List GC) (a0 : Int) (a1 : Int) (tr : Bool) (C : List (List Int)) (O : List (List Int)) : List Prop := [(!leads_0 (nrm x) (xi l 8) (xi l 17) || xi y 0 == 0) = false → ((finish_s3 l y == 0) = true → O.length ≤ 1000000) ∧ ((finish_s3 l y == 0) = true → (shift_0 (finish_s5 l y) (finish_s6 l y) false
   (nrm l) (nrm y) a0 a1 tr != 0) = false → C.length ≤ 1000 ∧ (shift_47 (finish_s5 l y) (finish_s6 l y) false (nrm l) (nrm y) a0 a1 tr O).length ≤ 900000 ∧ (release_44 (nrm l) (shift_45 (finish_s5 l y)
   (finish_s6 l y) false (nrm l) (nrm y) a0 a1 tr) (shift_46 (finish_s5 l y) (finish_s6 l y) false (nrm l) (nrm y) a0 a1 tr) C (shift_47 (finish_s5 l y) (finish_s6 l y) false (nrm l) (nrm y) a0 a1 tr
   O)).length ≤ 1000000) ∧ ((finish_s3 l y == 0) = false → (finish_s3 l y != 0) = false → C.length ≤ 1000 ∧ O.length ≤ 900000 ∧ (release_44 (nrm l) a0 a1 C O).length ≤ 1000000)]
theorem finish_weak {x : List GC} {l : List GC} {y : List GC} {a0 : Int} {a1 : Int} {tr : Bool} {C : List (List Int)} {O : List (List Int)} (hW : ∀ q ∈ ([C.length ≤ 1000, O.length ≤ 800000] : List Prop), q) : ∀ q ∈ (finish_needs x l y a0 a1 tr C O), q := by
  simp only [List.mem_cons, List.not_mem_nil, or_false, forall_eq_or_imp, forall_eq] at hW
  unfold finish_needs
  simp only [List.forall_mem_cons, List.not_mem_nil, false_implies, implies_true, and_true]
  obtain ⟨h1, h2⟩ := hW
  have s := fun u w tm => (shift_47_len u w tm (nrm l) (nrm y) a0 a1 tr O).2
  have r := fun a0 a1 O => release_len (nrm l) a0 a1 C O
  exact fun _ => ⟨fun _ => by omega, fun _ _ => ⟨h1, Nat.le_trans (s ..) (by omega), Nat.le_trans (r ..) (Nat.le_trans (Nat.add_le_add_right (s ..) _) (by omega))⟩, fun _ _ => ⟨h1, by omega, Nat.le_trans (r ..) (by omega)⟩⟩
noncomputable def v9_c8 (x : List GC) (l : List GC) (y : List GC) (a0 : Int) (a1 : Int) (tr : Bool) (op : Bool) (cl : Bool) (en : Bool) (mo : Bool) (la0 : Int) (la1 : Int) (la2 : Int) (er : Int) (C : List (List Int)) (O : List (List Int)) := [(0, Obj.blk 66 [(19948, SC.int IntKind.i64 (SI.v (finish_1 x l y a0 a1 tr))), (19949, SC.int IntKind.i64 (SI.v (finish_2 x l y a0 a1 tr))), (19950, SC.int IntKind.i64 (SI.v (finish_3 x l y a0 a1
   tr))), (19951, SC.int IntKind.i64 (SI.v (finish_4 x l y a0 a1 tr))), (19952, SC.int IntKind.i64 (SI.v (finish_5 x l y a0 a1 tr))), (19953, SC.int IntKind.i64 (SI.v (finish_6 x l y a0 a1 tr))),
   (19954, SC.int IntKind.i64 (SI.v (finish_7 x l y a0 a1 tr))), (19955, SC.int IntKind.i64 (SI.v (finish_8 x l y a0 a1 tr))), (19956, SC.int IntKind.i64 (SI.v (finish_9 x l y a0 a1 tr))), (19957,
   SC.int IntKind.i64 (SI.v (finish_10 x l y a0 a1 tr))), (19958, SC.int IntKind.i64 (SI.v (finish_11 x l y a0 a1 tr))), (19959, SC.int IntKind.i64 (SI.v (finish_12 x l y a0 a1 tr))), (19960, SC.int
   IntKind.i64 (SI.v (finish_13 x l y a0 a1 tr))), (19961, SC.bool (SB.v (finish_14 x l y a0 a1 tr))), (19962, SC.int IntKind.i64 (SI.v (finish_15 x l y a0 a1 tr))), (19963, SC.bool (SB.v (finish_16 x l
   y a0 a1 tr))), (19964, SC.int IntKind.i64 (SI.v (finish_17 x l y a0 a1 tr))), (19965, SC.int IntKind.i64 (SI.v (finish_18 x l y a0 a1 tr))), (19966, SC.int IntKind.i64 (SI.v (finish_19 x l y a0 a1
   tr))), (19967, SC.int IntKind.i64 (SI.v (finish_20 x l y a0 a1 tr))), (19968, SC.int IntKind.i64 (SI.v (finish_21 x l y a0 a1 tr))), (19969, SC.bool (SB.v (finish_22 x l y a0 a1 tr))), (19970, SC.int
   IntKind.i64 (SI.v (finish_23 x l y a0 a1 tr))), (19971, SC.int IntKind.i64 (SI.v (finish_24 x l y a0 a1 tr))), (19972, SC.int IntKind.i64 (SI.v (finish_25 x l y a0 a1 tr))), (19973, SC.int
   IntKind.i64 (SI.v (finish_26 x l y a0 a1 tr))), (19974, SC.int IntKind.i64 (SI.v (finish_27 x l y a0 a1 tr))), (19975, SC.int IntKind.i64 (SI.v (finish_28 x l y a0 a1 tr))), (19976, SC.int
   IntKind.i64 (SI.v (finish_29 x l y a0 a1 tr))), (19977, SC.int IntKind.i64 (SI.v (finish_30 x l y a0 a1 tr))), (19978, SC.int IntKind.i64 (SI.v (finish_31 x l y a0 a1 tr))), (19979, SC.int
   IntKind.i64 (SI.v (finish_32 x l y a0 a1 tr))), (19980, SC.int IntKind.i64 (SI.v (finish_33 x l y a0 a1 tr))), (19981, SC.int IntKind.i64 (SI.v (finish_34 x l y a0 a1 tr))), (19982, SC.int
   IntKind.i64 (SI.v (finish_35 x l y a0 a1 tr))), (19983, SC.bool (SB.v (finish_36 x l y a0 a1 tr))), (19984, SC.int IntKind.i64 (SI.v (finish_37 x l y a0 a1 tr))), (19985, SC.bool (SB.v (finish_38 x l
   y a0 a1 tr))), (19986, SC.int IntKind.i64 (SI.v (finish_39 x l y a0 a1 tr))), (19987, SC.int IntKind.i64 (SI.v (finish_40 x l y a0 a1 tr))), (19988, SC.int IntKind.i64 (SI.v (finish_41 x l y a0 a1
   tr))), (19989, SC.int IntKind.i64 (SI.v (finish_42 x l y a0 a1 tr))), (19990, SC.int IntKind.i64 (SI.v (finish_43 x l y a0 a1 tr))), (19991, SC.bool (SB.v (finish_44 x l y a0 a1 tr))), (19992, SC.int
   IntKind.i64 (SI.v (finish_45 x l y a0 a1 tr))), (19993, SC.int IntKind.i64 (SI.v (finish_46 x l y a0 a1 tr))), (19994, SC.bool (SB.v (finish_47 x l y a0 a1 tr))), (19942, SC.wh 19940), (19995,
   SC.bool (SB.v (finish_48 x l y a0 a1 tr op))), (52, SC.bool (SB.v cl)), (53, SC.bool (SB.v en)), (54, SC.bool (SB.v mo)), (55, SC.int IntKind.i64 (SI.v la0)), (56, SC.int IntKind.i64 (SI.v la1)),
   (57, SC.int IntKind.i64 (SI.v la2)), (19945, SC.wh 19943), (59, SC.int IntKind.i64 (SI.v er))]), (19943, Obj.row false 32 22 (RowC.lst 19947 v9_c7 (finish_49 x l y a0 a1 tr C O))), (19940, Obj.row
   false 32 22 (RowC.lst 19946 v9_c7 (finish_50 x l y a0 a1 tr C)))]
set_option maxRecDepth 1000000 in
theorem finish_runs (x l y : List GC) (a0 a1 : Int) (tr op cl en mo : Bool) (la0 la1 la2 er : Int) (C O : List (List Int)) (hNeeds : ∀ pN ∈ (finish_needs x l y a0 a1 tr C O), pN) : Runs (runF (sums K_turn) L_rel 38) (finish_tpl.args (spread finish_sp [.v x, .v l, .v y, .i a0, .i a1, .b tr, .b op, .b cl, .b en, .b mo, .i la0, .i la1, .i la2, .i er])) (finish_tpl.memo (spread finish_sp [.v x, .v l, .v y, .i a0, .i a1, .b tr, .b op, .b cl, .b en, .b mo, .i la0, .i la1, .i la2, .i er]) [C, O]) finish_tpl.n (SV.one (SC.int IntKind.i64 (SI.v (finish_0 x l y a0 a1 tr)))) ((v9_c8 x l y a0 a1 tr op cl en mo la0 la1 la2 er C O)) :=
  Runs.of1 (ps := (finish_needs x l y a0 a1 tr C O)) (by kernel_rfl) hNeeds
noncomputable def finish_out : List Gm → Lss → Option CRes
  | [.v x, .v l, .v y, .i a0, .i a1, .b tr, .b op, .b cl, .b en, .b mo, .i la0, .i la1, .i la2, .i er], [C, O] => some ⟨SV.one (SC.int IntKind.i64 (SI.v (finish_0 x l y a0 a1 tr))), (v9_c8 x l y a0 a1 tr op cl en mo la0 la1 la2 er C O), [C.length ≤ 1000, O.length ≤ 800000], [], 19996⟩
  | _, _ => none
theorem finish_ok : FOk Try.prog 38 (tplG finish_sp finish_tpl finish_out) := by
  refine tplG_ok (runF_ok known_turn 38) fun ps ls r hr hn _ => ?_
  unfold finish_out at hr
  split at hr
  · cases hr; exact ⟨_, finish_runs _ _ _ _ _ _ _ _ _ _ _ _ _ _ _ _ (finish_weak (by exact hn)), fun _ => rfl⟩
  · cases hr
noncomputable def K_finish : List (Nat × Summ) := (38, tplG finish_sp finish_tpl finish_out) :: K_turn
theorem known_finish : Known Try.prog (sums K_finish) L_rel := known_cons known_turn finish_ok
theorem chS {l y : List GC} {a0 a1 u w : Int} {tm tr : Bool} {C O : List (List Int)} : (shift_47 u w tm l y a0 a1 tr O).length ≤ O.length + C.length + 3 := by have := (shift_47_len u w tm l y a0 a1 tr O).2; omega
theorem chO {C O : List (List Int)} : O.length ≤ O.length + C.length + 3 := by omega
theorem chR {l : List GC} {a0 a1 : Int} {C O A : List (List Int)} (h : A.length ≤ O.length + 1) : (release_44 l a0 a1 C A).length ≤ O.length + C.length + 3 := by have := release_len l a0 a1 C A; omega
theorem chJ {it l l' : List GC} {u w a0 a1 b0 b1 : Int} {ou : Bool} {C O A : List (List Int)} (h : A.length ≤ O.length + 1) : (join_46 it u w ou l' b0 b1 (release_44 l a0 a1 C A)).length ≤ O.length + C.length + 3 := by
  have := release_len l a0 a1 C A
  have := (join_46_len it u w ou l' b0 b1 (release_44 l a0 a1 C A)).2
  omega
theorem chL {it l l' : List GC} {u w lo hi a0 a1 b0 b1 : Int} {al : Bool} {C O A : List (List Int)} (h : A.length ≤ O.length + 1) : (line_46 it u w lo hi al l' b0 b1 (release_44 l a0 a1 C A)).length ≤ O.length + C.length + 3 := by
  have := release_len l a0 a1 C A
  have := (line_46_len it u w lo hi al l' b0 b1 (release_44 l a0 a1 C A)).2
  omega
theorem enter_47_len (x l : List GC) (C O : List (List Int)) : (enter_47 x l C O).length ≤ O.length + C.length + 3 := by
  unfold enter_47
  repeat' first | exact chO | exact chR (line_46_len ..).2 | refine ite_le ?_ ?_
theorem turn_48_len (x l y : List GC) (a0 a1 : Int) (tr : Bool) (C O : List (List Int)) : (turn_48 x l y a0 a1 tr C O).length ≤ O.length + C.length + 3 := by
  unfold turn_48
  repeat' first | exact chO | exact chS | exact chR (Nat.le_succ _) | exact chR (shift_47_len ..).2 | exact chJ (Nat.le_succ _) | exact chJ (shift_47_len ..).2 | refine ite_le ?_ ?_
theorem finish_49_len (x l y : List GC) (a0 a1 : Int) (tr : Bool) (C O : List (List Int)) : (finish_49 x l y a0 a1 tr C O).length ≤ O.length + C.length + 3 := by
  unfold finish_49
  repeat' first | exact chO | exact chS | exact chL (Nat.le_succ _) | exact chL (shift_47_len ..).2 | refine ite_le ?_ ?_
end Go.Proofs.Ytmbfbhimdkjkoaa
