/-
  Texts of one claim, laid together. Conditions: none.
-/
import Derived.Test.YtmbfbhimdkjkoaaMa28c959a
set_option linter.all false
namespace Go.Proofs.Ytmbfbhimdkjkoaa
open Go.SX Go.RowKit
noncomputable def inner_tpl : Tpl := ⟨[.one (.ptr 0 0), .agg [.int .i64, .int .i64, .int .i64, .int .i64, .int .i64, .int .i64, .int .i64, .int .i64, .int .i64, .int .i64, .int .i64, .int .i64, .int .i64, .bool, .int .i64, .bool, .int .i64, .int .i64, .int .i64, .int .i64, .int .i64, .bool]], [(0, .blk 66 [(3, .int .i64), (4, .int .i64), (5, .int .i64), (6, .int .i64), (7, .int .i64), (8, .int .i64), (9, .int .i64), (10, .int .i64), (11, .int .i64), (12, .int .i64), (13, .int .i64), (14, .int .i64), (15, .int .i64), (16, .bool), (17, .int .i64), (18, .bool), (19, .int .i64), (20, .int .i64), (21, .int .i64), (22, .int .i64), (23, .int .i64), (24, .bool), (25, .int .i64), (26, .int .i64), (27, .int .i64), (28, .int .i64), (29, .int .i64), (30, .int .i64), (31, .int .i64), (32, .int .i64), (33, .int .i64), (34, .int .i64), (35, .int .i64), (36, .int .i64), (37, .int .i64), (38, .bool), (39, .int .i64), (40, .bool), (41, .int .i64), (42, .int .i64), (43, .int .i64), (44, .int .i64), (45, .int .i64), (46, .bool), (47, .int .i64), (48, .int .i64), (49, .bool), (50, .wh 1), (51, .bool), (52, .bool), (53, .bool), (54, .bool), (55, .int .i64), (56, .int .i64), (57, .int .i64), (58, .wh 2), (59, .int .i64)]), (1, .row false 32 22 60 [.int .i64, .int .i64, .int .i64, .int .i64, .int .i64, .int .i64, .int .i64, .int .i64, .int .i64, .int .i64, .int .i64, .int .i64, .int .i64, .bool, .int .i64, .bool, .int .i64, .int .i64, .int .i64, .int .i64, .int .i64, .bool]), (2, .row false 32 22 61 [.int .i64, .int .i64, .int .i64, .int .i64, .int .i64, .int .i64, .int .i64, .int .i64, .int .i64, .int .i64, .int .i64, .int .i64, .int .i64, .bool, .int .i64, .bool, .int .i64, .int .i64, .int .i64, .int .i64, .int .i64, .bool])], 62⟩
noncomputable def inner_sp : List GK := [.v itemB, .v itemB, .v itemB, .i, .i, .b, .b, .b, .b, .b, .i, .i, .i, .i]
noncomputable def v10_c1 (x : List GC) (l : List GC) := xb x 13 || !(flat_0 (xi l 8) (xi x 2) (xi x 3) (xi x 4) == flat_0 (xi l 8) (xi x 5) (xi x 6) (xi x 7) && flat_1 (xi l 8) (xi x 2) (xi x 3) (xi x 4) == flat_1 (xi l 8) (xi x 5) (xi x 6) (xi x 7))
noncomputable def inner_0 (x : List GC) (l : List GC) (y : List GC) (a0 : Int) (a1 : Int) (tr : Bool) (C : List (List Int)) : Int := bif xi x 0 == 1 || xi x 0 == 11 || xi x 0 == 14 then 13 else bif cmotion_0 (xi x 0) && (xi x 8 != xi l 8 || xi x 16 != xi l 16 || xi x 17 != xi l 17) then 13 else bif !cmotion_0 (xi x 0) || !(v10_c1
   x l) then bif Int.ofNat C.length == 8 then 10 else 0 else bif xi y 0 == 0 then enter_0 (nrm x) (nrm l) else turn_0 (nrm x) (nrm l) (nrm y) a0 a1 tr
noncomputable def inner_23 (x : List GC) (l : List GC) (y : List GC) (a0 : Int) (a1 : Int) (tr : Bool) : Int := bif xi x 0 == 1 || xi x 0 == 11 || xi x 0 == 14 then xi y 0 else bif cmotion_0 (xi x 0) && (xi x 8 != xi l 8 || xi x 16 != xi l 16 || xi x 17 != xi l 17) then xi y 0 else bif !cmotion_0 (xi x 0) ||
   !(v10_c1 x l) then xi y 0 else bif xi y 0 == 0 then enter_23 (nrm x) (nrm l) (nrm y) else turn_23 (nrm x) (nrm l) (nrm y) a0 a1 tr
noncomputable def inner_24 (x : List GC) (l : List GC) (y : List GC) (a0 : Int) (a1 : Int) (tr : Bool) : Int := bif xi x 0 == 1 || xi x 0 == 11 || xi x 0 == 14 then xi y 1 else bif cmotion_0 (xi x 0) && (xi x 8 != xi l 8 || xi x 16 != xi l 16 || xi x 17 != xi l 17) then xi y 1 else bif !cmotion_0 (xi x 0) ||
   !(v10_c1 x l) then xi y 1 else bif xi y 0 == 0 then enter_24 (nrm x) (nrm l) (nrm y) else turn_24 (nrm x) (nrm l) (nrm y) a0 a1 tr
noncomputable def inner_25 (x : List GC) (l : List GC) (y : List GC) (a0 : Int) (a1 : Int) (tr : Bool) : Int := bif xi x 0 == 1 || xi x 0 == 11 || xi x 0 == 14 then xi y 2 else bif cmotion_0 (xi x 0) && (xi x 8 != xi l 8 || xi x 16 != xi l 16 || xi x 17 != xi l 17) then xi y 2 else bif !cmotion_0 (xi x 0) ||
   !(v10_c1 x l) then xi y 2 else bif xi y 0 == 0 then enter_25 (nrm x) (nrm l) (nrm y) else turn_25 (nrm x) (nrm l) (nrm y) a0 a1 tr
noncomputable def inner_26 (x : List GC) (l : List GC) (y : List GC) (a0 : Int) (a1 : Int) (tr : Bool) : Int := bif xi x 0 == 1 || xi x 0 == 11 || xi x 0 == 14 then xi y 3 else bif cmotion_0 (xi x 0) && (xi x 8 != xi l 8 || xi x 16 != xi l 16 || xi x 17 != xi l 17) then xi y 3 else bif !cmotion_0 (xi x 0) ||
   !(v10_c1 x l) then xi y 3 else bif xi y 0 == 0 then enter_26 (nrm x) (nrm l) (nrm y) else turn_26 (nrm x) (nrm l) (nrm y) a0 a1 tr
noncomputable def inner_27 (x : List GC) (l : List GC) (y : List GC) (a0 : Int) (a1 : Int) (tr : Bool) : Int := bif xi x 0 == 1 || xi x 0 == 11 || xi x 0 == 14 then xi y 4 else bif cmotion_0 (xi x 0) && (xi x 8 != xi l 8 || xi x 16 != xi l 16 || xi x 17 != xi l 17) then xi y 4 else bif !cmotion_0 (xi x 0) ||
   !(v10_c1 x l) then xi y 4 else bif xi y 0 == 0 then enter_27 (nrm x) (nrm l) (nrm y) else turn_27 (nrm x) (nrm l) (nrm y) a0 a1 tr
noncomputable def inner_28 (x : List GC) (l : List GC) (y : List GC) (a0 : Int) (a1 : Int) (tr : Bool) : Int := bif xi x 0 == 1 || xi x 0 == 11 || xi x 0 == 14 then xi y 5 else bif cmotion_0 (xi x 0) && (xi x 8 != xi l 8 || xi x 16 != xi l 16 || xi x 17 != xi l 17) then xi y 5 else bif !cmotion_0 (xi x 0) ||
   !(v10_c1 x l) then xi y 5 else bif xi y 0 == 0 then enter_28 (nrm x) (nrm l) (nrm y) else turn_28 (nrm x) (nrm l) (nrm y) a0 a1 tr
noncomputable def inner_29 (x : List GC) (l : List GC) (y : List GC) (a0 : Int) (a1 : Int) (tr : Bool) : Int := bif xi x 0 == 1 || xi x 0 == 11 || xi x 0 == 14 then xi y 6 else bif cmotion_0 (xi x 0) && (xi x 8 != xi l 8 || xi x 16 != xi l 16 || xi x 17 != xi l 17) then xi y 6 else bif !cmotion_0 (xi x 0) ||
   !(v10_c1 x l) then xi y 6 else bif xi y 0 == 0 then enter_29 (nrm x) (nrm l) (nrm y) else turn_29 (nrm x) (nrm l) (nrm y) a0 a1 tr
noncomputable def inner_30 (x : List GC) (l : List GC) (y : List GC) (a0 : Int) (a1 : Int) (tr : Bool) : Int := bif xi x 0 == 1 || xi x 0 == 11 || xi x 0 == 14 then xi y 7 else bif cmotion_0 (xi x 0) && (xi x 8 != xi l 8 || xi x 16 != xi l 16 || xi x 17 != xi l 17) then xi y 7 else bif !cmotion_0 (xi x 0) ||
   !(v10_c1 x l) then xi y 7 else bif xi y 0 == 0 then enter_30 (nrm x) (nrm l) (nrm y) else turn_30 (nrm x) (nrm l) (nrm y) a0 a1 tr
noncomputable def inner_31 (x : List GC) (l : List GC) (y : List GC) (a0 : Int) (a1 : Int) (tr : Bool) : Int := bif xi x 0 == 1 || xi x 0 == 11 || xi x 0 == 14 then xi y 8 else bif cmotion_0 (xi x 0) && (xi x 8 != xi l 8 || xi x 16 != xi l 16 || xi x 17 != xi l 17) then xi y 8 else bif !cmotion_0 (xi x 0) ||
   !(v10_c1 x l) then xi y 8 else bif xi y 0 == 0 then enter_31 (nrm x) (nrm l) (nrm y) else turn_31 (nrm x) (nrm l) (nrm y) a0 a1 tr
noncomputable def inner_32 (x : List GC) (l : List GC) (y : List GC) (a0 : Int) (a1 : Int) (tr : Bool) : Int := bif xi x 0 == 1 || xi x 0 == 11 || xi x 0 == 14 then xi y 9 else bif cmotion_0 (xi x 0) && (xi x 8 != xi l 8 || xi x 16 != xi l 16 || xi x 17 != xi l 17) then xi y 9 else bif !cmotion_0 (xi x 0) ||
   !(v10_c1 x l) then xi y 9 else bif xi y 0 == 0 then enter_32 (nrm x) (nrm l) (nrm y) else turn_32 (nrm x) (nrm l) (nrm y) a0 a1 tr
noncomputable def inner_33 (x : List GC) (l : List GC) (y : List GC) (a0 : Int) (a1 : Int) (tr : Bool) : Int := bif xi x 0 == 1 || xi x 0 == 11 || xi x 0 == 14 then xi y 10 else bif cmotion_0 (xi x 0) && (xi x 8 != xi l 8 || xi x 16 != xi l 16 || xi x 17 != xi l 17) then xi y 10 else bif !cmotion_0 (xi x 0)
   || !(v10_c1 x l) then xi y 10 else bif xi y 0 == 0 then enter_33 (nrm x) (nrm l) (nrm y) else turn_33 (nrm x) (nrm l) (nrm y) a0 a1 tr
noncomputable def inner_34 (x : List GC) (l : List GC) (y : List GC) (a0 : Int) (a1 : Int) (tr : Bool) : Int := bif xi x 0 == 1 || xi x 0 == 11 || xi x 0 == 14 then xi y 11 else bif cmotion_0 (xi x 0) && (xi x 8 != xi l 8 || xi x 16 != xi l 16 || xi x 17 != xi l 17) then xi y 11 else bif !cmotion_0 (xi x 0)
   || !(v10_c1 x l) then xi y 11 else bif xi y 0 == 0 then enter_34 (nrm x) (nrm l) (nrm y) else turn_34 (nrm x) (nrm l) (nrm y) a0 a1 tr
noncomputable def inner_35 (x : List GC) (l : List GC) (y : List GC) (a0 : Int) (a1 : Int) (tr : Bool) : Int := bif xi x 0 == 1 || xi x 0 == 11 || xi x 0 == 14 then xi y 12 else bif cmotion_0 (xi x 0) && (xi x 8 != xi l 8 || xi x 16 != xi l 16 || xi x 17 != xi l 17) then xi y 12 else bif !cmotion_0 (xi x 0)
   || !(v10_c1 x l) then xi y 12 else bif xi y 0 == 0 then enter_35 (nrm x) (nrm l) (nrm y) else turn_35 (nrm x) (nrm l) (nrm y) a0 a1 tr
noncomputable def inner_36 (x : List GC) (l : List GC) (y : List GC) (a0 : Int) (a1 : Int) (tr : Bool) : Bool := bif xi x 0 == 1 || xi x 0 == 11 || xi x 0 == 14 then xb y 13 else bif cmotion_0 (xi x 0) && (xi x 8 != xi l 8 || xi x 16 != xi l 16 || xi x 17 != xi l 17) then xb y 13 else bif !cmotion_0 (xi x 0)
   || !(v10_c1 x l) then xb y 13 else bif xi y 0 == 0 then enter_36 (nrm x) (nrm l) (nrm y) else turn_36 (nrm x) (nrm l) (nrm y) a0 a1 tr
noncomputable def inner_37 (x : List GC) (l : List GC) (y : List GC) (a0 : Int) (a1 : Int) (tr : Bool) : Int := bif xi x 0 == 1 || xi x 0 == 11 || xi x 0 == 14 then xi y 14 else bif cmotion_0 (xi x 0) && (xi x 8 != xi l 8 || xi x 16 != xi l 16 || xi x 17 != xi l 17) then xi y 14 else bif !cmotion_0 (xi x 0)
   || !(v10_c1 x l) then xi y 14 else bif xi y 0 == 0 then enter_37 (nrm x) (nrm l) (nrm y) else turn_37 (nrm x) (nrm l) (nrm y) a0 a1 tr
noncomputable def inner_38 (x : List GC) (l : List GC) (y : List GC) (a0 : Int) (a1 : Int) (tr : Bool) : Bool := bif xi x 0 == 1 || xi x 0 == 11 || xi x 0 == 14 then xb y 15 else bif cmotion_0 (xi x 0) && (xi x 8 != xi l 8 || xi x 16 != xi l 16 || xi x 17 != xi l 17) then xb y 15 else bif !cmotion_0 (xi x 0)
   || !(v10_c1 x l) then xb y 15 else bif xi y 0 == 0 then enter_38 (nrm x) (nrm l) (nrm y) else turn_38 (nrm x) (nrm l) (nrm y) a0 a1 tr
noncomputable def inner_39 (x : List GC) (l : List GC) (y : List GC) (a0 : Int) (a1 : Int) (tr : Bool) : Int := bif xi x 0 == 1 || xi x 0 == 11 || xi x 0 == 14 then xi y 16 else bif cmotion_0 (xi x 0) && (xi x 8 != xi l 8 || xi x 16 != xi l 16 || xi x 17 != xi l 17) then xi y 16 else bif !cmotion_0 (xi x 0)
   || !(v10_c1 x l) then xi y 16 else bif xi y 0 == 0 then enter_39 (nrm x) (nrm l) (nrm y) else turn_39 (nrm x) (nrm l) (nrm y) a0 a1 tr
noncomputable def inner_40 (x : List GC) (l : List GC) (y : List GC) (a0 : Int) (a1 : Int) (tr : Bool) : Int := bif xi x 0 == 1 || xi x 0 == 11 || xi x 0 == 14 then xi y 17 else bif cmotion_0 (xi x 0) && (xi x 8 != xi l 8 || xi x 16 != xi l 16 || xi x 17 != xi l 17) then xi y 17 else bif !cmotion_0 (xi x 0)
   || !(v10_c1 x l) then xi y 17 else bif xi y 0 == 0 then enter_40 (nrm x) (nrm l) (nrm y) else turn_40 (nrm x) (nrm l) (nrm y) a0 a1 tr
noncomputable def inner_41 (x : List GC) (l : List GC) (y : List GC) (a0 : Int) (a1 : Int) (tr : Bool) : Int := bif xi x 0 == 1 || xi x 0 == 11 || xi x 0 == 14 then xi y 18 else bif cmotion_0 (xi x 0) && (xi x 8 != xi l 8 || xi x 16 != xi l 16 || xi x 17 != xi l 17) then xi y 18 else bif !cmotion_0 (xi x 0)
   || !(v10_c1 x l) then xi y 18 else bif xi y 0 == 0 then enter_41 (nrm x) (nrm l) (nrm y) else turn_41 (nrm x) (nrm l) (nrm y) a0 a1 tr
noncomputable def inner_42 (x : List GC) (l : List GC) (y : List GC) (a0 : Int) (a1 : Int) (tr : Bool) : Int := bif xi x 0 == 1 || xi x 0 == 11 || xi x 0 == 14 then xi y 19 else bif cmotion_0 (xi x 0) && (xi x 8 != xi l 8 || xi x 16 != xi l 16 || xi x 17 != xi l 17) then xi y 19 else bif !cmotion_0 (xi x 0)
   || !(v10_c1 x l) then xi y 19 else bif xi y 0 == 0 then enter_42 (nrm x) (nrm l) (nrm y) else turn_42 (nrm x) (nrm l) (nrm y) a0 a1 tr
noncomputable def inner_43 (x : List GC) (l : List GC) (y : List GC) (a0 : Int) (a1 : Int) (tr : Bool) : Int := bif xi x 0 == 1 || xi x 0 == 11 || xi x 0 == 14 then xi y 20 else bif cmotion_0 (xi x 0) && (xi x 8 != xi l 8 || xi x 16 != xi l 16 || xi x 17 != xi l 17) then xi y 20 else bif !cmotion_0 (xi x 0)
   || !(v10_c1 x l) then xi y 20 else bif xi y 0 == 0 then enter_43 (nrm x) (nrm l) (nrm y) else turn_43 (nrm x) (nrm l) (nrm y) a0 a1 tr
noncomputable def inner_44 (x : List GC) (l : List GC) (y : List GC) (a0 : Int) (a1 : Int) (tr : Bool) : Bool := bif xi x 0 == 1 || xi x 0 == 11 || xi x 0 == 14 then xb y 21 else bif cmotion_0 (xi x 0) && (xi x 8 != xi l 8 || xi x 16 != xi l 16 || xi x 17 != xi l 17) then xb y 21 else bif !cmotion_0 (xi x 0)
   || !(v10_c1 x l) then xb y 21 else bif xi y 0 == 0 then enter_44 (nrm x) (nrm l) (nrm y) else turn_44 (nrm x) (nrm l) (nrm y) a0 a1 tr
noncomputable def inner_45 (x : List GC) (l : List GC) (y : List GC) (a0 : Int) (a1 : Int) (tr : Bool) : Int := bif xi x 0 == 1 || xi x 0 == 11 || xi x 0 == 14 then a0 else bif cmotion_0 (xi x 0) && (xi x 8 != xi l 8 || xi x 16 != xi l 16 || xi x 17 != xi l 17) then a0 else bif !cmotion_0 (xi x 0) || !(v10_c1
   x l) then a0 else bif xi y 0 == 0 then enter_45 (nrm x) (nrm l) a0 else turn_45 (nrm x) (nrm l) (nrm y) a0 a1 tr
noncomputable def inner_46 (x : List GC) (l : List GC) (y : List GC) (a0 : Int) (a1 : Int) (tr : Bool) : Int := bif xi x 0 == 1 || xi x 0 == 11 || xi x 0 == 14 then a1 else bif cmotion_0 (xi x 0) && (xi x 8 != xi l 8 || xi x 16 != xi l 16 || xi x 17 != xi l 17) then a1 else bif !cmotion_0 (xi x 0) || !(v10_c1
   x l) then a1 else bif xi y 0 == 0 then enter_46 (nrm x) (nrm l) a1 else turn_46 (nrm x) (nrm l) (nrm y) a0 a1 tr
noncomputable def inner_47 (x : List GC) (l : List GC) (y : List GC) (a0 : Int) (a1 : Int) (tr : Bool) : Bool := bif xi x 0 == 1 || xi x 0 == 11 || xi x 0 == 14 then tr else bif cmotion_0 (xi x 0) && (xi x 8 != xi l 8 || xi x 16 != xi l 16 || xi x 17 != xi l 17) then tr else bif !cmotion_0 (xi x 0) || !(v10_c1
   x l) then tr else bif xi y 0 == 0 then tr else turn_47 (nrm x) (nrm l) (nrm y) a0 a1 tr
noncomputable def inner_48 (x : List GC) (l : List GC) (y : List GC) (a0 : Int) (a1 : Int) (tr : Bool) (C : List (List Int)) (O : List (List Int)) : List (List Int) := bif xi x 0 == 1 || xi x 0 == 11 || xi x 0 == 14 then O else bif cmotion_0 (xi x 0) && (xi x 8 != xi l 8 || xi x 16 != xi l 16 || xi x 17 != xi l 17) then O else bif !cmotion_0 (xi x 0) || !(v10_c1 x
   l) then O else bif xi y 0 == 0 then enter_47 (nrm x) (nrm l) C O else turn_48 (nrm x) (nrm l) (nrm y) a0 a1 tr C O
noncomputable def inner_49 (x : List GC) (l : List GC) (y : List GC) (a0 : Int) (a1 : Int) (tr : Bool) (C : List (List Int)) : List (List Int) := bif xi x 0 == 1 || xi x 0 == 11 || xi x 0 == 14 then C else bif cmotion_0 (xi x 0) && (xi x 8 != xi l 8 || xi x 16 != xi l 16 || xi x 17 != xi l 17) then C else bif !cmotion_0 (xi x 0) || !(v10_c1 x
   l) then bif Int.ofNat C.length == 8 then C else C ++ [toRow x] else bif xi y 0 == 0 then enter_48 (nrm x) (nrm l) C else turn_49 (nrm x) (nrm l) (nrm y) a0 a1 tr C
noncomputable def inner_s0 (x : List GC) : Prop := (xi x 0 == 1 || xi x 0 == 11 || xi x 0 == 14) = false
noncomputable def inner_s1 (x : List GC) (l : List GC) : Prop := (cmotion_0 (xi x 0) && (xi x 8 != xi l 8 || xi x 16 != xi l 16 || xi x 17 != xi l 17)) = false
noncomputable def inner_s2 (x : List GC) (l : List GC) : Prop := (!cmotion_0 (xi x 0) || !(v10_c1 x l)) = false
noncomputable def inner_s3 (C : List (List Int)) (O : List (List Int)) : Prop := C.length ≤ 1000 ∧ O.length ≤ 800000
noncomputable def inner_needs (x : List GC) (l : List GC) (y : List GC) (C : List (List Int)) (O : List (List Int)) : List Prop := [inner_s0 x → inner_s1 x l → ((!cmotion_0 (xi x 0) || !(v10_c1 x l)) = true → (Int.ofNat C.length == 8) = false → (C.length + 1) * 176 ≤ 140737488355328 ∧ C.length + 1 ≤ 9223372036854775807) ∧
   (inner_s2 x l → (xi y 0 == 0) = true → inner_s3 C O), inner_s0 x → inner_s1 x l → inner_s2 x l → (xi y 0 == 0) = false → inner_s3 C O]
theorem inner_weak {x : List GC} {l : List GC} {y : List GC} {C : List (List Int)} {O : List (List Int)} (hW : ∀ q ∈ ([C.length ≤ 1000, O.length ≤ 800000] : List Prop), q) : ∀ q ∈ (inner_needs x l y C O), q := by
  simp only [List.mem_cons, List.not_mem_nil, or_false, forall_eq_or_imp, forall_eq] at hW
  unfold inner_needs
  simp only [List.forall_mem_cons, List.not_mem_nil, false_implies, implies_true, and_true]
  obtain ⟨h1, h2⟩ := hW
  exact ⟨fun _ _ => ⟨fun _ _ => ⟨by omega, by omega⟩, fun _ _ => ⟨h1, h2⟩⟩, fun _ _ _ _ => ⟨h1, h2⟩⟩
noncomputable def v10_c0 := [CK.int IntKind.i64, CK.int IntKind.i64, CK.int IntKind.i64, CK.int IntKind.i64, CK.int IntKind.i64, CK.int IntKind.i64, CK.int IntKind.i64, CK.int IntKind.i64, CK.int IntKind.i64, CK.int
   IntKind.i64, CK.int IntKind.i64, CK.int IntKind.i64, CK.int IntKind.i64, CK.bool, CK.int IntKind.i64, CK.bool, CK.int IntKind.i64, CK.int IntKind.i64, CK.int IntKind.i64, CK.int IntKind.i64, CK.int IntKind.i64, CK.bool]
noncomputable def v10_c4 (l : List GC) (x : List GC) (y : List GC) (a0 : Int) (a1 : Int) (tr : Bool) (op : Bool) (cl : Bool) (en : Bool) (mo : Bool) (la0 : Int) (la1 : Int) (la2 : Int) (er : Int) (C : List (List Int)) (O : List (List Int)) := [(0, Obj.blk 66 [(3, SC.int IntKind.i64 (SI.v (xi l 0))), (4, SC.int IntKind.i64 (SI.v (xi l 1))), (5, SC.int IntKind.i64 (SI.v (xi l 2))), (6, SC.int IntKind.i64 (SI.v (xi l 3))), (7, SC.int
   IntKind.i64 (SI.v (xi l 4))), (8, SC.int IntKind.i64 (SI.v (xi l 5))), (9, SC.int IntKind.i64 (SI.v (xi l 6))), (10, SC.int IntKind.i64 (SI.v (xi l 7))), (11, SC.int IntKind.i64 (SI.v (xi l 8))),
   (12, SC.int IntKind.i64 (SI.v (xi l 9))), (13, SC.int IntKind.i64 (SI.v (xi l 10))), (14, SC.int IntKind.i64 (SI.v (xi l 11))), (15, SC.int IntKind.i64 (SI.v (xi l 12))), (16, SC.bool (SB.v (xb l
   13))), (17, SC.int IntKind.i64 (SI.v (xi l 14))), (18, SC.bool (SB.v (xb l 15))), (19, SC.int IntKind.i64 (SI.v (xi l 16))), (20, SC.int IntKind.i64 (SI.v (xi l 17))), (21, SC.int IntKind.i64 (SI.v
   (xi l 18))), (22, SC.int IntKind.i64 (SI.v (xi l 19))), (23, SC.int IntKind.i64 (SI.v (xi l 20))), (24, SC.bool (SB.v (xb l 21))), (79778, SC.int IntKind.i64 (SI.v (inner_23 x l y a0 a1 tr))),
   (79779, SC.int IntKind.i64 (SI.v (inner_24 x l y a0 a1 tr))), (79780, SC.int IntKind.i64 (SI.v (inner_25 x l y a0 a1 tr))), (79781, SC.int IntKind.i64 (SI.v (inner_26 x l y a0 a1 tr))), (79782,
   SC.int IntKind.i64 (SI.v (inner_27 x l y a0 a1 tr))), (79783, SC.int IntKind.i64 (SI.v (inner_28 x l y a0 a1 tr))), (79784, SC.int IntKind.i64 (SI.v (inner_29 x l y a0 a1 tr))), (79785, SC.int
   IntKind.i64 (SI.v (inner_30 x l y a0 a1 tr))), (79786, SC.int IntKind.i64 (SI.v (inner_31 x l y a0 a1 tr))), (79787, SC.int IntKind.i64 (SI.v (inner_32 x l y a0 a1 tr))), (79788, SC.int IntKind.i64
   (SI.v (inner_33 x l y a0 a1 tr))), (79789, SC.int IntKind.i64 (SI.v (inner_34 x l y a0 a1 tr))), (79790, SC.int IntKind.i64 (SI.v (inner_35 x l y a0 a1 tr))), (79791, SC.bool (SB.v (inner_36 x l y a0
   a1 tr))), (79792, SC.int IntKind.i64 (SI.v (inner_37 x l y a0 a1 tr))), (79793, SC.bool (SB.v (inner_38 x l y a0 a1 tr))), (79794, SC.int IntKind.i64 (SI.v (inner_39 x l y a0 a1 tr))), (79795, SC.int
   IntKind.i64 (SI.v (inner_40 x l y a0 a1 tr))), (79796, SC.int IntKind.i64 (SI.v (inner_41 x l y a0 a1 tr))), (79797, SC.int IntKind.i64 (SI.v (inner_42 x l y a0 a1 tr))), (79798, SC.int IntKind.i64
   (SI.v (inner_43 x l y a0 a1 tr))), (79799, SC.bool (SB.v (inner_44 x l y a0 a1 tr))), (79800, SC.int IntKind.i64 (SI.v (inner_45 x l y a0 a1 tr))), (79801, SC.int IntKind.i64 (SI.v (inner_46 x l y a0
   a1 tr))), (79802, SC.bool (SB.v (inner_47 x l y a0 a1 tr))), (79772, SC.wh 79770), (51, SC.bool (SB.v op)), (52, SC.bool (SB.v cl)), (53, SC.bool (SB.v en)), (54, SC.bool (SB.v mo)), (55, SC.int
   IntKind.i64 (SI.v la0)), (56, SC.int IntKind.i64 (SI.v la1)), (57, SC.int IntKind.i64 (SI.v la2)), (79775, SC.wh 79773), (59, SC.int IntKind.i64 (SI.v er))]), (79773, Obj.row false 32 22 (RowC.lst
   79777 v10_c0 (inner_48 x l y a0 a1 tr C O))), (79770, Obj.row false 32 22 (RowC.lst 79776 v10_c0 (inner_49 x l y a0 a1 tr C)))]
set_option maxRecDepth 1000000 in
theorem inner_runs (x l y : List GC) (a0 a1 : Int) (tr op cl en mo : Bool) (la0 la1 la2 er : Int) (C O : List (List Int)) (hNeeds : ∀ pN ∈ (inner_needs x l y C O), pN) : Runs (runF (sums K_finish) L_rel 39) (inner_tpl.args (spread inner_sp [.v x, .v l, .v y, .i a0, .i a1, .b tr, .b op, .b cl, .b en, .b mo, .i la0, .i la1, .i la2, .i er])) (inner_tpl.memo (spread inner_sp [.v x, .v l, .v y, .i a0, .i a1, .b tr, .b op, .b cl, .b en, .b mo, .i la0, .i la1, .i la2, .i er]) [C, O]) inner_tpl.n (SV.one (SC.int IntKind.i64 (SI.v (inner_0 x l y a0 a1 tr C)))) ((v10_c4 l x y a0 a1 tr op cl en mo la0 la1 la2 er C O)) :=
  Runs.of1 (ps := (inner_needs x l y C O)) (by kernel_rfl) hNeeds
noncomputable def inner_out : List Gm → Lss → Option CRes
  | [.v x, .v l, .v y, .i a0, .i a1, .b tr, .b op, .b cl, .b en, .b mo, .i la0, .i la1, .i la2, .i er], [C, O] => some ⟨SV.one (SC.int IntKind.i64 (SI.v (inner_0 x l y a0 a1 tr C))), (v10_c4 l x y a0 a1 tr op cl en mo la0 la1 la2 er C O), [C.length ≤ 1000, O.length ≤ 800000], [], 79803⟩
  | _, _ => none
theorem inner_ok : FOk Try.prog 39 (tplG inner_sp inner_tpl inner_out) := by
  refine tplG_ok (runF_ok known_finish 39) fun ps ls r hr hn _ => ?_
  unfold inner_out at hr
  split at hr
  · cases hr; exact ⟨_, inner_runs _ _ _ _ _ _ _ _ _ _ _ _ _ _ _ _ (inner_weak (by exact hn)), fun _ => rfl⟩
  · cases hr
noncomputable def K_inner : List (Nat × Summ) := (39, tplG inner_sp inner_tpl inner_out) :: K_finish
theorem known_inner : Known Try.prog (sums K_inner) L_rel := known_cons known_finish inner_ok
theorem inner_48_len (x l y : List GC) (a0 a1 : Int) (tr : Bool) (C O : List (List Int)) : (inner_48 x l y a0 a1 tr C O).length ≤ O.length + C.length + 3 := by
  unfold inner_48
  repeat' first | exact chO | exact enter_47_len .. | exact turn_48_len .. | refine ite_le ?_ ?_
theorem enter_48_len (x l : List GC) (C : List (List Int)) : (enter_48 x l C).length ≤ C.length := by
  unfold enter_48
  repeat' first | exact Nat.le_refl _ | exact Nat.zero_le _ | refine ite_le ?_ ?_
theorem turn_49_len (x l y : List GC) (a0 a1 : Int) (tr : Bool) (C : List (List Int)) : (turn_49 x l y a0 a1 tr C).length ≤ C.length := by
  unfold turn_49
  repeat' first | exact Nat.le_refl _ | exact Nat.zero_le _ | refine ite_le ?_ ?_
theorem chC {C : List (List Int)} {r : List Int} (h : C.length ≤ 8) : (bif Int.ofNat C.length == 8 then C else C ++ [r]).length ≤ 8 := by
  cases e : (Int.ofNat C.length == 8)
  · have : C.length ≠ 8 := fun h => by rw [h] at e; exact absurd e (by decide)
    simp only [cond_false, List.length_append, List.length_cons, List.length_nil]; omega
  · exact h
theorem inner_49_len (x l y : List GC) (a0 a1 : Int) (tr : Bool) (C : List (List Int)) (h : C.length ≤ 8) : (inner_49 x l y a0 a1 tr C).length ≤ 8 := by
  unfold inner_49
  repeat' first | exact h | exact Nat.le_trans (enter_48_len ..) h | exact Nat.le_trans (turn_49_len ..) h | exact chC h | refine ite_le ?_ ?_
noncomputable def take_tpl : Tpl := ⟨[.one (.ptr 0 0), .agg [.int .i64, .int .i64, .int .i64, .int .i64, .int .i64, .int .i64, .int .i64, .int .i64, .int .i64, .int .i64, .int .i64, .int .i64, .int .i64, .bool, .int .i64, .bool, .int .i64, .int .i64, .int .i64, .int .i64, .int .i64, .bool]], [(0, .blk 66 [(3, .int .i64), (4, .int .i64), (5, .int .i64), (6, .int .i64), (7, .int .i64), (8, .int .i64), (9, .int .i64), (10, .int .i64), (11, .int .i64), (12, .int .i64), (13, .int .i64), (14, .int .i64), (15, .int .i64), (16, .bool), (17, .int .i64), (18, .bool), (19, .int .i64), (20, .int .i64), (21, .int .i64), (22, .int .i64), (23, .int .i64), (24, .bool), (25, .int .i64), (26, .int .i64), (27, .int .i64), (28, .int .i64), (29, .int .i64), (30, .int .i64), (31, .int .i64), (32, .int .i64), (33, .int .i64), (34, .int .i64), (35, .int .i64), (36, .int .i64), (37, .int .i64), (38, .bool), (39, .int .i64), (40, .bool), (41, .int .i64), (42, .int .i64), (43, .int .i64), (44, .int .i64), (45, .int .i64), (46, .bool), (47, .int .i64), (48, .int .i64), (49, .bool), (50, .wh 1), (51, .bool), (52, .bool), (53, .bool), (54, .bool), (55, .int .i64), (56, .int .i64), (57, .int .i64), (58, .wh 2), (59, .int .i64)]), (1, .row false 32 22 60 [.int .i64, .int .i64, .int .i64, .int .i64, .int .i64, .int .i64, .int .i64, .int .i64, .int .i64, .int .i64, .int .i64, .int .i64, .int .i64, .bool, .int .i64, .bool, .int .i64, .int .i64, .int .i64, .int .i64, .int .i64, .bool]), (2, .row false 32 22 61 [.int .i64, .int .i64, .int .i64, .int .i64, .int .i64, .int .i64, .int .i64, .int .i64, .int .i64, .int .i64, .int .i64, .int .i64, .int .i64, .bool, .int .i64, .bool, .int .i64, .int .i64, .int .i64, .int .i64, .int .i64, .bool])], 62⟩
noncomputable def take_sp : List GK := [.v itemB, .v itemB, .v itemB, .i, .i, .b, .b, .b, .b, .b, .i, .i, .i, .i]
noncomputable def take_0 (x : List GC) (l : List GC) (y : List GC) (a0 : Int) (a1 : Int) (tr : Bool) (op : Bool) (cl : Bool) (en : Bool) (mo : Bool) (la0 : Int) (la1 : Int) (la2 : Int) (C : List (List Int)) : Int := bif cl then 13 else bif !cvalid_0 (nrm x) || en || cmotion_0 (xi x 0) && mo && !(xi x 2 == la0 && (xi x 3 == la1 && xi x 4 == la2)) then 1 else bif !op && cmotion_0 (xi x 0) && xi x 16 != 0 then
   begin_0 (nrm x) else bif !op then 0 else bif cmotion_0 (xi x 0) && xi x 16 == 0 then finish_0 (nrm x) (nrm l) (nrm y) a0 a1 tr else inner_0 (nrm x) (nrm l) (nrm y) a0 a1 tr C
noncomputable def take_1 (x : List GC) (l : List GC) (y : List GC) (a0 : Int) (a1 : Int) (tr : Bool) (op : Bool) (cl : Bool) (en : Bool) (mo : Bool) (la0 : Int) (la1 : Int) (la2 : Int) : Int := bif cl then xi l 0 else bif !cvalid_0 (nrm x) || en || cmotion_0 (xi x 0) && mo && !(xi x 2 == la0 && (xi x 3 == la1 && xi x 4 == la2)) then xi l 0 else bif !op && cmotion_0 (xi x 0) && xi x 16 != 0
   then begin_1 (nrm x) (nrm l) else bif !op then xi l 0 else bif cmotion_0 (xi x 0) && xi x 16 == 0 then finish_1 (nrm x) (nrm l) (nrm y) a0 a1 tr else xi l 0
noncomputable def take_2 (x : List GC) (l : List GC) (y : List GC) (a0 : Int) (a1 : Int) (tr : Bool) (op : Bool) (cl : Bool) (en : Bool) (mo : Bool) (la0 : Int) (la1 : Int) (la2 : Int) : Int := bif cl then xi l 1 else bif !cvalid_0 (nrm x) || en || cmotion_0 (xi x 0) && mo && !(xi x 2 == la0 && (xi x 3 == la1 && xi x 4 == la2)) then xi l 1 else bif !op && cmotion_0 (xi x 0) && xi x 16 != 0
   then begin_2 (nrm x) (nrm l) else bif !op then xi l 1 else bif cmotion_0 (xi x 0) && xi x 16 == 0 then finish_2 (nrm x) (nrm l) (nrm y) a0 a1 tr else xi l 1
noncomputable def take_3 (x : List GC) (l : List GC) (y : List GC) (a0 : Int) (a1 : Int) (tr : Bool) (op : Bool) (cl : Bool) (en : Bool) (mo : Bool) (la0 : Int) (la1 : Int) (la2 : Int) : Int := bif cl then xi l 2 else bif !cvalid_0 (nrm x) || en || cmotion_0 (xi x 0) && mo && !(xi x 2 == la0 && (xi x 3 == la1 && xi x 4 == la2)) then xi l 2 else bif !op && cmotion_0 (xi x 0) && xi x 16 != 0
   then begin_3 (nrm x) (nrm l) else bif !op then xi l 2 else bif cmotion_0 (xi x 0) && xi x 16 == 0 then finish_3 (nrm x) (nrm l) (nrm y) a0 a1 tr else xi l 2
noncomputable def take_4 (x : List GC) (l : List GC) (y : List GC) (a0 : Int) (a1 : Int) (tr : Bool) (op : Bool) (cl : Bool) (en : Bool) (mo : Bool) (la0 : Int) (la1 : Int) (la2 : Int) : Int := bif cl then xi l 3 else bif !cvalid_0 (nrm x) || en || cmotion_0 (xi x 0) && mo && !(xi x 2 == la0 && (xi x 3 == la1 && xi x 4 == la2)) then xi l 3 else bif !op && cmotion_0 (xi x 0) && xi x 16 != 0
   then begin_4 (nrm x) (nrm l) else bif !op then xi l 3 else bif cmotion_0 (xi x 0) && xi x 16 == 0 then finish_4 (nrm x) (nrm l) (nrm y) a0 a1 tr else xi l 3
noncomputable def take_5 (x : List GC) (l : List GC) (y : List GC) (a0 : Int) (a1 : Int) (tr : Bool) (op : Bool) (cl : Bool) (en : Bool) (mo : Bool) (la0 : Int) (la1 : Int) (la2 : Int) : Int := bif cl then xi l 4 else bif !cvalid_0 (nrm x) || en || cmotion_0 (xi x 0) && mo && !(xi x 2 == la0 && (xi x 3 == la1 && xi x 4 == la2)) then xi l 4 else bif !op && cmotion_0 (xi x 0) && xi x 16 != 0
   then begin_5 (nrm x) (nrm l) else bif !op then xi l 4 else bif cmotion_0 (xi x 0) && xi x 16 == 0 then finish_5 (nrm x) (nrm l) (nrm y) a0 a1 tr else xi l 4
noncomputable def take_6 (x : List GC) (l : List GC) (y : List GC) (a0 : Int) (a1 : Int) (tr : Bool) (op : Bool) (cl : Bool) (en : Bool) (mo : Bool) (la0 : Int) (la1 : Int) (la2 : Int) : Int := bif cl then xi l 5 else bif !cvalid_0 (nrm x) || en || cmotion_0 (xi x 0) && mo && !(xi x 2 == la0 && (xi x 3 == la1 && xi x 4 == la2)) then xi l 5 else bif !op && cmotion_0 (xi x 0) && xi x 16 != 0
   then begin_6 (nrm x) (nrm l) else bif !op then xi l 5 else bif cmotion_0 (xi x 0) && xi x 16 == 0 then finish_6 (nrm x) (nrm l) (nrm y) a0 a1 tr else xi l 5
noncomputable def take_7 (x : List GC) (l : List GC) (y : List GC) (a0 : Int) (a1 : Int) (tr : Bool) (op : Bool) (cl : Bool) (en : Bool) (mo : Bool) (la0 : Int) (la1 : Int) (la2 : Int) : Int := bif cl then xi l 6 else bif !cvalid_0 (nrm x) || en || cmotion_0 (xi x 0) && mo && !(xi x 2 == la0 && (xi x 3 == la1 && xi x 4 == la2)) then xi l 6 else bif !op && cmotion_0 (xi x 0) && xi x 16 != 0
   then begin_7 (nrm x) (nrm l) else bif !op then xi l 6 else bif cmotion_0 (xi x 0) && xi x 16 == 0 then finish_7 (nrm x) (nrm l) (nrm y) a0 a1 tr else xi l 6
noncomputable def take_8 (x : List GC) (l : List GC) (y : List GC) (a0 : Int) (a1 : Int) (tr : Bool) (op : Bool) (cl : Bool) (en : Bool) (mo : Bool) (la0 : Int) (la1 : Int) (la2 : Int) : Int := bif cl then xi l 7 else bif !cvalid_0 (nrm x) || en || cmotion_0 (xi x 0) && mo && !(xi x 2 == la0 && (xi x 3 == la1 && xi x 4 == la2)) then xi l 7 else bif !op && cmotion_0 (xi x 0) && xi x 16 != 0
   then begin_8 (nrm x) (nrm l) else bif !op then xi l 7 else bif cmotion_0 (xi x 0) && xi x 16 == 0 then finish_8 (nrm x) (nrm l) (nrm y) a0 a1 tr else xi l 7
noncomputable def take_9 (x : List GC) (l : List GC) (y : List GC) (a0 : Int) (a1 : Int) (tr : Bool) (op : Bool) (cl : Bool) (en : Bool) (mo : Bool) (la0 : Int) (la1 : Int) (la2 : Int) : Int := bif cl then xi l 8 else bif !cvalid_0 (nrm x) || en || cmotion_0 (xi x 0) && mo && !(xi x 2 == la0 && (xi x 3 == la1 && xi x 4 == la2)) then xi l 8 else bif !op && cmotion_0 (xi x 0) && xi x 16 != 0
   then begin_9 (nrm x) (nrm l) else bif !op then xi l 8 else bif cmotion_0 (xi x 0) && xi x 16 == 0 then finish_9 (nrm x) (nrm l) (nrm y) a0 a1 tr else xi l 8
noncomputable def take_10 (x : List GC) (l : List GC) (y : List GC) (a0 : Int) (a1 : Int) (tr : Bool) (op : Bool) (cl : Bool) (en : Bool) (mo : Bool) (la0 : Int) (la1 : Int) (la2 : Int) : Int := bif cl then xi l 9 else bif !cvalid_0 (nrm x) || en || cmotion_0 (xi x 0) && mo && !(xi x 2 == la0 && (xi x 3 == la1 && xi x 4 == la2)) then xi l 9 else bif !op && cmotion_0 (xi x 0) && xi x 16 != 0
   then begin_10 (nrm x) (nrm l) else bif !op then xi l 9 else bif cmotion_0 (xi x 0) && xi x 16 == 0 then finish_10 (nrm x) (nrm l) (nrm y) a0 a1 tr else xi l 9
noncomputable def take_11 (x : List GC) (l : List GC) (y : List GC) (a0 : Int) (a1 : Int) (tr : Bool) (op : Bool) (cl : Bool) (en : Bool) (mo : Bool) (la0 : Int) (la1 : Int) (la2 : Int) : Int := bif cl then xi l 10 else bif !cvalid_0 (nrm x) || en || cmotion_0 (xi x 0) && mo && !(xi x 2 == la0 && (xi x 3 == la1 && xi x 4 == la2)) then xi l 10 else bif !op && cmotion_0 (xi x 0) && xi x 16 !=
   0 then begin_11 (nrm x) (nrm l) else bif !op then xi l 10 else bif cmotion_0 (xi x 0) && xi x 16 == 0 then finish_11 (nrm x) (nrm l) (nrm y) a0 a1 tr else xi l 10
noncomputable def take_12 (x : List GC) (l : List GC) (y : List GC) (a0 : Int) (a1 : Int) (tr : Bool) (op : Bool) (cl : Bool) (en : Bool) (mo : Bool) (la0 : Int) (la1 : Int) (la2 : Int) : Int := bif cl then xi l 11 else bif !cvalid_0 (nrm x) || en || cmotion_0 (xi x 0) && mo && !(xi x 2 == la0 && (xi x 3 == la1 && xi x 4 == la2)) then xi l 11 else bif !op && cmotion_0 (xi x 0) && xi x 16 !=
   0 then begin_12 (nrm x) (nrm l) else bif !op then xi l 11 else bif cmotion_0 (xi x 0) && xi x 16 == 0 then finish_12 (nrm x) (nrm l) (nrm y) a0 a1 tr else xi l 11
noncomputable def take_13 (x : List GC) (l : List GC) (y : List GC) (a0 : Int) (a1 : Int) (tr : Bool) (op : Bool) (cl : Bool) (en : Bool) (mo : Bool) (la0 : Int) (la1 : Int) (la2 : Int) : Int := bif cl then xi l 12 else bif !cvalid_0 (nrm x) || en || cmotion_0 (xi x 0) && mo && !(xi x 2 == la0 && (xi x 3 == la1 && xi x 4 == la2)) then xi l 12 else bif !op && cmotion_0 (xi x 0) && xi x 16 !=
   0 then begin_13 (nrm x) (nrm l) else bif !op then xi l 12 else bif cmotion_0 (xi x 0) && xi x 16 == 0 then finish_13 (nrm x) (nrm l) (nrm y) a0 a1 tr else xi l 12
noncomputable def take_14 (x : List GC) (l : List GC) (y : List GC) (a0 : Int) (a1 : Int) (tr : Bool) (op : Bool) (cl : Bool) (en : Bool) (mo : Bool) (la0 : Int) (la1 : Int) (la2 : Int) : Bool := bif cl then xb l 13 else bif !cvalid_0 (nrm x) || en || cmotion_0 (xi x 0) && mo && !(xi x 2 == la0 && (xi x 3 == la1 && xi x 4 == la2)) then xb l 13 else bif !op && cmotion_0 (xi x 0) && xi x 16 !=
   0 then begin_14 (nrm x) (nrm l) else bif !op then xb l 13 else bif cmotion_0 (xi x 0) && xi x 16 == 0 then finish_14 (nrm x) (nrm l) (nrm y) a0 a1 tr else xb l 13
noncomputable def take_15 (x : List GC) (l : List GC) (y : List GC) (a0 : Int) (a1 : Int) (tr : Bool) (op : Bool) (cl : Bool) (en : Bool) (mo : Bool) (la0 : Int) (la1 : Int) (la2 : Int) : Int := bif cl then xi l 14 else bif !cvalid_0 (nrm x) || en || cmotion_0 (xi x 0) && mo && !(xi x 2 == la0 && (xi x 3 == la1 && xi x 4 == la2)) then xi l 14 else bif !op && cmotion_0 (xi x 0) && xi x 16 !=
   0 then begin_15 (nrm x) (nrm l) else bif !op then xi l 14 else bif cmotion_0 (xi x 0) && xi x 16 == 0 then finish_15 (nrm x) (nrm l) (nrm y) a0 a1 tr else xi l 14
noncomputable def take_16 (x : List GC) (l : List GC) (y : List GC) (a0 : Int) (a1 : Int) (tr : Bool) (op : Bool) (cl : Bool) (en : Bool) (mo : Bool) (la0 : Int) (la1 : Int) (la2 : Int) : Bool := bif cl then xb l 15 else bif !cvalid_0 (nrm x) || en || cmotion_0 (xi x 0) && mo && !(xi x 2 == la0 && (xi x 3 == la1 && xi x 4 == la2)) then xb l 15 else bif !op && cmotion_0 (xi x 0) && xi x 16 !=
   0 then begin_16 (nrm x) (nrm l) else bif !op then xb l 15 else bif cmotion_0 (xi x 0) && xi x 16 == 0 then finish_16 (nrm x) (nrm l) (nrm y) a0 a1 tr else xb l 15
noncomputable def take_17 (x : List GC) (l : List GC) (y : List GC) (a0 : Int) (a1 : Int) (tr : Bool) (op : Bool) (cl : Bool) (en : Bool) (mo : Bool) (la0 : Int) (la1 : Int) (la2 : Int) : Int := bif cl then xi l 16 else bif !cvalid_0 (nrm x) || en || cmotion_0 (xi x 0) && mo && !(xi x 2 == la0 && (xi x 3 == la1 && xi x 4 == la2)) then xi l 16 else bif !op && cmotion_0 (xi x 0) && xi x 16 !=
   0 then begin_17 (nrm x) (nrm l) else bif !op then xi l 16 else bif cmotion_0 (xi x 0) && xi x 16 == 0 then finish_17 (nrm x) (nrm l) (nrm y) a0 a1 tr else xi l 16
noncomputable def take_18 (x : List GC) (l : List GC) (y : List GC) (a0 : Int) (a1 : Int) (tr : Bool) (op : Bool) (cl : Bool) (en : Bool) (mo : Bool) (la0 : Int) (la1 : Int) (la2 : Int) : Int := bif cl then xi l 17 else bif !cvalid_0 (nrm x) || en || cmotion_0 (xi x 0) && mo && !(xi x 2 == la0 && (xi x 3 == la1 && xi x 4 == la2)) then xi l 17 else bif !op && cmotion_0 (xi x 0) && xi x 16 !=
   0 then begin_18 (nrm x) (nrm l) else bif !op then xi l 17 else bif cmotion_0 (xi x 0) && xi x 16 == 0 then finish_18 (nrm x) (nrm l) (nrm y) a0 a1 tr else xi l 17
noncomputable def take_19 (x : List GC) (l : List GC) (y : List GC) (a0 : Int) (a1 : Int) (tr : Bool) (op : Bool) (cl : Bool) (en : Bool) (mo : Bool) (la0 : Int) (la1 : Int) (la2 : Int) : Int := bif cl then xi l 18 else bif !cvalid_0 (nrm x) || en || cmotion_0 (xi x 0) && mo && !(xi x 2 == la0 && (xi x 3 == la1 && xi x 4 == la2)) then xi l 18 else bif !op && cmotion_0 (xi x 0) && xi x 16 !=
   0 then begin_19 (nrm x) (nrm l) else bif !op then xi l 18 else bif cmotion_0 (xi x 0) && xi x 16 == 0 then finish_19 (nrm x) (nrm l) (nrm y) a0 a1 tr else xi l 18
noncomputable def take_20 (x : List GC) (l : List GC) (y : List GC) (a0 : Int) (a1 : Int) (tr : Bool) (op : Bool) (cl : Bool) (en : Bool) (mo : Bool) (la0 : Int) (la1 : Int) (la2 : Int) : Int := bif cl then xi l 19 else bif !cvalid_0 (nrm x) || en || cmotion_0 (xi x 0) && mo && !(xi x 2 == la0 && (xi x 3 == la1 && xi x 4 == la2)) then xi l 19 else bif !op && cmotion_0 (xi x 0) && xi x 16 !=
   0 then begin_20 (nrm x) (nrm l) else bif !op then xi l 19 else bif cmotion_0 (xi x 0) && xi x 16 == 0 then finish_20 (nrm x) (nrm l) (nrm y) a0 a1 tr else xi l 19
noncomputable def take_21 (x : List GC) (l : List GC) (y : List GC) (a0 : Int) (a1 : Int) (tr : Bool) (op : Bool) (cl : Bool) (en : Bool) (mo : Bool) (la0 : Int) (la1 : Int) (la2 : Int) : Int := bif cl then xi l 20 else bif !cvalid_0 (nrm x) || en || cmotion_0 (xi x 0) && mo && !(xi x 2 == la0 && (xi x 3 == la1 && xi x 4 == la2)) then xi l 20 else bif !op && cmotion_0 (xi x 0) && xi x 16 !=
   0 then begin_21 (nrm x) (nrm l) else bif !op then xi l 20 else bif cmotion_0 (xi x 0) && xi x 16 == 0 then finish_21 (nrm x) (nrm l) (nrm y) a0 a1 tr else xi l 20
noncomputable def take_22 (x : List GC) (l : List GC) (y : List GC) (a0 : Int) (a1 : Int) (tr : Bool) (op : Bool) (cl : Bool) (en : Bool) (mo : Bool) (la0 : Int) (la1 : Int) (la2 : Int) : Bool := bif cl then xb l 21 else bif !cvalid_0 (nrm x) || en || cmotion_0 (xi x 0) && mo && !(xi x 2 == la0 && (xi x 3 == la1 && xi x 4 == la2)) then xb l 21 else bif !op && cmotion_0 (xi x 0) && xi x 16 !=
   0 then begin_22 (nrm x) (nrm l) else bif !op then xb l 21 else bif cmotion_0 (xi x 0) && xi x 16 == 0 then finish_22 (nrm x) (nrm l) (nrm y) a0 a1 tr else xb l 21
noncomputable def take_23 (x : List GC) (l : List GC) (y : List GC) (a0 : Int) (a1 : Int) (tr : Bool) (op : Bool) (cl : Bool) (en : Bool) (mo : Bool) (la0 : Int) (la1 : Int) (la2 : Int) : Int := bif cl then xi y 0 else bif !cvalid_0 (nrm x) || en || cmotion_0 (xi x 0) && mo && !(xi x 2 == la0 && (xi x 3 == la1 && xi x 4 == la2)) then xi y 0 else bif !op && cmotion_0 (xi x 0) && xi x 16 != 0
   then begin_23 (nrm x) (nrm y) else bif !op then xi y 0 else bif cmotion_0 (xi x 0) && xi x 16 == 0 then finish_23 (nrm x) (nrm l) (nrm y) a0 a1 tr else inner_23 (nrm x) (nrm l) (nrm y) a0 a1 tr
noncomputable def take_24 (x : List GC) (l : List GC) (y : List GC) (a0 : Int) (a1 : Int) (tr : Bool) (op : Bool) (cl : Bool) (en : Bool) (mo : Bool) (la0 : Int) (la1 : Int) (la2 : Int) : Int := bif cl then xi y 1 else bif !cvalid_0 (nrm x) || en || cmotion_0 (xi x 0) && mo && !(xi x 2 == la0 && (xi x 3 == la1 && xi x 4 == la2)) then xi y 1 else bif !op && cmotion_0 (xi x 0) && xi x 16 != 0
   then begin_24 (nrm x) (nrm y) else bif !op then xi y 1 else bif cmotion_0 (xi x 0) && xi x 16 == 0 then finish_24 (nrm x) (nrm l) (nrm y) a0 a1 tr else inner_24 (nrm x) (nrm l) (nrm y) a0 a1 tr
noncomputable def take_25 (x : List GC) (l : List GC) (y : List GC) (a0 : Int) (a1 : Int) (tr : Bool) (op : Bool) (cl : Bool) (en : Bool) (mo : Bool) (la0 : Int) (la1 : Int) (la2 : Int) : Int := bif cl then xi y 2 else bif !cvalid_0 (nrm x) || en || cmotion_0 (xi x 0) && mo && !(xi x 2 == la0 && (xi x 3 == la1 && xi x 4 == la2)) then xi y 2 else bif !op && cmotion_0 (xi x 0) && xi x 16 != 0
   then begin_25 (nrm x) (nrm y) else bif !op then xi y 2 else bif cmotion_0 (xi x 0) && xi x 16 == 0 then finish_25 (nrm x) (nrm l) (nrm y) a0 a1 tr else inner_25 (nrm x) (nrm l) (nrm y) a0 a1 tr
noncomputable def take_26 (x : List GC) (l : List GC) (y : List GC) (a0 : Int) (a1 : Int) (tr : Bool) (op : Bool) (cl : Bool) (en : Bool) (mo : Bool) (la0 : Int) (la1 : Int) (la2 : Int) : Int := bif cl then xi y 3 else bif !cvalid_0 (nrm x) || en || cmotion_0 (xi x 0) && mo && !(xi x 2 == la0 && (xi x 3 == la1 && xi x 4 == la2)) then xi y 3 else bif !op && cmotion_0 (xi x 0) && xi x 16 != 0
   then begin_26 (nrm x) (nrm y) else bif !op then xi y 3 else bif cmotion_0 (xi x 0) && xi x 16 == 0 then finish_26 (nrm x) (nrm l) (nrm y) a0 a1 tr else inner_26 (nrm x) (nrm l) (nrm y) a0 a1 tr
noncomputable def take_27 (x : List GC) (l : List GC) (y : List GC) (a0 : Int) (a1 : Int) (tr : Bool) (op : Bool) (cl : Bool) (en : Bool) (mo : Bool) (la0 : Int) (la1 : Int) (la2 : Int) : Int := bif cl then xi y 4 else bif !cvalid_0 (nrm x) || en || cmotion_0 (xi x 0) && mo && !(xi x 2 == la0 && (xi x 3 == la1 && xi x 4 == la2)) then xi y 4 else bif !op && cmotion_0 (xi x 0) && xi x 16 != 0
   then begin_27 (nrm x) (nrm y) else bif !op then xi y 4 else bif cmotion_0 (xi x 0) && xi x 16 == 0 then finish_27 (nrm x) (nrm l) (nrm y) a0 a1 tr else inner_27 (nrm x) (nrm l) (nrm y) a0 a1 tr
noncomputable def take_28 (x : List GC) (l : List GC) (y : List GC) (a0 : Int) (a1 : Int) (tr : Bool) (op : Bool) (cl : Bool) (en : Bool) (mo : Bool) (la0 : Int) (la1 : Int) (la2 : Int) : Int := bif cl then xi y 5 else bif !cvalid_0 (nrm x) || en || cmotion_0 (xi x 0) && mo && !(xi x 2 == la0 && (xi x 3 == la1 && xi x 4 == la2)) then xi y 5 else bif !op && cmotion_0 (xi x 0) && xi x 16 != 0
   then begin_28 (nrm x) (nrm y) else bif !op then xi y 5 else bif cmotion_0 (xi x 0) && xi x 16 == 0 then finish_28 (nrm x) (nrm l) (nrm y) a0 a1 tr else inner_28 (nrm x) (nrm l) (nrm y) a0 a1 tr
noncomputable def take_29 (x : List GC) (l : List GC) (y : List GC) (a0 : Int) (a1 : Int) (tr : Bool) (op : Bool) (cl : Bool) (en : Bool) (mo : Bool) (la0 : Int) (la1 : Int) (la2 : Int) : Int := bif cl then xi y 6 else bif !cvalid_0 (nrm x) || en || cmotion_0 (xi x 0) && mo && !(xi x 2 == la0 && (xi x 3 == la1 && xi x 4 == la2)) then xi y 6 else bif !op && cmotion_0 (xi x 0) && xi x 16 != 0
   then begin_29 (nrm x) (nrm y) else bif !op then xi y 6 else bif cmotion_0 (xi x 0) && xi x 16 == 0 then finish_29 (nrm x) (nrm l) (nrm y) a0 a1 tr else inner_29 (nrm x) (nrm l) (nrm y) a0 a1 tr
noncomputable def take_30 (x : List GC) (l : List GC) (y : List GC) (a0 : Int) (a1 : Int) (tr : Bool) (op : Bool) (cl : Bool) (en : Bool) (mo : Bool) (la0 : Int) (la1 : Int) (la2 : Int) : Int := bif cl then xi y 7 else bif !cvalid_0 (nrm x) || en || cmotion_0 (xi x 0) && mo && !(xi x 2 == la0 && (xi x 3 == la1 && xi x 4 == la2)) then xi y 7 else bif !op && cmotion_0 (xi x 0) && xi x 16 != 0
   then begin_30 (nrm x) (nrm y) else bif !op then xi y 7 else bif cmotion_0 (xi x 0) && xi x 16 == 0 then finish_30 (nrm x) (nrm l) (nrm y) a0 a1 tr else inner_30 (nrm x) (nrm l) (nrm y) a0 a1 tr
noncomputable def take_31 (x : List GC) (l : List GC) (y : List GC) (a0 : Int) (a1 : Int) (tr : Bool) (op : Bool) (cl : Bool) (en : Bool) (mo : Bool) (la0 : Int) (la1 : Int) (la2 : Int) : Int := bif cl then xi y 8 else bif !cvalid_0 (nrm x) || en || cmotion_0 (xi x 0) && mo && !(xi x 2 == la0 && (xi x 3 == la1 && xi x 4 == la2)) then xi y 8 else bif !op && cmotion_0 (xi x 0) && xi x 16 != 0
   then begin_31 (nrm x) (nrm y) else bif !op then xi y 8 else bif cmotion_0 (xi x 0) && xi x 16 == 0 then finish_31 (nrm x) (nrm l) (nrm y) a0 a1 tr else inner_31 (nrm x) (nrm l) (nrm y) a0 a1 tr
noncomputable def take_32 (x : List GC) (l : List GC) (y : List GC) (a0 : Int) (a1 : Int) (tr : Bool) (op : Bool) (cl : Bool) (en : Bool) (mo : Bool) (la0 : Int) (la1 : Int) (la2 : Int) : Int := bif cl then xi y 9 else bif !cvalid_0 (nrm x) || en || cmotion_0 (xi x 0) && mo && !(xi x 2 == la0 && (xi x 3 == la1 && xi x 4 == la2)) then xi y 9 else bif !op && cmotion_0 (xi x 0) && xi x 16 != 0
   then begin_32 (nrm x) (nrm y) else bif !op then xi y 9 else bif cmotion_0 (xi x 0) && xi x 16 == 0 then finish_32 (nrm x) (nrm l) (nrm y) a0 a1 tr else inner_32 (nrm x) (nrm l) (nrm y) a0 a1 tr
noncomputable def take_33 (x : List GC) (l : List GC) (y : List GC) (a0 : Int) (a1 : Int) (tr : Bool) (op : Bool) (cl : Bool) (en : Bool) (mo : Bool) (la0 : Int) (la1 : Int) (la2 : Int) : Int := bif cl then xi y 10 else bif !cvalid_0 (nrm x) || en || cmotion_0 (xi x 0) && mo && !(xi x 2 == la0 && (xi x 3 == la1 && xi x 4 == la2)) then xi y 10 else bif !op && cmotion_0 (xi x 0) && xi x 16 !=
   0 then begin_33 (nrm x) (nrm y) else bif !op then xi y 10 else bif cmotion_0 (xi x 0) && xi x 16 == 0 then finish_33 (nrm x) (nrm l) (nrm y) a0 a1 tr else inner_33 (nrm x) (nrm l) (nrm y) a0 a1 tr
noncomputable def take_34 (x : List GC) (l : List GC) (y : List GC) (a0 : Int) (a1 : Int) (tr : Bool) (op : Bool) (cl : Bool) (en : Bool) (mo : Bool) (la0 : Int) (la1 : Int) (la2 : Int) : Int := bif cl then xi y 11 else bif !cvalid_0 (nrm x) || en || cmotion_0 (xi x 0) && mo && !(xi x 2 == la0 && (xi x 3 == la1 && xi x 4 == la2)) then xi y 11 else bif !op && cmotion_0 (xi x 0) && xi x 16 !=
   0 then begin_34 (nrm x) (nrm y) else bif !op then xi y 11 else bif cmotion_0 (xi x 0) && xi x 16 == 0 then finish_34 (nrm x) (nrm l) (nrm y) a0 a1 tr else inner_34 (nrm x) (nrm l) (nrm y) a0 a1 tr
noncomputable def take_35 (x : List GC) (l : List GC) (y : List GC) (a0 : Int) (a1 : Int) (tr : Bool) (op : Bool) (cl : Bool) (en : Bool) (mo : Bool) (la0 : Int) (la1 : Int) (la2 : Int) : Int := bif cl then xi y 12 else bif !cvalid_0 (nrm x) || en || cmotion_0 (xi x 0) && mo && !(xi x 2 == la0 && (xi x 3 == la1 && xi x 4 == la2)) then xi y 12 else bif !op && cmotion_0 (xi x 0) && xi x 16 !=
   0 then begin_35 (nrm x) (nrm y) else bif !op then xi y 12 else bif cmotion_0 (xi x 0) && xi x 16 == 0 then finish_35 (nrm x) (nrm l) (nrm y) a0 a1 tr else inner_35 (nrm x) (nrm l) (nrm y) a0 a1 tr
noncomputable def take_36 (x : List GC) (l : List GC) (y : List GC) (a0 : Int) (a1 : Int) (tr : Bool) (op : Bool) (cl : Bool) (en : Bool) (mo : Bool) (la0 : Int) (la1 : Int) (la2 : Int) : Bool := bif cl then xb y 13 else bif !cvalid_0 (nrm x) || en || cmotion_0 (xi x 0) && mo && !(xi x 2 == la0 && (xi x 3 == la1 && xi x 4 == la2)) then xb y 13 else bif !op && cmotion_0 (xi x 0) && xi x 16 !=
   0 then begin_36 (nrm x) (nrm y) else bif !op then xb y 13 else bif cmotion_0 (xi x 0) && xi x 16 == 0 then finish_36 (nrm x) (nrm l) (nrm y) a0 a1 tr else inner_36 (nrm x) (nrm l) (nrm y) a0 a1 tr
noncomputable def take_37 (x : List GC) (l : List GC) (y : List GC) (a0 : Int) (a1 : Int) (tr : Bool) (op : Bool) (cl : Bool) (en : Bool) (mo : Bool) (la0 : Int) (la1 : Int) (la2 : Int) : Int := bif cl then xi y 14 else bif !cvalid_0 (nrm x) || en || cmotion_0 (xi x 0) && mo && !(xi x 2 == la0 && (xi x 3 == la1 && xi x 4 == la2)) then xi y 14 else bif !op && cmotion_0 (xi x 0) && xi x 16 !=
   0 then begin_37 (nrm x) (nrm y) else bif !op then xi y 14 else bif cmotion_0 (xi x 0) && xi x 16 == 0 then finish_37 (nrm x) (nrm l) (nrm y) a0 a1 tr else inner_37 (nrm x) (nrm l) (nrm y) a0 a1 tr
noncomputable def take_38 (x : List GC) (l : List GC) (y : List GC) (a0 : Int) (a1 : Int) (tr : Bool) (op : Bool) (cl : Bool) (en : Bool) (mo : Bool) (la0 : Int) (la1 : Int) (la2 : Int) : Bool := bif cl then xb y 15 else bif !cvalid_0 (nrm x) || en || cmotion_0 (xi x 0) && mo && !(xi x 2 == la0 && (xi x 3 == la1 && xi x 4 == la2)) then xb y 15 else bif !op && cmotion_0 (xi x 0) && xi x 16 !=
   0 then begin_38 (nrm x) (nrm y) else bif !op then xb y 15 else bif cmotion_0 (xi x 0) && xi x 16 == 0 then finish_38 (nrm x) (nrm l) (nrm y) a0 a1 tr else inner_38 (nrm x) (nrm l) (nrm y) a0 a1 tr
noncomputable def take_39 (x : List GC) (l : List GC) (y : List GC) (a0 : Int) (a1 : Int) (tr : Bool) (op : Bool) (cl : Bool) (en : Bool) (mo : Bool) (la0 : Int) (la1 : Int) (la2 : Int) : Int := bif cl then xi y 16 else bif !cvalid_0 (nrm x) || en || cmotion_0 (xi x 0) && mo && !(xi x 2 == la0 && (xi x 3 == la1 && xi x 4 == la2)) then xi y 16 else bif !op && cmotion_0 (xi x 0) && xi x 16 !=
   0 then begin_39 (nrm x) (nrm y) else bif !op then xi y 16 else bif cmotion_0 (xi x 0) && xi x 16 == 0 then finish_39 (nrm x) (nrm l) (nrm y) a0 a1 tr else inner_39 (nrm x) (nrm l) (nrm y) a0 a1 tr
noncomputable def take_40 (x : List GC) (l : List GC) (y : List GC) (a0 : Int) (a1 : Int) (tr : Bool) (op : Bool) (cl : Bool) (en : Bool) (mo : Bool) (la0 : Int) (la1 : Int) (la2 : Int) : Int := bif cl then xi y 17 else bif !cvalid_0 (nrm x) || en || cmotion_0 (xi x 0) && mo && !(xi x 2 == la0 && (xi x 3 == la1 && xi x 4 == la2)) then xi y 17 else bif !op && cmotion_0 (xi x 0) && xi x 16 !=
   0 then begin_40 (nrm x) (nrm y) else bif !op then xi y 17 else bif cmotion_0 (xi x 0) && xi x 16 == 0 then finish_40 (nrm x) (nrm l) (nrm y) a0 a1 tr else inner_40 (nrm x) (nrm l) (nrm y) a0 a1 tr
noncomputable def take_41 (x : List GC) (l : List GC) (y : List GC) (a0 : Int) (a1 : Int) (tr : Bool) (op : Bool) (cl : Bool) (en : Bool) (mo : Bool) (la0 : Int) (la1 : Int) (la2 : Int) : Int := bif cl then xi y 18 else bif !cvalid_0 (nrm x) || en || cmotion_0 (xi x 0) && mo && !(xi x 2 == la0 && (xi x 3 == la1 && xi x 4 == la2)) then xi y 18 else bif !op && cmotion_0 (xi x 0) && xi x 16 !=
   0 then begin_41 (nrm x) (nrm y) else bif !op then xi y 18 else bif cmotion_0 (xi x 0) && xi x 16 == 0 then finish_41 (nrm x) (nrm l) (nrm y) a0 a1 tr else inner_41 (nrm x) (nrm l) (nrm y) a0 a1 tr
noncomputable def take_42 (x : List GC) (l : List GC) (y : List GC) (a0 : Int) (a1 : Int) (tr : Bool) (op : Bool) (cl : Bool) (en : Bool) (mo : Bool) (la0 : Int) (la1 : Int) (la2 : Int) : Int := bif cl then xi y 19 else bif !cvalid_0 (nrm x) || en || cmotion_0 (xi x 0) && mo && !(xi x 2 == la0 && (xi x 3 == la1 && xi x 4 == la2)) then xi y 19 else bif !op && cmotion_0 (xi x 0) && xi x 16 !=
   0 then begin_42 (nrm x) (nrm y) else bif !op then xi y 19 else bif cmotion_0 (xi x 0) && xi x 16 == 0 then finish_42 (nrm x) (nrm l) (nrm y) a0 a1 tr else inner_42 (nrm x) (nrm l) (nrm y) a0 a1 tr
noncomputable def take_43 (x : List GC) (l : List GC) (y : List GC) (a0 : Int) (a1 : Int) (tr : Bool) (op : Bool) (cl : Bool) (en : Bool) (mo : Bool) (la0 : Int) (la1 : Int) (la2 : Int) : Int := bif cl then xi y 20 else bif !cvalid_0 (nrm x) || en || cmotion_0 (xi x 0) && mo && !(xi x 2 == la0 && (xi x 3 == la1 && xi x 4 == la2)) then xi y 20 else bif !op && cmotion_0 (xi x 0) && xi x 16 !=
   0 then begin_43 (nrm x) (nrm y) else bif !op then xi y 20 else bif cmotion_0 (xi x 0) && xi x 16 == 0 then finish_43 (nrm x) (nrm l) (nrm y) a0 a1 tr else inner_43 (nrm x) (nrm l) (nrm y) a0 a1 tr
noncomputable def take_44 (x : List GC) (l : List GC) (y : List GC) (a0 : Int) (a1 : Int) (tr : Bool) (op : Bool) (cl : Bool) (en : Bool) (mo : Bool) (la0 : Int) (la1 : Int) (la2 : Int) : Bool := bif cl then xb y 21 else bif !cvalid_0 (nrm x) || en || cmotion_0 (xi x 0) && mo && !(xi x 2 == la0 && (xi x 3 == la1 && xi x 4 == la2)) then xb y 21 else bif !op && cmotion_0 (xi x 0) && xi x 16 !=
   0 then begin_44 (nrm x) (nrm y) else bif !op then xb y 21 else bif cmotion_0 (xi x 0) && xi x 16 == 0 then finish_44 (nrm x) (nrm l) (nrm y) a0 a1 tr else inner_44 (nrm x) (nrm l) (nrm y) a0 a1 tr
noncomputable def take_45 (x : List GC) (l : List GC) (y : List GC) (a0 : Int) (a1 : Int) (tr : Bool) (op : Bool) (cl : Bool) (en : Bool) (mo : Bool) (la0 : Int) (la1 : Int) (la2 : Int) : Int := bif cl then a0 else bif !cvalid_0 (nrm x) || en || cmotion_0 (xi x 0) && mo && !(xi x 2 == la0 && (xi x 3 == la1 && xi x 4 == la2)) then a0 else bif !op && cmotion_0 (xi x 0) && xi x 16 != 0 then
   begin_45 (nrm x) a0 else bif !op then a0 else bif cmotion_0 (xi x 0) && xi x 16 == 0 then finish_45 (nrm x) (nrm l) (nrm y) a0 a1 tr else inner_45 (nrm x) (nrm l) (nrm y) a0 a1 tr
noncomputable def take_46 (x : List GC) (l : List GC) (y : List GC) (a0 : Int) (a1 : Int) (tr : Bool) (op : Bool) (cl : Bool) (en : Bool) (mo : Bool) (la0 : Int) (la1 : Int) (la2 : Int) : Int := bif cl then a1 else bif !cvalid_0 (nrm x) || en || cmotion_0 (xi x 0) && mo && !(xi x 2 == la0 && (xi x 3 == la1 && xi x 4 == la2)) then a1 else bif !op && cmotion_0 (xi x 0) && xi x 16 != 0 then
   begin_45 (nrm x) a1 else bif !op then a1 else bif cmotion_0 (xi x 0) && xi x 16 == 0 then finish_46 (nrm x) (nrm l) (nrm y) a0 a1 tr else inner_46 (nrm x) (nrm l) (nrm y) a0 a1 tr
noncomputable def take_47 (x : List GC) (l : List GC) (y : List GC) (a0 : Int) (a1 : Int) (tr : Bool) (op : Bool) (cl : Bool) (en : Bool) (mo : Bool) (la0 : Int) (la1 : Int) (la2 : Int) : Bool := bif cl then tr else bif !cvalid_0 (nrm x) || en || cmotion_0 (xi x 0) && mo && !(xi x 2 == la0 && (xi x 3 == la1 && xi x 4 == la2)) then tr else bif !op && cmotion_0 (xi x 0) && xi x 16 != 0 then
   begin_47 (nrm x) tr else bif !op then tr else bif cmotion_0 (xi x 0) && xi x 16 == 0 then finish_47 (nrm x) (nrm l) (nrm y) a0 a1 tr else inner_47 (nrm x) (nrm l) (nrm y) a0 a1 tr
noncomputable def take_48 (x : List GC) (l : List GC) (y : List GC) (a0 : Int) (a1 : Int) (tr : Bool) (op : Bool) (cl : Bool) (en : Bool) (mo : Bool) (la0 : Int) (la1 : Int) (la2 : Int) : Bool := bif cl then op else bif !cvalid_0 (nrm x) || en || cmotion_0 (xi x 0) && mo && !(xi x 2 == la0 && (xi x 3 == la1 && xi x 4 == la2)) then op else bif !op && cmotion_0 (xi x 0) && xi x 16 != 0 then
   begin_48 (nrm x) op else bif !op then op else bif cmotion_0 (xi x 0) && xi x 16 == 0 then finish_48 (nrm x) (nrm l) (nrm y) a0 a1 tr op else op
noncomputable def take_49 (x : List GC) (cl : Bool) (en : Bool) (mo : Bool) (la0 : Int) (la1 : Int) (la2 : Int) : Bool := bif cl then en else bif !cvalid_0 (nrm x) || en || cmotion_0 (xi x 0) && mo && !(xi x 2 == la0 && (xi x 3 == la1 && xi x 4 == la2)) then en else xi x 0 == 14
noncomputable def take_50 (x : List GC) (cl : Bool) (en : Bool) (mo : Bool) (la0 : Int) (la1 : Int) (la2 : Int) : Bool := bif cl then mo else bif !cvalid_0 (nrm x) || en || cmotion_0 (xi x 0) && mo && !(xi x 2 == la0 && (xi x 3 == la1 && xi x 4 == la2)) then mo else cmotion_0 (xi x 0) || mo
noncomputable def take_51 (x : List GC) (cl : Bool) (en : Bool) (mo : Bool) (la0 : Int) (la1 : Int) (la2 : Int) : Int := bif cl then la0 else bif !cvalid_0 (nrm x) || en || cmotion_0 (xi x 0) && mo && !(xi x 2 == la0 && (xi x 3 == la1 && xi x 4 == la2)) then la0 else bif cmotion_0 (xi x 0) then xi x 5 else la0
noncomputable def take_52 (x : List GC) (cl : Bool) (en : Bool) (mo : Bool) (la0 : Int) (la1 : Int) (la2 : Int) : Int := bif cl then la1 else bif !cvalid_0 (nrm x) || en || cmotion_0 (xi x 0) && mo && !(xi x 2 == la0 && (xi x 3 == la1 && xi x 4 == la2)) then la1 else bif cmotion_0 (xi x 0) then xi x 6 else la1
noncomputable def take_53 (x : List GC) (cl : Bool) (en : Bool) (mo : Bool) (la0 : Int) (la1 : Int) (la2 : Int) : Int := bif cl then la2 else bif !cvalid_0 (nrm x) || en || cmotion_0 (xi x 0) && mo && !(xi x 2 == la0 && (xi x 3 == la1 && xi x 4 == la2)) then la2 else bif cmotion_0 (xi x 0) then xi x 7 else la2
noncomputable def take_54 (x : List GC) (l : List GC) (y : List GC) (a0 : Int) (a1 : Int) (tr : Bool) (op : Bool) (cl : Bool) (en : Bool) (mo : Bool) (la0 : Int) (la1 : Int) (la2 : Int) (C : List (List Int)) (O : List (List Int)) : List (List Int) := bif cl then O else bif !cvalid_0 (nrm x) || en || cmotion_0 (xi x 0) && mo && !(xi x 2 == la0 && (xi x 3 == la1 && xi x 4 == la2)) then O else bif !op && cmotion_0 (xi x 0) && xi x 16 != 0 then O
   else bif !op then O ++ [toRow x] else bif cmotion_0 (xi x 0) && xi x 16 == 0 then finish_49 (nrm x) (nrm l) (nrm y) a0 a1 tr C O else inner_48 (nrm x) (nrm l) (nrm y) a0 a1 tr C O
noncomputable def take_55 (x : List GC) (l : List GC) (y : List GC) (a0 : Int) (a1 : Int) (tr : Bool) (op : Bool) (cl : Bool) (en : Bool) (mo : Bool) (la0 : Int) (la1 : Int) (la2 : Int) (C : List (List Int)) : List (List Int) := bif cl then C else bif !cvalid_0 (nrm x) || en || cmotion_0 (xi x 0) && mo && !(xi x 2 == la0 && (xi x 3 == la1 && xi x 4 == la2)) then C else bif !op && cmotion_0 (xi x 0) && xi x 16 != 0 then
   begin_49 (nrm x) C else bif !op then C else bif cmotion_0 (xi x 0) && xi x 16 == 0 then finish_50 (nrm x) (nrm l) (nrm y) a0 a1 tr C else inner_49 (nrm x) (nrm l) (nrm y) a0 a1 tr C
noncomputable def take_s0 (x : List GC) (op : Bool) : Prop := (!op && cmotion_0 (xi x 0) && xi x 16 != 0) = false
noncomputable def take_s1 (C : List (List Int)) (O : List (List Int)) : Prop := C.length ≤ 1000 ∧ O.length ≤ 800000
noncomputable def take_needs (x : List GC) (op : Bool) (cl : Bool) (en : Bool) (mo : Bool) (la0 : Int) (la1 : Int) (la2 : Int) (C : List (List Int)) (O : List (List Int)) : List Prop := [cl = false → (!cvalid_0 (nrm x) || en || cmotion_0 (xi x 0) && mo && !(xi x 2 == la0 && (xi x 3 == la1 && xi x 4 == la2))) = false → (take_s0 x op → ((!op) = true → (O.length + 1) * 176 ≤
   140737488355328 ∧ O.length + 1 ≤ 9223372036854775807) ∧ ((!op) = false → (cmotion_0 (xi x 0) && xi x 16 == 0) = true → take_s1 C O)) ∧ (take_s0 x op → (!op) = false → (cmotion_0 (xi x 0) && xi x 16
   == 0) = false → take_s1 C O)]
theorem take_weak {x : List GC} {op : Bool} {cl : Bool} {en : Bool} {mo : Bool} {la0 : Int} {la1 : Int} {la2 : Int} {C : List (List Int)} {O : List (List Int)} (hW : ∀ q ∈ ([C.length ≤ 1000, O.length ≤ 800000] : List Prop), q) : ∀ q ∈ (take_needs x op cl en mo la0 la1 la2 C O), q := by
  simp only [List.mem_cons, List.not_mem_nil, or_false, forall_eq_or_imp, forall_eq] at hW
  unfold take_needs
  simp only [List.forall_mem_cons, List.not_mem_nil, false_implies, implies_true, and_true]
  obtain ⟨h1, h2⟩ := hW
  exact fun _ _ => ⟨fun _ => ⟨fun _ => ⟨by omega, by omega⟩, fun _ _ => ⟨h1, h2⟩⟩, fun _ _ _ => ⟨h1, h2⟩⟩
noncomputable def v10_c3 (x : List GC) (l : List GC) (y : List GC) (a0 : Int) (a1 : Int) (tr : Bool) (op : Bool) (cl : Bool) (en : Bool) (mo : Bool) (la0 : Int) (la1 : Int) (la2 : Int) (er : Int) (C : List (List Int)) (O : List (List Int)) := [(0, Obj.blk 66 [(102640, SC.int IntKind.i64 (SI.v (take_1 x l y a0 a1 tr op cl en mo la0 la1 la2))), (102641, SC.int IntKind.i64 (SI.v (take_2 x l y a0 a1 tr op cl en mo la0 la1 la2))), (102642,
   SC.int IntKind.i64 (SI.v (take_3 x l y a0 a1 tr op cl en mo la0 la1 la2))), (102643, SC.int IntKind.i64 (SI.v (take_4 x l y a0 a1 tr op cl en mo la0 la1 la2))), (102644, SC.int IntKind.i64 (SI.v
   (take_5 x l y a0 a1 tr op cl en mo la0 la1 la2))), (102645, SC.int IntKind.i64 (SI.v (take_6 x l y a0 a1 tr op cl en mo la0 la1 la2))), (102646, SC.int IntKind.i64 (SI.v (take_7 x l y a0 a1 tr op cl
   en mo la0 la1 la2))), (102647, SC.int IntKind.i64 (SI.v (take_8 x l y a0 a1 tr op cl en mo la0 la1 la2))), (102648, SC.int IntKind.i64 (SI.v (take_9 x l y a0 a1 tr op cl en mo la0 la1 la2))),
   (102649, SC.int IntKind.i64 (SI.v (take_10 x l y a0 a1 tr op cl en mo la0 la1 la2))), (102650, SC.int IntKind.i64 (SI.v (take_11 x l y a0 a1 tr op cl en mo la0 la1 la2))), (102651, SC.int IntKind.i64
   (SI.v (take_12 x l y a0 a1 tr op cl en mo la0 la1 la2))), (102652, SC.int IntKind.i64 (SI.v (take_13 x l y a0 a1 tr op cl en mo la0 la1 la2))), (102653, SC.bool (SB.v (take_14 x l y a0 a1 tr op cl en
   mo la0 la1 la2))), (102654, SC.int IntKind.i64 (SI.v (take_15 x l y a0 a1 tr op cl en mo la0 la1 la2))), (102655, SC.bool (SB.v (take_16 x l y a0 a1 tr op cl en mo la0 la1 la2))), (102656, SC.int
   IntKind.i64 (SI.v (take_17 x l y a0 a1 tr op cl en mo la0 la1 la2))), (102657, SC.int IntKind.i64 (SI.v (take_18 x l y a0 a1 tr op cl en mo la0 la1 la2))), (102658, SC.int IntKind.i64 (SI.v (take_19
   x l y a0 a1 tr op cl en mo la0 la1 la2))), (102659, SC.int IntKind.i64 (SI.v (take_20 x l y a0 a1 tr op cl en mo la0 la1 la2))), (102660, SC.int IntKind.i64 (SI.v (take_21 x l y a0 a1 tr op cl en mo
   la0 la1 la2))), (102661, SC.bool (SB.v (take_22 x l y a0 a1 tr op cl en mo la0 la1 la2))), (102662, SC.int IntKind.i64 (SI.v (take_23 x l y a0 a1 tr op cl en mo la0 la1 la2))), (102663, SC.int
   IntKind.i64 (SI.v (take_24 x l y a0 a1 tr op cl en mo la0 la1 la2))), (102664, SC.int IntKind.i64 (SI.v (take_25 x l y a0 a1 tr op cl en mo la0 la1 la2))), (102665, SC.int IntKind.i64 (SI.v (take_26
   x l y a0 a1 tr op cl en mo la0 la1 la2))), (102666, SC.int IntKind.i64 (SI.v (take_27 x l y a0 a1 tr op cl en mo la0 la1 la2))), (102667, SC.int IntKind.i64 (SI.v (take_28 x l y a0 a1 tr op cl en mo
   la0 la1 la2))), (102668, SC.int IntKind.i64 (SI.v (take_29 x l y a0 a1 tr op cl en mo la0 la1 la2))), (102669, SC.int IntKind.i64 (SI.v (take_30 x l y a0 a1 tr op cl en mo la0 la1 la2))), (102670,
   SC.int IntKind.i64 (SI.v (take_31 x l y a0 a1 tr op cl en mo la0 la1 la2))), (102671, SC.int IntKind.i64 (SI.v (take_32 x l y a0 a1 tr op cl en mo la0 la1 la2))), (102672, SC.int IntKind.i64 (SI.v
   (take_33 x l y a0 a1 tr op cl en mo la0 la1 la2))), (102673, SC.int IntKind.i64 (SI.v (take_34 x l y a0 a1 tr op cl en mo la0 la1 la2))), (102674, SC.int IntKind.i64 (SI.v (take_35 x l y a0 a1 tr op
   cl en mo la0 la1 la2))), (102675, SC.bool (SB.v (take_36 x l y a0 a1 tr op cl en mo la0 la1 la2))), (102676, SC.int IntKind.i64 (SI.v (take_37 x l y a0 a1 tr op cl en mo la0 la1 la2))), (102677,
   SC.bool (SB.v (take_38 x l y a0 a1 tr op cl en mo la0 la1 la2))), (102678, SC.int IntKind.i64 (SI.v (take_39 x l y a0 a1 tr op cl en mo la0 la1 la2))), (102679, SC.int IntKind.i64 (SI.v (take_40 x l
   y a0 a1 tr op cl en mo la0 la1 la2))), (102680, SC.int IntKind.i64 (SI.v (take_41 x l y a0 a1 tr op cl en mo la0 la1 la2))), (102681, SC.int IntKind.i64 (SI.v (take_42 x l y a0 a1 tr op cl en mo la0
   la1 la2))), (102682, SC.int IntKind.i64 (SI.v (take_43 x l y a0 a1 tr op cl en mo la0 la1 la2))), (102683, SC.bool (SB.v (take_44 x l y a0 a1 tr op cl en mo la0 la1 la2))), (102684, SC.int
   IntKind.i64 (SI.v (take_45 x l y a0 a1 tr op cl en mo la0 la1 la2))), (102685, SC.int IntKind.i64 (SI.v (take_46 x l y a0 a1 tr op cl en mo la0 la1 la2))), (102686, SC.bool (SB.v (take_47 x l y a0 a1
   tr op cl en mo la0 la1 la2))), (102634, SC.wh 102632), (102687, SC.bool (SB.v (take_48 x l y a0 a1 tr op cl en mo la0 la1 la2))), (52, SC.bool (SB.v cl)), (102688, SC.bool (SB.v (take_49 x cl en mo
   la0 la1 la2))), (102689, SC.bool (SB.v (take_50 x cl en mo la0 la1 la2))), (102690, SC.int IntKind.i64 (SI.v (take_51 x cl en mo la0 la1 la2))), (102691, SC.int IntKind.i64 (SI.v (take_52 x cl en mo
   la0 la1 la2))), (102692, SC.int IntKind.i64 (SI.v (take_53 x cl en mo la0 la1 la2))), (102637, SC.wh 102635), (59, SC.int IntKind.i64 (SI.v er))]), (102635, Obj.row false 32 22 (RowC.lst 102639
   v10_c0 (take_54 x l y a0 a1 tr op cl en mo la0 la1 la2 C O))), (102632, Obj.row false 32 22 (RowC.lst 102638 v10_c0 (take_55 x l y a0 a1 tr op cl en mo la0 la1 la2 C)))]
set_option maxRecDepth 1000000 in
theorem take_runs (x l y : List GC) (a0 a1 : Int) (tr op cl en mo : Bool) (la0 la1 la2 er : Int) (C O : List (List Int)) (hNeeds : ∀ pN ∈ (take_needs x op cl en mo la0 la1 la2 C O), pN) : Runs (runF (sums K_inner) L_rel 32) (take_tpl.args (spread take_sp [.v x, .v l, .v y, .i a0, .i a1, .b tr, .b op, .b cl, .b en, .b mo, .i la0, .i la1, .i la2, .i er])) (take_tpl.memo (spread take_sp [.v x, .v l, .v y, .i a0, .i a1, .b tr, .b op, .b cl, .b en, .b mo, .i la0, .i la1, .i la2, .i er]) [C, O]) take_tpl.n (SV.one (SC.int IntKind.i64 (SI.v (take_0 x l y a0 a1 tr op cl en mo la0 la1 la2 C)))) ((v10_c3 x l y a0 a1 tr op cl en mo la0 la1 la2 er C O)) :=
  Runs.of1 (ps := (take_needs x op cl en mo la0 la1 la2 C O)) (by kernel_rfl) hNeeds
noncomputable def take_out : List Gm → Lss → Option CRes
  | [.v x, .v l, .v y, .i a0, .i a1, .b tr, .b op, .b cl, .b en, .b mo, .i la0, .i la1, .i la2, .i er], [C, O] => some ⟨SV.one (SC.int IntKind.i64 (SI.v (take_0 x l y a0 a1 tr op cl en mo la0 la1 la2 C))), (v10_c3 x l y a0 a1 tr op cl en mo la0 la1 la2 er C O), [C.length ≤ 1000, O.length ≤ 800000], [], 102693⟩
  | _, _ => none
theorem take_ok : FOk Try.prog 32 (tplG take_sp take_tpl take_out) := by
  refine tplG_ok (runF_ok known_inner 32) fun ps ls r hr hn _ => ?_
  unfold take_out at hr
  split at hr
  · cases hr; exact ⟨_, take_runs _ _ _ _ _ _ _ _ _ _ _ _ _ _ _ _ (take_weak (by exact hn)), fun _ => rfl⟩
  · cases hr
noncomputable def K_take : List (Nat × Summ) := (32, tplG take_sp take_tpl take_out) :: K_inner
theorem known_take : Known Try.prog (sums K_take) L_rel := known_cons known_inner take_ok
noncomputable def settled_tpl : Tpl := ⟨[.one (.ptr 0 0)], [(0, .blk 66 [(3, .int .i64), (4, .int .i64), (5, .int .i64), (6, .int .i64), (7, .int .i64), (8, .int .i64), (9, .int .i64), (10, .int .i64), (11, .int .i64), (12, .int .i64), (13, .int .i64), (14, .int .i64), (15, .int .i64), (16, .bool), (17, .int .i64), (18, .bool), (19, .int .i64), (20, .int .i64), (21, .int .i64), (22, .int .i64), (23, .int .i64), (24, .bool), (25, .int .i64), (26, .int .i64), (27, .int .i64), (28, .int .i64), (29, .int .i64), (30, .int .i64), (31, .int .i64), (32, .int .i64), (33, .int .i64), (34, .int .i64), (35, .int .i64), (36, .int .i64), (37, .int .i64), (38, .bool), (39, .int .i64), (40, .bool), (41, .int .i64), (42, .int .i64), (43, .int .i64), (44, .int .i64), (45, .int .i64), (46, .bool), (47, .int .i64), (48, .int .i64), (49, .bool), (50, .wh 1), (51, .bool), (52, .bool), (53, .bool), (54, .bool), (55, .int .i64), (56, .int .i64), (57, .int .i64), (58, .wh 2), (59, .int .i64)]), (1, .row false 32 22 60 [.int .i64, .int .i64, .int .i64, .int .i64, .int .i64, .int .i64, .int .i64, .int .i64, .int .i64, .int .i64, .int .i64, .int .i64, .int .i64, .bool, .int .i64, .bool, .int .i64, .int .i64, .int .i64, .int .i64, .int .i64, .bool]), (2, .row false 32 22 61 [.int .i64, .int .i64, .int .i64, .int .i64, .int .i64, .int .i64, .int .i64, .int .i64, .int .i64, .int .i64, .int .i64, .int .i64, .int .i64, .bool, .int .i64, .bool, .int .i64, .int .i64, .int .i64, .int .i64, .int .i64, .bool])], 62⟩
noncomputable def settled_sp : List GK := [.v itemB, .v itemB, .i, .i, .b, .b, .b, .b, .b, .i, .i, .i, .i]
noncomputable def settled_45 (er : Int) (O : List (List Int)) : List (List Int) := bif er != 0 then [] else O
noncomputable def v10_c6 (l : List GC) (y : List GC) (a0 : Int) (a1 : Int) (tr : Bool) (op : Bool) (cl : Bool) (en : Bool) (mo : Bool) (la0 : Int) (la1 : Int) (la2 : Int) (er : Int) (O : List (List Int)) (C : List (List Int)) := [(0, Obj.blk 66 [(3, SC.int IntKind.i64 (SI.v (xi l 0))), (4, SC.int IntKind.i64 (SI.v (xi l 1))), (5, SC.int IntKind.i64 (SI.v (xi l 2))), (6, SC.int IntKind.i64 (SI.v (xi l 3))), (7, SC.int
   IntKind.i64 (SI.v (xi l 4))), (8, SC.int IntKind.i64 (SI.v (xi l 5))), (9, SC.int IntKind.i64 (SI.v (xi l 6))), (10, SC.int IntKind.i64 (SI.v (xi l 7))), (11, SC.int IntKind.i64 (SI.v (xi l 8))),
   (12, SC.int IntKind.i64 (SI.v (xi l 9))), (13, SC.int IntKind.i64 (SI.v (xi l 10))), (14, SC.int IntKind.i64 (SI.v (xi l 11))), (15, SC.int IntKind.i64 (SI.v (xi l 12))), (16, SC.bool (SB.v (xb l
   13))), (17, SC.int IntKind.i64 (SI.v (xi l 14))), (18, SC.bool (SB.v (xb l 15))), (19, SC.int IntKind.i64 (SI.v (xi l 16))), (20, SC.int IntKind.i64 (SI.v (xi l 17))), (21, SC.int IntKind.i64 (SI.v
   (xi l 18))), (22, SC.int IntKind.i64 (SI.v (xi l 19))), (23, SC.int IntKind.i64 (SI.v (xi l 20))), (24, SC.bool (SB.v (xb l 21))), (25, SC.int IntKind.i64 (SI.v (xi y 0))), (26, SC.int IntKind.i64
   (SI.v (xi y 1))), (27, SC.int IntKind.i64 (SI.v (xi y 2))), (28, SC.int IntKind.i64 (SI.v (xi y 3))), (29, SC.int IntKind.i64 (SI.v (xi y 4))), (30, SC.int IntKind.i64 (SI.v (xi y 5))), (31, SC.int
   IntKind.i64 (SI.v (xi y 6))), (32, SC.int IntKind.i64 (SI.v (xi y 7))), (33, SC.int IntKind.i64 (SI.v (xi y 8))), (34, SC.int IntKind.i64 (SI.v (xi y 9))), (35, SC.int IntKind.i64 (SI.v (xi y 10))),
   (36, SC.int IntKind.i64 (SI.v (xi y 11))), (37, SC.int IntKind.i64 (SI.v (xi y 12))), (38, SC.bool (SB.v (xb y 13))), (39, SC.int IntKind.i64 (SI.v (xi y 14))), (40, SC.bool (SB.v (xb y 15))), (41,
   SC.int IntKind.i64 (SI.v (xi y 16))), (42, SC.int IntKind.i64 (SI.v (xi y 17))), (43, SC.int IntKind.i64 (SI.v (xi y 18))), (44, SC.int IntKind.i64 (SI.v (xi y 19))), (45, SC.int IntKind.i64 (SI.v
   (xi y 20))), (46, SC.bool (SB.v (xb y 21))), (47, SC.int IntKind.i64 (SI.v a0)), (48, SC.int IntKind.i64 (SI.v a1)), (49, SC.bool (SB.v tr)), (50, SC.wh 1), (51, SC.bool (SB.v op)), (52, SC.bool
   (SB.v cl)), (53, SC.bool (SB.v en)), (54, SC.bool (SB.v mo)), (55, SC.int IntKind.i64 (SI.v la0)), (56, SC.int IntKind.i64 (SI.v la1)), (57, SC.int IntKind.i64 (SI.v la2)), (92, SC.wh 90), (59,
   SC.int IntKind.i64 (SI.v er))]), (90, Obj.row false 32 22 (RowC.lit 91 [])), (89, Obj.row false 32 22 (RowC.lst 88 v10_c0 (settled_45 er O))), (1, Obj.row false 32 22 (RowC.lst 60 v10_c0 C))]
set_option maxRecDepth 1000000 in
theorem settled_runs (l y : List GC) (a0 a1 : Int) (tr op cl en mo : Bool) (la0 la1 la2 er : Int) (C O : List (List Int)) : Runs (runF (sums K_take) L_rel 33) (settled_tpl.args (spread settled_sp [.v l, .v y, .i a0, .i a1, .b tr, .b op, .b cl, .b en, .b mo, .i la0, .i la1, .i la2, .i er])) (settled_tpl.memo (spread settled_sp [.v l, .v y, .i a0, .i a1, .b tr, .b op, .b cl, .b en, .b mo, .i la0, .i la1, .i la2, .i er]) [C, O]) settled_tpl.n (SV.tup [(false, [SC.wh 89]), (false, [SC.int IntKind.i64 (SI.v (oitem_3 er))])]) ((v10_c6 l y a0 a1 tr op cl en mo la0 la1 la2 er O C)) :=
  Runs.of1 (ps := []) (by kernel_rfl) (by simp)
noncomputable def settled_out : List Gm → Lss → Option CRes
  | [.v l, .v y, .i a0, .i a1, .b tr, .b op, .b cl, .b en, .b mo, .i la0, .i la1, .i la2, .i er], [C, O] => some ⟨SV.tup [(false, [SC.wh 89]), (false, [SC.int IntKind.i64 (SI.v (oitem_3 er))])], (v10_c6 l y a0 a1 tr op cl en mo la0 la1 la2 er O C), [], [], 93⟩
  | _, _ => none
theorem settled_ok : FOk Try.prog 33 (tplG settled_sp settled_tpl settled_out) := by
  refine tplG_ok (runF_ok known_take 33) fun ps ls r hr hn _ => ?_
  unfold settled_out at hr
  split at hr
  · cases hr; exact ⟨_, settled_runs _ _ _ _ _ _ _ _ _ _ _ _ _ _ _, fun _ => rfl⟩
  · cases hr
noncomputable def K_settled : List (Nat × Summ) := (33, tplG settled_sp settled_tpl settled_out) :: K_take
theorem known_settled : Known Try.prog (sums K_settled) L_rel := known_cons known_take settled_ok
noncomputable def push_tpl : Tpl := ⟨[.one (.ptr 0 0), .agg [.int .i64, .int .i64, .int .i64, .int .i64, .int .i64, .int .i64, .int .i64, .int .i64, .int .i64, .int .i64, .int .i64, .int .i64, .int .i64, .bool, .int .i64, .bool, .int .i64, .int .i64, .int .i64, .int .i64, .int .i64, .bool]], [(0, .blk 66 [(3, .int .i64), (4, .int .i64), (5, .int .i64), (6, .int .i64), (7, .int .i64), (8, .int .i64), (9, .int .i64), (10, .int .i64), (11, .int .i64), (12, .int .i64), (13, .int .i64), (14, .int .i64), (15, .int .i64), (16, .bool), (17, .int .i64), (18, .bool), (19, .int .i64), (20, .int .i64), (21, .int .i64), (22, .int .i64), (23, .int .i64), (24, .bool), (25, .int .i64), (26, .int .i64), (27, .int .i64), (28, .int .i64), (29, .int .i64), (30, .int .i64), (31, .int .i64), (32, .int .i64), (33, .int .i64), (34, .int .i64), (35, .int .i64), (36, .int .i64), (37, .int .i64), (38, .bool), (39, .int .i64), (40, .bool), (41, .int .i64), (42, .int .i64), (43, .int .i64), (44, .int .i64), (45, .int .i64), (46, .bool), (47, .int .i64), (48, .int .i64), (49, .bool), (50, .wh 1), (51, .bool), (52, .bool), (53, .bool), (54, .bool), (55, .int .i64), (56, .int .i64), (57, .int .i64), (58, .wh 2), (59, .int .i64)]), (1, .row false 32 22 60 [.int .i64, .int .i64, .int .i64, .int .i64, .int .i64, .int .i64, .int .i64, .int .i64, .int .i64, .int .i64, .int .i64, .int .i64, .int .i64, .bool, .int .i64, .bool, .int .i64, .int .i64, .int .i64, .int .i64, .int .i64, .bool]), (2, .row false 32 22 61 [.int .i64, .int .i64, .int .i64, .int .i64, .int .i64, .int .i64, .int .i64, .int .i64, .int .i64, .int .i64, .int .i64, .int .i64, .int .i64, .bool, .int .i64, .bool, .int .i64, .int .i64, .int .i64, .int .i64, .int .i64, .bool])], 62⟩
noncomputable def push_sp : List GK := [.v itemB, .v itemB, .v itemB, .i, .i, .b, .b, .b, .b, .b, .i, .i, .i, .i]
noncomputable def push_0 (x : List GC) (l : List GC) (y : List GC) (a0 : Int) (a1 : Int) (tr : Bool) (op : Bool) (cl : Bool) (en : Bool) (mo : Bool) (la0 : Int) (la1 : Int) (la2 : Int) (er : Int) (C : List (List Int)) : Int := bif er == 0 then oitem_3 (take_0 (nrm x) (nrm l) (nrm y) a0 a1 tr op cl en mo la0 la1 la2 C) else oitem_3 er
noncomputable def push_1 (x : List GC) (l : List GC) (y : List GC) (a0 : Int) (a1 : Int) (tr : Bool) (op : Bool) (cl : Bool) (en : Bool) (mo : Bool) (la0 : Int) (la1 : Int) (la2 : Int) (er : Int) (C : List (List Int)) (O : List (List Int)) : List (List Int) := bif er == 0 then settled_45 (take_0 (nrm x) (nrm l) (nrm y) a0 a1 tr op cl en mo la0 la1 la2 C) (take_54 (nrm x) (nrm l) (nrm y) a0 a1 tr op cl en mo la0 la1 la2 C O) else settled_45 er O
noncomputable def push_2 (x : List GC) (l : List GC) (y : List GC) (a0 : Int) (a1 : Int) (tr : Bool) (op : Bool) (cl : Bool) (en : Bool) (mo : Bool) (la0 : Int) (la1 : Int) (la2 : Int) (er : Int) : Int := bif er == 0 then take_1 (nrm x) (nrm l) (nrm y) a0 a1 tr op cl en mo la0 la1 la2 else xi l 0
noncomputable def push_3 (x : List GC) (l : List GC) (y : List GC) (a0 : Int) (a1 : Int) (tr : Bool) (op : Bool) (cl : Bool) (en : Bool) (mo : Bool) (la0 : Int) (la1 : Int) (la2 : Int) (er : Int) : Int := bif er == 0 then take_2 (nrm x) (nrm l) (nrm y) a0 a1 tr op cl en mo la0 la1 la2 else xi l 1
noncomputable def push_4 (x : List GC) (l : List GC) (y : List GC) (a0 : Int) (a1 : Int) (tr : Bool) (op : Bool) (cl : Bool) (en : Bool) (mo : Bool) (la0 : Int) (la1 : Int) (la2 : Int) (er : Int) : Int := bif er == 0 then take_3 (nrm x) (nrm l) (nrm y) a0 a1 tr op cl en mo la0 la1 la2 else xi l 2
noncomputable def push_5 (x : List GC) (l : List GC) (y : List GC) (a0 : Int) (a1 : Int) (tr : Bool) (op : Bool) (cl : Bool) (en : Bool) (mo : Bool) (la0 : Int) (la1 : Int) (la2 : Int) (er : Int) : Int := bif er == 0 then take_4 (nrm x) (nrm l) (nrm y) a0 a1 tr op cl en mo la0 la1 la2 else xi l 3
noncomputable def push_6 (x : List GC) (l : List GC) (y : List GC) (a0 : Int) (a1 : Int) (tr : Bool) (op : Bool) (cl : Bool) (en : Bool) (mo : Bool) (la0 : Int) (la1 : Int) (la2 : Int) (er : Int) : Int := bif er == 0 then take_5 (nrm x) (nrm l) (nrm y) a0 a1 tr op cl en mo la0 la1 la2 else xi l 4
noncomputable def push_7 (x : List GC) (l : List GC) (y : List GC) (a0 : Int) (a1 : Int) (tr : Bool) (op : Bool) (cl : Bool) (en : Bool) (mo : Bool) (la0 : Int) (la1 : Int) (la2 : Int) (er : Int) : Int := bif er == 0 then take_6 (nrm x) (nrm l) (nrm y) a0 a1 tr op cl en mo la0 la1 la2 else xi l 5
noncomputable def push_8 (x : List GC) (l : List GC) (y : List GC) (a0 : Int) (a1 : Int) (tr : Bool) (op : Bool) (cl : Bool) (en : Bool) (mo : Bool) (la0 : Int) (la1 : Int) (la2 : Int) (er : Int) : Int := bif er == 0 then take_7 (nrm x) (nrm l) (nrm y) a0 a1 tr op cl en mo la0 la1 la2 else xi l 6
noncomputable def push_9 (x : List GC) (l : List GC) (y : List GC) (a0 : Int) (a1 : Int) (tr : Bool) (op : Bool) (cl : Bool) (en : Bool) (mo : Bool) (la0 : Int) (la1 : Int) (la2 : Int) (er : Int) : Int := bif er == 0 then take_8 (nrm x) (nrm l) (nrm y) a0 a1 tr op cl en mo la0 la1 la2 else xi l 7
noncomputable def push_10 (x : List GC) (l : List GC) (y : List GC) (a0 : Int) (a1 : Int) (tr : Bool) (op : Bool) (cl : Bool) (en : Bool) (mo : Bool) (la0 : Int) (la1 : Int) (la2 : Int) (er : Int) : Int := bif er == 0 then take_9 (nrm x) (nrm l) (nrm y) a0 a1 tr op cl en mo la0 la1 la2 else xi l 8
noncomputable def push_11 (x : List GC) (l : List GC) (y : List GC) (a0 : Int) (a1 : Int) (tr : Bool) (op : Bool) (cl : Bool) (en : Bool) (mo : Bool) (la0 : Int) (la1 : Int) (la2 : Int) (er : Int) : Int := bif er == 0 then take_10 (nrm x) (nrm l) (nrm y) a0 a1 tr op cl en mo la0 la1 la2 else xi l 9
noncomputable def push_12 (x : List GC) (l : List GC) (y : List GC) (a0 : Int) (a1 : Int) (tr : Bool) (op : Bool) (cl : Bool) (en : Bool) (mo : Bool) (la0 : Int) (la1 : Int) (la2 : Int) (er : Int) : Int := bif er == 0 then take_11 (nrm x) (nrm l) (nrm y) a0 a1 tr op cl en mo la0 la1 la2 else xi l 10
noncomputable def push_13 (x : List GC) (l : List GC) (y : List GC) (a0 : Int) (a1 : Int) (tr : Bool) (op : Bool) (cl : Bool) (en : Bool) (mo : Bool) (la0 : Int) (la1 : Int) (la2 : Int) (er : Int) : Int := bif er == 0 then take_12 (nrm x) (nrm l) (nrm y) a0 a1 tr op cl en mo la0 la1 la2 else xi l 11
noncomputable def push_14 (x : List GC) (l : List GC) (y : List GC) (a0 : Int) (a1 : Int) (tr : Bool) (op : Bool) (cl : Bool) (en : Bool) (mo : Bool) (la0 : Int) (la1 : Int) (la2 : Int) (er : Int) : Int := bif er == 0 then take_13 (nrm x) (nrm l) (nrm y) a0 a1 tr op cl en mo la0 la1 la2 else xi l 12
noncomputable def push_15 (x : List GC) (l : List GC) (y : List GC) (a0 : Int) (a1 : Int) (tr : Bool) (op : Bool) (cl : Bool) (en : Bool) (mo : Bool) (la0 : Int) (la1 : Int) (la2 : Int) (er : Int) : Bool := bif er == 0 then take_14 (nrm x) (nrm l) (nrm y) a0 a1 tr op cl en mo la0 la1 la2 else xb l 13
noncomputable def push_16 (x : List GC) (l : List GC) (y : List GC) (a0 : Int) (a1 : Int) (tr : Bool) (op : Bool) (cl : Bool) (en : Bool) (mo : Bool) (la0 : Int) (la1 : Int) (la2 : Int) (er : Int) : Int := bif er == 0 then take_15 (nrm x) (nrm l) (nrm y) a0 a1 tr op cl en mo la0 la1 la2 else xi l 14
noncomputable def push_17 (x : List GC) (l : List GC) (y : List GC) (a0 : Int) (a1 : Int) (tr : Bool) (op : Bool) (cl : Bool) (en : Bool) (mo : Bool) (la0 : Int) (la1 : Int) (la2 : Int) (er : Int) : Bool := bif er == 0 then take_16 (nrm x) (nrm l) (nrm y) a0 a1 tr op cl en mo la0 la1 la2 else xb l 15
noncomputable def push_18 (x : List GC) (l : List GC) (y : List GC) (a0 : Int) (a1 : Int) (tr : Bool) (op : Bool) (cl : Bool) (en : Bool) (mo : Bool) (la0 : Int) (la1 : Int) (la2 : Int) (er : Int) : Int := bif er == 0 then take_17 (nrm x) (nrm l) (nrm y) a0 a1 tr op cl en mo la0 la1 la2 else xi l 16
noncomputable def push_19 (x : List GC) (l : List GC) (y : List GC) (a0 : Int) (a1 : Int) (tr : Bool) (op : Bool) (cl : Bool) (en : Bool) (mo : Bool) (la0 : Int) (la1 : Int) (la2 : Int) (er : Int) : Int := bif er == 0 then take_18 (nrm x) (nrm l) (nrm y) a0 a1 tr op cl en mo la0 la1 la2 else xi l 17
noncomputable def push_20 (x : List GC) (l : List GC) (y : List GC) (a0 : Int) (a1 : Int) (tr : Bool) (op : Bool) (cl : Bool) (en : Bool) (mo : Bool) (la0 : Int) (la1 : Int) (la2 : Int) (er : Int) : Int := bif er == 0 then take_19 (nrm x) (nrm l) (nrm y) a0 a1 tr op cl en mo la0 la1 la2 else xi l 18
noncomputable def push_21 (x : List GC) (l : List GC) (y : List GC) (a0 : Int) (a1 : Int) (tr : Bool) (op : Bool) (cl : Bool) (en : Bool) (mo : Bool) (la0 : Int) (la1 : Int) (la2 : Int) (er : Int) : Int := bif er == 0 then take_20 (nrm x) (nrm l) (nrm y) a0 a1 tr op cl en mo la0 la1 la2 else xi l 19
noncomputable def push_22 (x : List GC) (l : List GC) (y : List GC) (a0 : Int) (a1 : Int) (tr : Bool) (op : Bool) (cl : Bool) (en : Bool) (mo : Bool) (la0 : Int) (la1 : Int) (la2 : Int) (er : Int) : Int := bif er == 0 then take_21 (nrm x) (nrm l) (nrm y) a0 a1 tr op cl en mo la0 la1 la2 else xi l 20
noncomputable def push_23 (x : List GC) (l : List GC) (y : List GC) (a0 : Int) (a1 : Int) (tr : Bool) (op : Bool) (cl : Bool) (en : Bool) (mo : Bool) (la0 : Int) (la1 : Int) (la2 : Int) (er : Int) : Bool := bif er == 0 then take_22 (nrm x) (nrm l) (nrm y) a0 a1 tr op cl en mo la0 la1 la2 else xb l 21
noncomputable def push_24 (x : List GC) (l : List GC) (y : List GC) (a0 : Int) (a1 : Int) (tr : Bool) (op : Bool) (cl : Bool) (en : Bool) (mo : Bool) (la0 : Int) (la1 : Int) (la2 : Int) (er : Int) : Int := bif er == 0 then take_23 (nrm x) (nrm l) (nrm y) a0 a1 tr op cl en mo la0 la1 la2 else xi y 0
noncomputable def push_25 (x : List GC) (l : List GC) (y : List GC) (a0 : Int) (a1 : Int) (tr : Bool) (op : Bool) (cl : Bool) (en : Bool) (mo : Bool) (la0 : Int) (la1 : Int) (la2 : Int) (er : Int) : Int := bif er == 0 then take_24 (nrm x) (nrm l) (nrm y) a0 a1 tr op cl en mo la0 la1 la2 else xi y 1
noncomputable def push_26 (x : List GC) (l : List GC) (y : List GC) (a0 : Int) (a1 : Int) (tr : Bool) (op : Bool) (cl : Bool) (en : Bool) (mo : Bool) (la0 : Int) (la1 : Int) (la2 : Int) (er : Int) : Int := bif er == 0 then take_25 (nrm x) (nrm l) (nrm y) a0 a1 tr op cl en mo la0 la1 la2 else xi y 2
noncomputable def push_27 (x : List GC) (l : List GC) (y : List GC) (a0 : Int) (a1 : Int) (tr : Bool) (op : Bool) (cl : Bool) (en : Bool) (mo : Bool) (la0 : Int) (la1 : Int) (la2 : Int) (er : Int) : Int := bif er == 0 then take_26 (nrm x) (nrm l) (nrm y) a0 a1 tr op cl en mo la0 la1 la2 else xi y 3
noncomputable def push_28 (x : List GC) (l : List GC) (y : List GC) (a0 : Int) (a1 : Int) (tr : Bool) (op : Bool) (cl : Bool) (en : Bool) (mo : Bool) (la0 : Int) (la1 : Int) (la2 : Int) (er : Int) : Int := bif er == 0 then take_27 (nrm x) (nrm l) (nrm y) a0 a1 tr op cl en mo la0 la1 la2 else xi y 4
noncomputable def push_29 (x : List GC) (l : List GC) (y : List GC) (a0 : Int) (a1 : Int) (tr : Bool) (op : Bool) (cl : Bool) (en : Bool) (mo : Bool) (la0 : Int) (la1 : Int) (la2 : Int) (er : Int) : Int := bif er == 0 then take_28 (nrm x) (nrm l) (nrm y) a0 a1 tr op cl en mo la0 la1 la2 else xi y 5
noncomputable def push_30 (x : List GC) (l : List GC) (y : List GC) (a0 : Int) (a1 : Int) (tr : Bool) (op : Bool) (cl : Bool) (en : Bool) (mo : Bool) (la0 : Int) (la1 : Int) (la2 : Int) (er : Int) : Int := bif er == 0 then take_29 (nrm x) (nrm l) (nrm y) a0 a1 tr op cl en mo la0 la1 la2 else xi y 6
noncomputable def push_31 (x : List GC) (l : List GC) (y : List GC) (a0 : Int) (a1 : Int) (tr : Bool) (op : Bool) (cl : Bool) (en : Bool) (mo : Bool) (la0 : Int) (la1 : Int) (la2 : Int) (er : Int) : Int := bif er == 0 then take_30 (nrm x) (nrm l) (nrm y) a0 a1 tr op cl en mo la0 la1 la2 else xi y 7
noncomputable def push_32 (x : List GC) (l : List GC) (y : List GC) (a0 : Int) (a1 : Int) (tr : Bool) (op : Bool) (cl : Bool) (en : Bool) (mo : Bool) (la0 : Int) (la1 : Int) (la2 : Int) (er : Int) : Int := bif er == 0 then take_31 (nrm x) (nrm l) (nrm y) a0 a1 tr op cl en mo la0 la1 la2 else xi y 8
noncomputable def push_33 (x : List GC) (l : List GC) (y : List GC) (a0 : Int) (a1 : Int) (tr : Bool) (op : Bool) (cl : Bool) (en : Bool) (mo : Bool) (la0 : Int) (la1 : Int) (la2 : Int) (er : Int) : Int := bif er == 0 then take_32 (nrm x) (nrm l) (nrm y) a0 a1 tr op cl en mo la0 la1 la2 else xi y 9
noncomputable def push_34 (x : List GC) (l : List GC) (y : List GC) (a0 : Int) (a1 : Int) (tr : Bool) (op : Bool) (cl : Bool) (en : Bool) (mo : Bool) (la0 : Int) (la1 : Int) (la2 : Int) (er : Int) : Int := bif er == 0 then take_33 (nrm x) (nrm l) (nrm y) a0 a1 tr op cl en mo la0 la1 la2 else xi y 10
noncomputable def push_35 (x : List GC) (l : List GC) (y : List GC) (a0 : Int) (a1 : Int) (tr : Bool) (op : Bool) (cl : Bool) (en : Bool) (mo : Bool) (la0 : Int) (la1 : Int) (la2 : Int) (er : Int) : Int := bif er == 0 then take_34 (nrm x) (nrm l) (nrm y) a0 a1 tr op cl en mo la0 la1 la2 else xi y 11
noncomputable def push_36 (x : List GC) (l : List GC) (y : List GC) (a0 : Int) (a1 : Int) (tr : Bool) (op : Bool) (cl : Bool) (en : Bool) (mo : Bool) (la0 : Int) (la1 : Int) (la2 : Int) (er : Int) : Int := bif er == 0 then take_35 (nrm x) (nrm l) (nrm y) a0 a1 tr op cl en mo la0 la1 la2 else xi y 12
noncomputable def push_37 (x : List GC) (l : List GC) (y : List GC) (a0 : Int) (a1 : Int) (tr : Bool) (op : Bool) (cl : Bool) (en : Bool) (mo : Bool) (la0 : Int) (la1 : Int) (la2 : Int) (er : Int) : Bool := bif er == 0 then take_36 (nrm x) (nrm l) (nrm y) a0 a1 tr op cl en mo la0 la1 la2 else xb y 13
noncomputable def push_38 (x : List GC) (l : List GC) (y : List GC) (a0 : Int) (a1 : Int) (tr : Bool) (op : Bool) (cl : Bool) (en : Bool) (mo : Bool) (la0 : Int) (la1 : Int) (la2 : Int) (er : Int) : Int := bif er == 0 then take_37 (nrm x) (nrm l) (nrm y) a0 a1 tr op cl en mo la0 la1 la2 else xi y 14
noncomputable def push_39 (x : List GC) (l : List GC) (y : List GC) (a0 : Int) (a1 : Int) (tr : Bool) (op : Bool) (cl : Bool) (en : Bool) (mo : Bool) (la0 : Int) (la1 : Int) (la2 : Int) (er : Int) : Bool := bif er == 0 then take_38 (nrm x) (nrm l) (nrm y) a0 a1 tr op cl en mo la0 la1 la2 else xb y 15
noncomputable def push_40 (x : List GC) (l : List GC) (y : List GC) (a0 : Int) (a1 : Int) (tr : Bool) (op : Bool) (cl : Bool) (en : Bool) (mo : Bool) (la0 : Int) (la1 : Int) (la2 : Int) (er : Int) : Int := bif er == 0 then take_39 (nrm x) (nrm l) (nrm y) a0 a1 tr op cl en mo la0 la1 la2 else xi y 16
noncomputable def push_41 (x : List GC) (l : List GC) (y : List GC) (a0 : Int) (a1 : Int) (tr : Bool) (op : Bool) (cl : Bool) (en : Bool) (mo : Bool) (la0 : Int) (la1 : Int) (la2 : Int) (er : Int) : Int := bif er == 0 then take_40 (nrm x) (nrm l) (nrm y) a0 a1 tr op cl en mo la0 la1 la2 else xi y 17
noncomputable def push_42 (x : List GC) (l : List GC) (y : List GC) (a0 : Int) (a1 : Int) (tr : Bool) (op : Bool) (cl : Bool) (en : Bool) (mo : Bool) (la0 : Int) (la1 : Int) (la2 : Int) (er : Int) : Int := bif er == 0 then take_41 (nrm x) (nrm l) (nrm y) a0 a1 tr op cl en mo la0 la1 la2 else xi y 18
noncomputable def push_43 (x : List GC) (l : List GC) (y : List GC) (a0 : Int) (a1 : Int) (tr : Bool) (op : Bool) (cl : Bool) (en : Bool) (mo : Bool) (la0 : Int) (la1 : Int) (la2 : Int) (er : Int) : Int := bif er == 0 then take_42 (nrm x) (nrm l) (nrm y) a0 a1 tr op cl en mo la0 la1 la2 else xi y 19
noncomputable def push_44 (x : List GC) (l : List GC) (y : List GC) (a0 : Int) (a1 : Int) (tr : Bool) (op : Bool) (cl : Bool) (en : Bool) (mo : Bool) (la0 : Int) (la1 : Int) (la2 : Int) (er : Int) : Int := bif er == 0 then take_43 (nrm x) (nrm l) (nrm y) a0 a1 tr op cl en mo la0 la1 la2 else xi y 20
noncomputable def push_45 (x : List GC) (l : List GC) (y : List GC) (a0 : Int) (a1 : Int) (tr : Bool) (op : Bool) (cl : Bool) (en : Bool) (mo : Bool) (la0 : Int) (la1 : Int) (la2 : Int) (er : Int) : Bool := bif er == 0 then take_44 (nrm x) (nrm l) (nrm y) a0 a1 tr op cl en mo la0 la1 la2 else xb y 21
noncomputable def push_46 (x : List GC) (l : List GC) (y : List GC) (a0 : Int) (a1 : Int) (tr : Bool) (op : Bool) (cl : Bool) (en : Bool) (mo : Bool) (la0 : Int) (la1 : Int) (la2 : Int) (er : Int) : Int := bif er == 0 then take_45 (nrm x) (nrm l) (nrm y) a0 a1 tr op cl en mo la0 la1 la2 else a0
noncomputable def push_47 (x : List GC) (l : List GC) (y : List GC) (a0 : Int) (a1 : Int) (tr : Bool) (op : Bool) (cl : Bool) (en : Bool) (mo : Bool) (la0 : Int) (la1 : Int) (la2 : Int) (er : Int) : Int := bif er == 0 then take_46 (nrm x) (nrm l) (nrm y) a0 a1 tr op cl en mo la0 la1 la2 else a1
noncomputable def push_48 (x : List GC) (l : List GC) (y : List GC) (a0 : Int) (a1 : Int) (tr : Bool) (op : Bool) (cl : Bool) (en : Bool) (mo : Bool) (la0 : Int) (la1 : Int) (la2 : Int) (er : Int) : Bool := bif er == 0 then take_47 (nrm x) (nrm l) (nrm y) a0 a1 tr op cl en mo la0 la1 la2 else tr
noncomputable def push_49 (x : List GC) (l : List GC) (y : List GC) (a0 : Int) (a1 : Int) (tr : Bool) (op : Bool) (cl : Bool) (en : Bool) (mo : Bool) (la0 : Int) (la1 : Int) (la2 : Int) (er : Int) : Bool := bif er == 0 then take_48 (nrm x) (nrm l) (nrm y) a0 a1 tr op cl en mo la0 la1 la2 else op
noncomputable def push_50 (x : List GC) (cl : Bool) (en : Bool) (mo : Bool) (la0 : Int) (la1 : Int) (la2 : Int) (er : Int) : Bool := bif er == 0 then take_49 (nrm x) cl en mo la0 la1 la2 else en
noncomputable def push_51 (x : List GC) (cl : Bool) (en : Bool) (mo : Bool) (la0 : Int) (la1 : Int) (la2 : Int) (er : Int) : Bool := bif er == 0 then take_50 (nrm x) cl en mo la0 la1 la2 else mo
noncomputable def push_52 (x : List GC) (cl : Bool) (en : Bool) (mo : Bool) (la0 : Int) (la1 : Int) (la2 : Int) (er : Int) : Int := bif er == 0 then take_51 (nrm x) cl en mo la0 la1 la2 else la0
noncomputable def push_53 (x : List GC) (cl : Bool) (en : Bool) (mo : Bool) (la0 : Int) (la1 : Int) (la2 : Int) (er : Int) : Int := bif er == 0 then take_52 (nrm x) cl en mo la0 la1 la2 else la1
noncomputable def push_54 (x : List GC) (cl : Bool) (en : Bool) (mo : Bool) (la0 : Int) (la1 : Int) (la2 : Int) (er : Int) : Int := bif er == 0 then take_53 (nrm x) cl en mo la0 la1 la2 else la2
noncomputable def push_55 (x : List GC) (l : List GC) (y : List GC) (a0 : Int) (a1 : Int) (tr : Bool) (op : Bool) (cl : Bool) (en : Bool) (mo : Bool) (la0 : Int) (la1 : Int) (la2 : Int) (er : Int) (C : List (List Int)) : Int := bif er == 0 then take_0 (nrm x) (nrm l) (nrm y) a0 a1 tr op cl en mo la0 la1 la2 C else er
noncomputable def push_56 (x : List GC) (l : List GC) (y : List GC) (a0 : Int) (a1 : Int) (tr : Bool) (op : Bool) (cl : Bool) (en : Bool) (mo : Bool) (la0 : Int) (la1 : Int) (la2 : Int) (er : Int) (C : List (List Int)) : List (List Int) := bif er == 0 then take_55 (nrm x) (nrm l) (nrm y) a0 a1 tr op cl en mo la0 la1 la2 C else C
noncomputable def push_needs (er : Int) (C : List (List Int)) (O : List (List Int)) : List Prop := [(er == 0) = true → C.length ≤ 1000 ∧ O.length ≤ 800000]
theorem push_weak {er : Int} {C : List (List Int)} {O : List (List Int)} (hW : ∀ q ∈ ([C.length ≤ 1000, O.length ≤ 800000] : List Prop), q) : ∀ q ∈ (push_needs er C O), q := by
  simp only [List.mem_cons, List.not_mem_nil, or_false, forall_eq_or_imp, forall_eq] at hW
  unfold push_needs
  simp only [List.forall_mem_cons, List.not_mem_nil, false_implies, implies_true, and_true]
  exact fun _ => hW
noncomputable def v10_c2 (x : List GC) (l : List GC) (y : List GC) (a0 : Int) (a1 : Int) (tr : Bool) (op : Bool) (cl : Bool) (en : Bool) (mo : Bool) (la0 : Int) (la1 : Int) (la2 : Int) (er : Int) (C : List (List Int)) (O : List (List Int)) := [(102999, Obj.row false 32 22 (RowC.lst 102998 v10_c0 (push_1 x l y a0 a1 tr op cl en mo la0 la1 la2 er C O))), (0, Obj.blk 66 [(103002, SC.int IntKind.i64 (SI.v (push_2 x l y a0 a1 tr op cl en mo
   la0 la1 la2 er))), (103003, SC.int IntKind.i64 (SI.v (push_3 x l y a0 a1 tr op cl en mo la0 la1 la2 er))), (103004, SC.int IntKind.i64 (SI.v (push_4 x l y a0 a1 tr op cl en mo la0 la1 la2 er))),
   (103005, SC.int IntKind.i64 (SI.v (push_5 x l y a0 a1 tr op cl en mo la0 la1 la2 er))), (103006, SC.int IntKind.i64 (SI.v (push_6 x l y a0 a1 tr op cl en mo la0 la1 la2 er))), (103007, SC.int
   IntKind.i64 (SI.v (push_7 x l y a0 a1 tr op cl en mo la0 la1 la2 er))), (103008, SC.int IntKind.i64 (SI.v (push_8 x l y a0 a1 tr op cl en mo la0 la1 la2 er))), (103009, SC.int IntKind.i64 (SI.v
   (push_9 x l y a0 a1 tr op cl en mo la0 la1 la2 er))), (103010, SC.int IntKind.i64 (SI.v (push_10 x l y a0 a1 tr op cl en mo la0 la1 la2 er))), (103011, SC.int IntKind.i64 (SI.v (push_11 x l y a0 a1
   tr op cl en mo la0 la1 la2 er))), (103012, SC.int IntKind.i64 (SI.v (push_12 x l y a0 a1 tr op cl en mo la0 la1 la2 er))), (103013, SC.int IntKind.i64 (SI.v (push_13 x l y a0 a1 tr op cl en mo la0
   la1 la2 er))), (103014, SC.int IntKind.i64 (SI.v (push_14 x l y a0 a1 tr op cl en mo la0 la1 la2 er))), (103015, SC.bool (SB.v (push_15 x l y a0 a1 tr op cl en mo la0 la1 la2 er))), (103016, SC.int
   IntKind.i64 (SI.v (push_16 x l y a0 a1 tr op cl en mo la0 la1 la2 er))), (103017, SC.bool (SB.v (push_17 x l y a0 a1 tr op cl en mo la0 la1 la2 er))), (103018, SC.int IntKind.i64 (SI.v (push_18 x l y
   a0 a1 tr op cl en mo la0 la1 la2 er))), (103019, SC.int IntKind.i64 (SI.v (push_19 x l y a0 a1 tr op cl en mo la0 la1 la2 er))), (103020, SC.int IntKind.i64 (SI.v (push_20 x l y a0 a1 tr op cl en mo
   la0 la1 la2 er))), (103021, SC.int IntKind.i64 (SI.v (push_21 x l y a0 a1 tr op cl en mo la0 la1 la2 er))), (103022, SC.int IntKind.i64 (SI.v (push_22 x l y a0 a1 tr op cl en mo la0 la1 la2 er))),
   (103023, SC.bool (SB.v (push_23 x l y a0 a1 tr op cl en mo la0 la1 la2 er))), (103024, SC.int IntKind.i64 (SI.v (push_24 x l y a0 a1 tr op cl en mo la0 la1 la2 er))), (103025, SC.int IntKind.i64
   (SI.v (push_25 x l y a0 a1 tr op cl en mo la0 la1 la2 er))), (103026, SC.int IntKind.i64 (SI.v (push_26 x l y a0 a1 tr op cl en mo la0 la1 la2 er))), (103027, SC.int IntKind.i64 (SI.v (push_27 x l y
   a0 a1 tr op cl en mo la0 la1 la2 er))), (103028, SC.int IntKind.i64 (SI.v (push_28 x l y a0 a1 tr op cl en mo la0 la1 la2 er))), (103029, SC.int IntKind.i64 (SI.v (push_29 x l y a0 a1 tr op cl en mo
   la0 la1 la2 er))), (103030, SC.int IntKind.i64 (SI.v (push_30 x l y a0 a1 tr op cl en mo la0 la1 la2 er))), (103031, SC.int IntKind.i64 (SI.v (push_31 x l y a0 a1 tr op cl en mo la0 la1 la2 er))),
   (103032, SC.int IntKind.i64 (SI.v (push_32 x l y a0 a1 tr op cl en mo la0 la1 la2 er))), (103033, SC.int IntKind.i64 (SI.v (push_33 x l y a0 a1 tr op cl en mo la0 la1 la2 er))), (103034, SC.int
   IntKind.i64 (SI.v (push_34 x l y a0 a1 tr op cl en mo la0 la1 la2 er))), (103035, SC.int IntKind.i64 (SI.v (push_35 x l y a0 a1 tr op cl en mo la0 la1 la2 er))), (103036, SC.int IntKind.i64 (SI.v
   (push_36 x l y a0 a1 tr op cl en mo la0 la1 la2 er))), (103037, SC.bool (SB.v (push_37 x l y a0 a1 tr op cl en mo la0 la1 la2 er))), (103038, SC.int IntKind.i64 (SI.v (push_38 x l y a0 a1 tr op cl en
   mo la0 la1 la2 er))), (103039, SC.bool (SB.v (push_39 x l y a0 a1 tr op cl en mo la0 la1 la2 er))), (103040, SC.int IntKind.i64 (SI.v (push_40 x l y a0 a1 tr op cl en mo la0 la1 la2 er))), (103041,
   SC.int IntKind.i64 (SI.v (push_41 x l y a0 a1 tr op cl en mo la0 la1 la2 er))), (103042, SC.int IntKind.i64 (SI.v (push_42 x l y a0 a1 tr op cl en mo la0 la1 la2 er))), (103043, SC.int IntKind.i64
   (SI.v (push_43 x l y a0 a1 tr op cl en mo la0 la1 la2 er))), (103044, SC.int IntKind.i64 (SI.v (push_44 x l y a0 a1 tr op cl en mo la0 la1 la2 er))), (103045, SC.bool (SB.v (push_45 x l y a0 a1 tr op
   cl en mo la0 la1 la2 er))), (103046, SC.int IntKind.i64 (SI.v (push_46 x l y a0 a1 tr op cl en mo la0 la1 la2 er))), (103047, SC.int IntKind.i64 (SI.v (push_47 x l y a0 a1 tr op cl en mo la0 la1 la2
   er))), (103048, SC.bool (SB.v (push_48 x l y a0 a1 tr op cl en mo la0 la1 la2 er))), (102994, SC.wh 102992), (103049, SC.bool (SB.v (push_49 x l y a0 a1 tr op cl en mo la0 la1 la2 er))), (52, SC.bool
   (SB.v cl)), (103050, SC.bool (SB.v (push_50 x cl en mo la0 la1 la2 er))), (103051, SC.bool (SB.v (push_51 x cl en mo la0 la1 la2 er))), (103052, SC.int IntKind.i64 (SI.v (push_52 x cl en mo la0 la1
   la2 er))), (103053, SC.int IntKind.i64 (SI.v (push_53 x cl en mo la0 la1 la2 er))), (103054, SC.int IntKind.i64 (SI.v (push_54 x cl en mo la0 la1 la2 er))), (102997, SC.wh 102995), (103055, SC.int
   IntKind.i64 (SI.v (push_55 x l y a0 a1 tr op cl en mo la0 la1 la2 er C)))]), (102995, Obj.row false 32 22 (RowC.lit 103001 [])), (102992, Obj.row false 32 22 (RowC.lst 103000 v10_c0 (push_56 x l y a0
   a1 tr op cl en mo la0 la1 la2 er C)))]
set_option maxRecDepth 1000000 in
theorem push_runs (x l y : List GC) (a0 a1 : Int) (tr op cl en mo : Bool) (la0 la1 la2 er : Int) (C O : List (List Int)) (hNeeds : ∀ pN ∈ (push_needs er C O), pN) : Runs (runF (sums K_settled) L_rel 19) (push_tpl.args (spread push_sp [.v x, .v l, .v y, .i a0, .i a1, .b tr, .b op, .b cl, .b en, .b mo, .i la0, .i la1, .i la2, .i er])) (push_tpl.memo (spread push_sp [.v x, .v l, .v y, .i a0, .i a1, .b tr, .b op, .b cl, .b en, .b mo, .i la0, .i la1, .i la2, .i er]) [C, O]) push_tpl.n (SV.tup [(false, [SC.wh 102999]), (false, [SC.int IntKind.i64 (SI.v (push_0 x l y a0 a1 tr op cl en mo la0 la1 la2 er C))])]) ((v10_c2 x l y a0 a1 tr op cl en mo la0 la1 la2 er C O)) :=
  Runs.of1 (ps := (push_needs er C O)) (by kernel_rfl) hNeeds
noncomputable def push_out : List Gm → Lss → Option CRes
  | [.v x, .v l, .v y, .i a0, .i a1, .b tr, .b op, .b cl, .b en, .b mo, .i la0, .i la1, .i la2, .i er], [C, O] => some ⟨SV.tup [(false, [SC.wh 102999]), (false, [SC.int IntKind.i64 (SI.v (push_0 x l y a0 a1 tr op cl en mo la0 la1 la2 er C))])], (v10_c2 x l y a0 a1 tr op cl en mo la0 la1 la2 er C O), [C.length ≤
   1000, O.length ≤ 800000], [], 103056⟩
  | _, _ => none
theorem push_ok : FOk Try.prog 19 (tplG push_sp push_tpl push_out) := by
  refine tplG_ok (runF_ok known_settled 19) fun ps ls r hr hn _ => ?_
  unfold push_out at hr
  split at hr
  · cases hr; exact ⟨_, push_runs _ _ _ _ _ _ _ _ _ _ _ _ _ _ _ _ (push_weak (by exact hn)), fun _ => rfl⟩
  · cases hr
noncomputable def K_push : List (Nat × Summ) := (19, tplG push_sp push_tpl push_out) :: K_settled
theorem known_push : Known Try.prog (sums K_push) L_rel := known_cons known_settled push_ok
noncomputable def close_tpl : Tpl := ⟨[.one (.ptr 0 0)], [(0, .blk 66 [(3, .int .i64), (4, .int .i64), (5, .int .i64), (6, .int .i64), (7, .int .i64), (8, .int .i64), (9, .int .i64), (10, .int .i64), (11, .int .i64), (12, .int .i64), (13, .int .i64), (14, .int .i64), (15, .int .i64), (16, .bool), (17, .int .i64), (18, .bool), (19, .int .i64), (20, .int .i64), (21, .int .i64), (22, .int .i64), (23, .int .i64), (24, .bool), (25, .int .i64), (26, .int .i64), (27, .int .i64), (28, .int .i64), (29, .int .i64), (30, .int .i64), (31, .int .i64), (32, .int .i64), (33, .int .i64), (34, .int .i64), (35, .int .i64), (36, .int .i64), (37, .int .i64), (38, .bool), (39, .int .i64), (40, .bool), (41, .int .i64), (42, .int .i64), (43, .int .i64), (44, .int .i64), (45, .int .i64), (46, .bool), (47, .int .i64), (48, .int .i64), (49, .bool), (50, .wh 1), (51, .bool), (52, .bool), (53, .bool), (54, .bool), (55, .int .i64), (56, .int .i64), (57, .int .i64), (58, .wh 2), (59, .int .i64)]), (1, .row false 32 22 60 [.int .i64, .int .i64, .int .i64, .int .i64, .int .i64, .int .i64, .int .i64, .int .i64, .int .i64, .int .i64, .int .i64, .int .i64, .int .i64, .bool, .int .i64, .bool, .int .i64, .int .i64, .int .i64, .int .i64, .int .i64, .bool]), (2, .row false 32 22 61 [.int .i64, .int .i64, .int .i64, .int .i64, .int .i64, .int .i64, .int .i64, .int .i64, .int .i64, .int .i64, .int .i64, .int .i64, .int .i64, .bool, .int .i64, .bool, .int .i64, .int .i64, .int .i64, .int .i64, .int .i64, .bool])], 62⟩
noncomputable def close_sp : List GK := [.v itemB, .v itemB, .i, .i, .b, .b, .b, .b, .b, .i, .i, .i, .i]
noncomputable def close_0 (op : Bool) (cl : Bool) (er : Int) : Int := oitem_3 (bif er == 0 && (cl || op) then 13 else er)
noncomputable def close_45 (op : Bool) (cl : Bool) (er : Int) : Int := bif er == 0 && (cl || op) then 13 else er
noncomputable def close_46 (op : Bool) (cl : Bool) (er : Int) (O : List (List Int)) : List (List Int) := settled_45 (bif er == 0 && (cl || op) then 13 else er) O
noncomputable def v10_c5 (l : List GC) (y : List GC) (a0 : Int) (a1 : Int) (tr : Bool) (op : Bool) (en : Bool) (mo : Bool) (la0 : Int) (la1 : Int) (la2 : Int) (cl : Bool) (er : Int) (O : List (List Int)) (C : List (List Int)) := [(0, Obj.blk 66 [(3, SC.int IntKind.i64 (SI.v (xi l 0))), (4, SC.int IntKind.i64 (SI.v (xi l 1))), (5, SC.int IntKind.i64 (SI.v (xi l 2))), (6, SC.int IntKind.i64 (SI.v (xi l 3))), (7, SC.int
   IntKind.i64 (SI.v (xi l 4))), (8, SC.int IntKind.i64 (SI.v (xi l 5))), (9, SC.int IntKind.i64 (SI.v (xi l 6))), (10, SC.int IntKind.i64 (SI.v (xi l 7))), (11, SC.int IntKind.i64 (SI.v (xi l 8))),
   (12, SC.int IntKind.i64 (SI.v (xi l 9))), (13, SC.int IntKind.i64 (SI.v (xi l 10))), (14, SC.int IntKind.i64 (SI.v (xi l 11))), (15, SC.int IntKind.i64 (SI.v (xi l 12))), (16, SC.bool (SB.v (xb l
   13))), (17, SC.int IntKind.i64 (SI.v (xi l 14))), (18, SC.bool (SB.v (xb l 15))), (19, SC.int IntKind.i64 (SI.v (xi l 16))), (20, SC.int IntKind.i64 (SI.v (xi l 17))), (21, SC.int IntKind.i64 (SI.v
   (xi l 18))), (22, SC.int IntKind.i64 (SI.v (xi l 19))), (23, SC.int IntKind.i64 (SI.v (xi l 20))), (24, SC.bool (SB.v (xb l 21))), (25, SC.int IntKind.i64 (SI.v (xi y 0))), (26, SC.int IntKind.i64
   (SI.v (xi y 1))), (27, SC.int IntKind.i64 (SI.v (xi y 2))), (28, SC.int IntKind.i64 (SI.v (xi y 3))), (29, SC.int IntKind.i64 (SI.v (xi y 4))), (30, SC.int IntKind.i64 (SI.v (xi y 5))), (31, SC.int
   IntKind.i64 (SI.v (xi y 6))), (32, SC.int IntKind.i64 (SI.v (xi y 7))), (33, SC.int IntKind.i64 (SI.v (xi y 8))), (34, SC.int IntKind.i64 (SI.v (xi y 9))), (35, SC.int IntKind.i64 (SI.v (xi y 10))),
   (36, SC.int IntKind.i64 (SI.v (xi y 11))), (37, SC.int IntKind.i64 (SI.v (xi y 12))), (38, SC.bool (SB.v (xb y 13))), (39, SC.int IntKind.i64 (SI.v (xi y 14))), (40, SC.bool (SB.v (xb y 15))), (41,
   SC.int IntKind.i64 (SI.v (xi y 16))), (42, SC.int IntKind.i64 (SI.v (xi y 17))), (43, SC.int IntKind.i64 (SI.v (xi y 18))), (44, SC.int IntKind.i64 (SI.v (xi y 19))), (45, SC.int IntKind.i64 (SI.v
   (xi y 20))), (46, SC.bool (SB.v (xb y 21))), (47, SC.int IntKind.i64 (SI.v a0)), (48, SC.int IntKind.i64 (SI.v a1)), (49, SC.bool (SB.v tr)), (50, SC.wh 1), (51, SC.bool (SB.v op)), (90, SC.bool
   (SB.v true)), (53, SC.bool (SB.v en)), (54, SC.bool (SB.v mo)), (55, SC.int IntKind.i64 (SI.v la0)), (56, SC.int IntKind.i64 (SI.v la1)), (57, SC.int IntKind.i64 (SI.v la2)), (185, SC.wh 183), (86,
   SC.int IntKind.i64 (SI.v (close_45 op cl er)))]), (183, Obj.row false 32 22 (RowC.lit 184 [])), (182, Obj.row false 32 22 (RowC.lst 181 v10_c0 (close_46 op cl er O))), (1, Obj.row false 32 22 (RowC.lst 60 v10_c0 C))]
set_option maxRecDepth 1000000 in
theorem close_runs (l y : List GC) (a0 a1 : Int) (tr op cl en mo : Bool) (la0 la1 la2 er : Int) (C O : List (List Int)) : Runs (runF (sums K_push) L_rel 22) (close_tpl.args (spread close_sp [.v l, .v y, .i a0, .i a1, .b tr, .b op, .b cl, .b en, .b mo, .i la0, .i la1, .i la2, .i er])) (close_tpl.memo (spread close_sp [.v l, .v y, .i a0, .i a1, .b tr, .b op, .b cl, .b en, .b mo, .i la0, .i la1, .i la2, .i er]) [C, O]) close_tpl.n (SV.tup [(false, [SC.wh 182]), (false, [SC.int IntKind.i64 (SI.v (close_0 op cl er))])]) ((v10_c5 l y a0 a1 tr op en mo la0 la1 la2 cl er O C)) :=
  Runs.of1 (ps := []) (by kernel_rfl) (by simp)
noncomputable def close_out : List Gm → Lss → Option CRes
  | [.v l, .v y, .i a0, .i a1, .b tr, .b op, .b cl, .b en, .b mo, .i la0, .i la1, .i la2, .i er], [C, O] => some ⟨SV.tup [(false, [SC.wh 182]), (false, [SC.int IntKind.i64 (SI.v (close_0 op cl er))])], (v10_c5 l y a0 a1 tr op en mo la0 la1 la2 cl er O C), [], [], 191⟩
  | _, _ => none
theorem close_ok : FOk Try.prog 22 (tplG close_sp close_tpl close_out) := by
  refine tplG_ok (runF_ok known_push 22) fun ps ls r hr hn _ => ?_
  unfold close_out at hr
  split at hr
  · cases hr; exact ⟨_, close_runs _ _ _ _ _ _ _ _ _ _ _ _ _ _ _, fun _ => rfl⟩
  · cases hr
noncomputable def K_close : List (Nat × Summ) := (22, tplG close_sp close_tpl close_out) :: K_push
theorem known_close : Known Try.prog (sums K_close) L_rel := known_cons known_push close_ok
noncomputable def pending_tpl : Tpl := ⟨[.one (.ptr 0 0)], [(0, .blk 66 [(3, .int .i64), (4, .int .i64), (5, .int .i64), (6, .int .i64), (7, .int .i64), (8, .int .i64), (9, .int .i64), (10, .int .i64), (11, .int .i64), (12, .int .i64), (13, .int .i64), (14, .int .i64), (15, .int .i64), (16, .bool), (17, .int .i64), (18, .bool), (19, .int .i64), (20, .int .i64), (21, .int .i64), (22, .int .i64), (23, .int .i64), (24, .bool), (25, .int .i64), (26, .int .i64), (27, .int .i64), (28, .int .i64), (29, .int .i64), (30, .int .i64), (31, .int .i64), (32, .int .i64), (33, .int .i64), (34, .int .i64), (35, .int .i64), (36, .int .i64), (37, .int .i64), (38, .bool), (39, .int .i64), (40, .bool), (41, .int .i64), (42, .int .i64), (43, .int .i64), (44, .int .i64), (45, .int .i64), (46, .bool), (47, .int .i64), (48, .int .i64), (49, .bool), (50, .wh 1), (51, .bool), (52, .bool), (53, .bool), (54, .bool), (55, .int .i64), (56, .int .i64), (57, .int .i64), (58, .wh 2), (59, .int .i64)]), (1, .row false 32 22 60 [.int .i64, .int .i64, .int .i64, .int .i64, .int .i64, .int .i64, .int .i64, .int .i64, .int .i64, .int .i64, .int .i64, .int .i64, .int .i64, .bool, .int .i64, .bool, .int .i64, .int .i64, .int .i64, .int .i64, .int .i64, .bool]), (2, .row false 32 22 61 [.int .i64, .int .i64, .int .i64, .int .i64, .int .i64, .int .i64, .int .i64, .int .i64, .int .i64, .int .i64, .int .i64, .int .i64, .int .i64, .bool, .int .i64, .bool, .int .i64, .int .i64, .int .i64, .int .i64, .int .i64, .bool])], 62⟩
noncomputable def pending_sp : List GK := [.v itemB, .v itemB, .i, .i, .b, .b, .b, .b, .b, .i, .i, .i, .i]
noncomputable def pending_0 (op : Bool) (er : Int) (C : List (List Int)) : Int := bif er != 0 || !op then 0 else IntKind.i64.wrap (1 + Int.ofNat C.length)
noncomputable def v10_c7 (l : List GC) (y : List GC) (a0 : Int) (a1 : Int) (tr : Bool) (op : Bool) (cl : Bool) (en : Bool) (mo : Bool) (la0 : Int) (la1 : Int) (la2 : Int) (er : Int) (C : List (List Int)) (O : List (List Int)) := [(0, Obj.blk 66 [(3, SC.int IntKind.i64 (SI.v (xi l 0))), (4, SC.int IntKind.i64 (SI.v (xi l 1))), (5, SC.int IntKind.i64 (SI.v (xi l 2))), (6, SC.int IntKind.i64 (SI.v (xi l 3))), (7, SC.int
   IntKind.i64 (SI.v (xi l 4))), (8, SC.int IntKind.i64 (SI.v (xi l 5))), (9, SC.int IntKind.i64 (SI.v (xi l 6))), (10, SC.int IntKind.i64 (SI.v (xi l 7))), (11, SC.int IntKind.i64 (SI.v (xi l 8))),
   (12, SC.int IntKind.i64 (SI.v (xi l 9))), (13, SC.int IntKind.i64 (SI.v (xi l 10))), (14, SC.int IntKind.i64 (SI.v (xi l 11))), (15, SC.int IntKind.i64 (SI.v (xi l 12))), (16, SC.bool (SB.v (xb l
   13))), (17, SC.int IntKind.i64 (SI.v (xi l 14))), (18, SC.bool (SB.v (xb l 15))), (19, SC.int IntKind.i64 (SI.v (xi l 16))), (20, SC.int IntKind.i64 (SI.v (xi l 17))), (21, SC.int IntKind.i64 (SI.v
   (xi l 18))), (22, SC.int IntKind.i64 (SI.v (xi l 19))), (23, SC.int IntKind.i64 (SI.v (xi l 20))), (24, SC.bool (SB.v (xb l 21))), (25, SC.int IntKind.i64 (SI.v (xi y 0))), (26, SC.int IntKind.i64
   (SI.v (xi y 1))), (27, SC.int IntKind.i64 (SI.v (xi y 2))), (28, SC.int IntKind.i64 (SI.v (xi y 3))), (29, SC.int IntKind.i64 (SI.v (xi y 4))), (30, SC.int IntKind.i64 (SI.v (xi y 5))), (31, SC.int
   IntKind.i64 (SI.v (xi y 6))), (32, SC.int IntKind.i64 (SI.v (xi y 7))), (33, SC.int IntKind.i64 (SI.v (xi y 8))), (34, SC.int IntKind.i64 (SI.v (xi y 9))), (35, SC.int IntKind.i64 (SI.v (xi y 10))),
   (36, SC.int IntKind.i64 (SI.v (xi y 11))), (37, SC.int IntKind.i64 (SI.v (xi y 12))), (38, SC.bool (SB.v (xb y 13))), (39, SC.int IntKind.i64 (SI.v (xi y 14))), (40, SC.bool (SB.v (xb y 15))), (41,
   SC.int IntKind.i64 (SI.v (xi y 16))), (42, SC.int IntKind.i64 (SI.v (xi y 17))), (43, SC.int IntKind.i64 (SI.v (xi y 18))), (44, SC.int IntKind.i64 (SI.v (xi y 19))), (45, SC.int IntKind.i64 (SI.v
   (xi y 20))), (46, SC.bool (SB.v (xb y 21))), (47, SC.int IntKind.i64 (SI.v a0)), (48, SC.int IntKind.i64 (SI.v a1)), (49, SC.bool (SB.v tr)), (50, SC.wh 1), (51, SC.bool (SB.v op)), (52, SC.bool
   (SB.v cl)), (53, SC.bool (SB.v en)), (54, SC.bool (SB.v mo)), (55, SC.int IntKind.i64 (SI.v la0)), (56, SC.int IntKind.i64 (SI.v la1)), (57, SC.int IntKind.i64 (SI.v la2)), (58, SC.wh 2), (59, SC.int
   IntKind.i64 (SI.v er))]), (1, Obj.row false 32 22 (RowC.lst 60 v10_c0 C)), (2, Obj.row false 32 22 (RowC.lst 61 v10_c0 O))]
set_option maxRecDepth 1000000 in
theorem pending_runs (l y : List GC) (a0 a1 : Int) (tr op cl en mo : Bool) (la0 la1 la2 er : Int) (C O : List (List Int)) : Runs (runF (sums K_close) L_rel 21) (pending_tpl.args (spread pending_sp [.v l, .v y, .i a0, .i a1, .b tr, .b op, .b cl, .b en, .b mo, .i la0, .i la1, .i la2, .i er])) (pending_tpl.memo (spread pending_sp [.v l, .v y, .i a0, .i a1, .b tr, .b op, .b cl, .b en, .b mo, .i la0, .i la1, .i la2, .i er]) [C, O]) pending_tpl.n (SV.one (SC.int IntKind.i64 (SI.v (pending_0 op er C)))) ((v10_c7 l y a0 a1 tr op cl en mo la0 la1 la2 er C O)) :=
  Runs.of1 (ps := []) (by kernel_rfl) (by simp)
noncomputable def pending_out : List Gm → Lss → Option CRes
  | [.v l, .v y, .i a0, .i a1, .b tr, .b op, .b cl, .b en, .b mo, .i la0, .i la1, .i la2, .i er], [C, O] => some ⟨SV.one (SC.int IntKind.i64 (SI.v (pending_0 op er C))), (v10_c7 l y a0 a1 tr op cl en mo la0 la1 la2 er C O), [], [], 84⟩
  | _, _ => none
theorem pending_ok : FOk Try.prog 21 (tplG pending_sp pending_tpl pending_out) := by
  refine tplG_ok (runF_ok known_close 21) fun ps ls r hr hn _ => ?_
  unfold pending_out at hr
  split at hr
  · cases hr; exact ⟨_, pending_runs _ _ _ _ _ _ _ _ _ _ _ _ _ _ _, fun _ => rfl⟩
  · cases hr
noncomputable def K_pending : List (Nat × Summ) := (21, tplG pending_sp pending_tpl pending_out) :: K_close
theorem known_pending : Known Try.prog (sums K_pending) L_rel := known_cons known_close pending_ok
noncomputable def fnew_tpl : Tpl := ⟨[], [], 0⟩
noncomputable def v10_c8 := [(2, Obj.blk 66 [(3, SC.int IntKind.i64 (SI.c 0)), (4, SC.int IntKind.i64 (SI.c 0)), (5, SC.int IntKind.i64 (SI.c 0)), (6, SC.int IntKind.i64 (SI.c 0)), (7, SC.int IntKind.i64 (SI.c 0)), (8, SC.int
   IntKind.i64 (SI.c 0)), (9, SC.int IntKind.i64 (SI.c 0)), (10, SC.int IntKind.i64 (SI.c 0)), (11, SC.int IntKind.i64 (SI.c 0)), (12, SC.int IntKind.i64 (SI.c 0)), (13, SC.int IntKind.i64 (SI.c 0)),
   (14, SC.int IntKind.i64 (SI.c 0)), (15, SC.int IntKind.i64 (SI.c 0)), (16, SC.bool (SB.c false)), (17, SC.int IntKind.i64 (SI.c 0)), (18, SC.bool (SB.c false)), (19, SC.int IntKind.i64 (SI.c 0)),
   (20, SC.int IntKind.i64 (SI.c 0)), (21, SC.int IntKind.i64 (SI.c 0)), (22, SC.int IntKind.i64 (SI.c 0)), (23, SC.int IntKind.i64 (SI.c 0)), (24, SC.bool (SB.c false)), (25, SC.int IntKind.i64 (SI.c
   0)), (26, SC.int IntKind.i64 (SI.c 0)), (27, SC.int IntKind.i64 (SI.c 0)), (28, SC.int IntKind.i64 (SI.c 0)), (29, SC.int IntKind.i64 (SI.c 0)), (30, SC.int IntKind.i64 (SI.c 0)), (31, SC.int
   IntKind.i64 (SI.c 0)), (32, SC.int IntKind.i64 (SI.c 0)), (33, SC.int IntKind.i64 (SI.c 0)), (34, SC.int IntKind.i64 (SI.c 0)), (35, SC.int IntKind.i64 (SI.c 0)), (36, SC.int IntKind.i64 (SI.c 0)),
   (37, SC.int IntKind.i64 (SI.c 0)), (38, SC.bool (SB.c false)), (39, SC.int IntKind.i64 (SI.c 0)), (40, SC.bool (SB.c false)), (41, SC.int IntKind.i64 (SI.c 0)), (42, SC.int IntKind.i64 (SI.c 0)),
   (43, SC.int IntKind.i64 (SI.c 0)), (44, SC.int IntKind.i64 (SI.c 0)), (45, SC.int IntKind.i64 (SI.c 0)), (46, SC.bool (SB.c false)), (47, SC.int IntKind.i64 (SI.c 0)), (48, SC.int IntKind.i64 (SI.c
   0)), (49, SC.bool (SB.c false)), (64, SC.wh 62), (51, SC.bool (SB.c false)), (52, SC.bool (SB.c false)), (53, SC.bool (SB.c false)), (54, SC.bool (SB.c false)), (55, SC.int IntKind.i64 (SI.c 0)),
   (56, SC.int IntKind.i64 (SI.c 0)), (57, SC.int IntKind.i64 (SI.c 0)), (67, SC.wh 65), (59, SC.int IntKind.i64 (SI.c 0))]), (65, Obj.row false 32 22 (RowC.lit 66 [])), (62, Obj.row false 32 22 (RowC.lit 63 []))]
set_option maxRecDepth 1000000 in
theorem fnew_runs : Runs (runF (sums K_pending) L_rel 18) (fnew_tpl.args []) (fnew_tpl.memo [] []) fnew_tpl.n (SV.one (SC.ptr 2 0)) (v10_c8) :=
  Runs.of1 (ps := []) (by kernel_rfl) (by simp)
noncomputable def fnew_out : List Pm → Lss → Option CRes
  | [], [] => some ⟨SV.one (SC.ptr 2 0), v10_c8, [], [], 68⟩
  | _, _ => none
theorem fnew_ok : FOk Try.prog 18 (tplS fnew_tpl fnew_out) := by
  refine tplS_ok (runF_ok known_pending 18) fun ps ls r hr hn _ => ?_
  unfold fnew_out at hr
  split at hr
  · cases hr; exact ⟨_, fnew_runs, fun _ => rfl⟩
  · cases hr
noncomputable def K_fnew : List (Nat × Summ) := (18, tplS fnew_tpl fnew_out) :: K_pending
theorem known_fnew : Known Try.prog (sums K_fnew) L_rel := known_cons known_pending fnew_ok
end Go.Proofs.Ytmbfbhimdkjkoaa
namespace Go.Proofs.Ytmbfbhimdkjkoaa
open Go.SX Go.RowKit
noncomputable def add_tpl : Tpl := ⟨[.agg [.int .i64, .int .i64, .int .i64], .agg [.int .i64, .int .i64, .int .i64]], [], 0⟩
set_option maxRecDepth 1000000 in
theorem add_runs (a b c d e f : Int) : Runs (runF (sums K_fnew) L_rel 31) (add_tpl.args [.i a, .i b, .i c, .i d, .i e, .i f]) (add_tpl.memo [.i a, .i b, .i c, .i d, .i e, .i f] []) add_tpl.n (SV.agg [SC.int IntKind.i64 (SI.v (addpt_0 a d)), SC.int IntKind.i64 (SI.v (addpt_0 b e)), SC.int IntKind.i64 (SI.v (addpt_0 c f))])
    ([]) :=
  Runs.of1 (ps := []) (by kernel_rfl) (by simp)
noncomputable def add_out : List Pm → Lss → Option CRes
  | [.i a, .i b, .i c, .i d, .i e, .i f], [] => some ⟨SV.agg [SC.int IntKind.i64 (SI.v (addpt_0 a d)), SC.int IntKind.i64 (SI.v (addpt_0 b e)), SC.int IntKind.i64 (SI.v (addpt_0 c f))],
    [],
    [], [], 35⟩
  | _, _ => none
theorem add_ok : FOk Try.prog 31 (tplS add_tpl add_out) := by
  refine tplS_ok (runF_ok known_fnew 31) fun ps ls r hr hn _ => ?_
  unfold add_out at hr
  split at hr
  · cases hr; exact ⟨_, add_runs _ _ _ _ _ _, fun _ => rfl⟩
  · cases hr
noncomputable def K_add : List (Nat × Summ) := (31, tplS add_tpl add_out) :: K_fnew
theorem known_add : Known Try.prog (sums K_add) L_rel := known_cons known_fnew add_ok
noncomputable def sub_tpl : Tpl := ⟨[.agg [.int .i64, .int .i64, .int .i64], .agg [.int .i64, .int .i64, .int .i64]], [], 0⟩
set_option maxRecDepth 1000000 in
theorem sub_runs (a b c d e f : Int) : Runs (runF (sums K_add) L_rel 16) (sub_tpl.args [.i a, .i b, .i c, .i d, .i e, .i f]) (sub_tpl.memo [.i a, .i b, .i c, .i d, .i e, .i f] []) sub_tpl.n (SV.agg [SC.int IntKind.i64 (SI.v (minus_0 a d)), SC.int IntKind.i64 (SI.v (minus_0 b e)), SC.int IntKind.i64 (SI.v (minus_0 c f))])
    ([]) :=
  Runs.of1 (ps := []) (by kernel_rfl) (by simp)
noncomputable def sub_out : List Pm → Lss → Option CRes
  | [.i a, .i b, .i c, .i d, .i e, .i f], [] => some ⟨SV.agg [SC.int IntKind.i64 (SI.v (minus_0 a d)), SC.int IntKind.i64 (SI.v (minus_0 b e)), SC.int IntKind.i64 (SI.v (minus_0 c f))],
    [],
    [], [], 35⟩
  | _, _ => none
theorem sub_ok : FOk Try.prog 16 (tplS sub_tpl sub_out) := by
  refine tplS_ok (runF_ok known_add 16) fun ps ls r hr hn _ => ?_
  unfold sub_out at hr
  split at hr
  · cases hr; exact ⟨_, sub_runs _ _ _ _ _ _, fun _ => rfl⟩
  · cases hr
noncomputable def K_sub : List (Nat × Summ) := (16, tplS sub_tpl sub_out) :: K_add
theorem known_sub : Known Try.prog (sums K_sub) L_rel := known_cons known_add sub_ok
noncomputable def light_tpl : Tpl := ⟨[.one (.wh 0)], [(0, .row true 3 1 1 [.int .i64])], 2⟩
noncomputable def light_0 (L : List (List Int)) : Bool :=
  decide (Int.ofNat L.length ≤ 120)
set_option maxRecDepth 1000000 in
theorem light_runs (L : List (List Int)) : Runs (runF (sums K_sub) L_rel 9) (light_tpl.args []) (light_tpl.memo [] [L]) light_tpl.n (SV.one (SC.bool (SB.v (light_0 L))))
    ([(0, Obj.row true 3 1 (RowC.lst 1 [CK.int IntKind.i64] L))]) :=
  Runs.of1 (ps := []) (by kernel_rfl) (by simp)
noncomputable def light_out : List Pm → Lss → Option CRes
  | [], [L] => some ⟨SV.one (SC.bool (SB.v (light_0 L))),
    [(0, Obj.row true 3 1 (RowC.lst 1 [CK.int IntKind.i64] L))],
    [], [], 7⟩
  | _, _ => none
theorem light_ok : FOk Try.prog 9 (tplS light_tpl light_out) := by
  refine tplS_ok (runF_ok known_sub 9) fun ps ls r hr hn _ => ?_
  unfold light_out at hr
  split at hr
  · cases hr; exact ⟨_, light_runs _, fun _ => rfl⟩
  · cases hr
noncomputable def K_light : List (Nat × Summ) := (9, tplS light_tpl light_out) :: K_sub
theorem known_light : Known Try.prog (sums K_light) L_rel := known_cons known_sub light_ok
noncomputable def new_tpl : Tpl := ⟨[.one (.wh 0)], [(0, .row true 3 1 1 [.int .i64])], 2⟩
set_option maxRecDepth 1000000 in
theorem new_runs (L : List (List Int)) : Runs (runF (sums K_light) L_rel 12) (new_tpl.args []) (new_tpl.memo [] [L]) new_tpl.n (SV.one (SC.ptr 5 0))
    ([(5, Obj.blk 62 [(6, SC.wh 0), (7, SC.int IntKind.i64 (SI.c 0))]), (0, Obj.row true 3 1 (RowC.lst 1 [CK.int IntKind.i64] L))]) :=
  Runs.of1 (ps := []) (by kernel_rfl) (by simp)
noncomputable def new_out : List Pm → Lss → Option CRes
  | [], [L] => some ⟨SV.one (SC.ptr 5 0),
    [(5, Obj.blk 62 [(6, SC.wh 0), (7, SC.int IntKind.i64 (SI.c 0))]), (0, Obj.row true 3 1 (RowC.lst 1 [CK.int IntKind.i64] L))],
    [], [], 10⟩
  | _, _ => none
theorem new_ok : FOk Try.prog 12 (tplS new_tpl new_out) := by
  refine tplS_ok (runF_ok known_light 12) fun ps ls r hr hn _ => ?_
  unfold new_out at hr
  split at hr
  · cases hr; exact ⟨_, new_runs _, fun _ => rfl⟩
  · cases hr
noncomputable def K_new : List (Nat × Summ) := (12, tplS new_tpl new_out) :: K_light
theorem known_new : Known Try.prog (sums K_new) L_rel := known_cons known_light new_ok
noncomputable def next_tpl : Tpl := ⟨[.one (.ptr 0 0), .one (.int .i64)], [(0, .blk 62 [(2, .wh 1), (3, .int .i64)]), (1, .row true 3 1 4 [.int .i64])], 5⟩
noncomputable def next_0 (n : Int) (a : Int) (L : List (List Int)) : Int :=
  bif decide (a ≥ Int.ofNat L.length) then 0 else mod_0 ((L.getD (IntKind.i64.wrap (IntKind.i64.wrap (a + 1) - 1)).toNat []).getD 0 0) n
noncomputable def next_1 (a : Int) (L : List (List Int)) : Int :=
  bif decide (a ≥ Int.ofNat L.length) then a else IntKind.i64.wrap (a + 1)
noncomputable def next_s0 (a : Int) : Int :=
  IntKind.i64.wrap (IntKind.i64.wrap (a + 1) - 1)
noncomputable def next_needs (n : Int) (a : Int) (L : List (List Int)) : List Prop :=
  [decide (a ≥ Int.ofNat L.length) = false → 0 ≤ next_s0 a ∧ (next_s0 a).toNat < L.length ∧ (next_s0 a).toNat < L.length ∧ n ≠ 0]
theorem next_1_nn (a : Int) (L : List (List Int)) (h : 0 ≤ a) (hl : L.length ≤ 1000000) : 0 ≤ next_1 a L := by
  unfold next_1
  cases hd : decide (a ≥ Int.ofNat L.length)
  · have h4 : a < (L.length : Int) := by simpa using hd
    rw [cond_false, wrI (by omega) (by omega)]
    omega
  · exact h
theorem next_0_range (n a : Int) (L : List (List Int)) (h : 1 ≤ n) (hb : n ≤ 4611686018427387904) : 0 ≤ next_0 n a L ∧ next_0 n a L < n := by
  unfold next_0
  cases decide (a ≥ Int.ofNat L.length)
  · exact mod_rng _ _ h hb
  · simp only [cond_true]; omega
theorem next_weak {n : Int} {a : Int} {L : List (List Int)} (hW : ∀ q ∈ ([0 ≤ a, L.length ≤ 1000000, n ≠ 0] : List Prop), q) : ∀ q ∈ (next_needs n a L), q := by
  simp only [List.mem_cons, List.not_mem_nil, or_false, forall_eq_or_imp, forall_eq] at hW
  intro q hq
  unfold next_needs at hq
  simp only [List.mem_cons, List.not_mem_nil, or_false] at hq
  obtain ⟨h1, h2, h3⟩ := hW
  subst hq
  intro h
  have h4 : a < (L.length : Int) := by simpa using h
  have e : next_s0 a = a := by unfold next_s0; rw [wrI (x := a + 1) (by omega) (by omega), wrI (by omega) (by omega)]; omega
  rw [e]
  exact ⟨h1, by omega, by omega, h3⟩
set_option maxRecDepth 1000000 in
theorem next_runs (n a : Int) (L : List (List Int)) (hNeeds : ∀ pN ∈ (next_needs n a L), pN) : Runs (runF (sums K_new) L_rel 28) (next_tpl.args [.i n, .i a]) (next_tpl.memo [.i n, .i a] [L]) next_tpl.n (SV.one (SC.int IntKind.i64 (SI.v (next_0 n a L))))
    ([(0, Obj.blk 62 [(2, SC.wh 1), (54, SC.int IntKind.i64 (SI.v (next_1 a L)))]), (1, Obj.row true 3 1 (RowC.lst 4 [CK.int IntKind.i64] L))]) :=
  Runs.of1 (ps := (next_needs n a L)) (by kernel_rfl) hNeeds
noncomputable def next_out : List Pm → Lss → Option CRes
  | [.i n, .i a], [L] => some ⟨SV.one (SC.int IntKind.i64 (SI.v (next_0 n a L))),
    [(0, Obj.blk 62 [(2, SC.wh 1), (54, SC.int IntKind.i64 (SI.v (next_1 a L)))]), (1, Obj.row true 3 1 (RowC.lst 4 [CK.int IntKind.i64] L))],
    [0 ≤ a, L.length ≤ 1000000, n ≠ 0], [], 55⟩
  | _, _ => none
theorem next_ok : FOk Try.prog 28 (tplS next_tpl next_out) := by
  refine tplS_ok (runF_ok known_new 28) fun ps ls r hr hn _ => ?_
  unfold next_out at hr
  split at hr
  · cases hr; exact ⟨_, next_runs _ _ _ (next_weak (by exact hn)), fun _ => rfl⟩
  · cases hr
noncomputable def K_next : List (Nat × Summ) := (28, tplS next_tpl next_out) :: K_new
theorem known_next : Known Try.prog (sums K_next) L_rel := known_cons known_new next_ok
noncomputable def range_tpl : Tpl := ⟨[.one (.ptr 0 0), .one (.int .i64), .one (.int .i64)], [(0, .blk 62 [(2, .wh 1), (3, .int .i64)]), (1, .row true 3 1 4 [.int .i64])], 5⟩
noncomputable def range_0 (n : Int) (m : Int) (a : Int) (L : List (List Int)) : Int :=
  IntKind.i64.wrap (n + next_0 (IntKind.i64.wrap (IntKind.i64.wrap (m - n) + 1)) a L)
noncomputable def range_needs (n : Int) (m : Int) (a : Int) (L : List (List Int)) : List Prop :=
  [0 ≤ a, L.length ≤ 1000000, IntKind.i64.wrap (IntKind.i64.wrap (m - n) + 1) ≠ 0]
theorem range_0_rng (n m a : Int) (L : List (List Int)) (h : n ≤ m) (h1 : -1000000 ≤ n) (h2 : m ≤ 1000000) : n ≤ (range_0 n m a L) ∧ (range_0 n m a L) ≤ m := by
  have e : IntKind.i64.wrap (IntKind.i64.wrap (m - n) + 1) = m - n + 1 := by rw [wrI (x := m - n) (by omega) (by omega), wrI (by omega) (by omega)]
  have k := next_0_range (m - n + 1) a L (by omega) (by omega)
  unfold range_0
  rw [e, wrI (by omega) (by omega)]
  omega
theorem range_weak {n : Int} {m : Int} {a : Int} {L : List (List Int)} (hW : ∀ q ∈ ([0 ≤ a, L.length ≤ 1000000, n ≤ m ∧ -1000000 ≤ n ∧ m ≤ 1000000] : List Prop), q) : ∀ q ∈ (range_needs n m a L), q := by
  simp only [List.mem_cons, List.not_mem_nil, or_false, forall_eq_or_imp, forall_eq] at hW
  intro q hq
  unfold range_needs at hq
  simp only [List.mem_cons, List.not_mem_nil, or_false] at hq
  obtain ⟨h1, h2, h3⟩ := hW
  have e : IntKind.i64.wrap (IntKind.i64.wrap (m - n) + 1) = m - n + 1 := by rw [wrI (x := m - n) (by omega) (by omega), wrI (by omega) (by omega)]
  rcases hq with rfl | rfl | rfl
  · exact h1
  · exact h2
  · rw [e]; omega
set_option maxRecDepth 1000000 in
theorem range_runs (n m a : Int) (L : List (List Int)) (hNeeds : ∀ pN ∈ (range_needs n m a L), pN) : Runs (runF (sums K_next) L_rel 29) (range_tpl.args [.i n, .i m, .i a]) (range_tpl.memo [.i n, .i m, .i a] [L]) range_tpl.n (SV.one (SC.int IntKind.i64 (SI.v (range_0 n m a L))))
    ([(0, Obj.blk 62 [(2, SC.wh 1), (66, SC.int IntKind.i64 (SI.v (next_1 a L)))]), (1, Obj.row true 3 1 (RowC.lst 4 [CK.int IntKind.i64] L))]) :=
  Runs.of1 (ps := (range_needs n m a L)) (by kernel_rfl) hNeeds
noncomputable def range_out : List Pm → Lss → Option CRes
  | [.i n, .i m, .i a], [L] => some ⟨SV.one (SC.int IntKind.i64 (SI.v (range_0 n m a L))),
    [(0, Obj.blk 62 [(2, SC.wh 1), (66, SC.int IntKind.i64 (SI.v (next_1 a L)))]), (1, Obj.row true 3 1 (RowC.lst 4 [CK.int IntKind.i64] L))],
    [0 ≤ a, L.length ≤ 1000000, n ≤ m ∧ -1000000 ≤ n ∧ m ≤ 1000000], [], 70⟩
  | _, _ => none
theorem range_ok : FOk Try.prog 29 (tplS range_tpl range_out) := by
  refine tplS_ok (runF_ok known_next 29) fun ps ls r hr hn _ => ?_
  unfold range_out at hr
  split at hr
  · cases hr; exact ⟨_, range_runs _ _ _ _ (range_weak (by exact hn)), fun _ => rfl⟩
  · cases hr
noncomputable def K_range : List (Nat × Summ) := (29, tplS range_tpl range_out) :: K_next
theorem known_range : Known Try.prog (sums K_range) L_rel := known_cons known_next range_ok
noncomputable def svec_tpl : Tpl := ⟨[.one (.ptr 0 0), .one (.int .i64)], [(0, .blk 62 [(2, .wh 1), (3, .int .i64)]), (1, .row true 3 1 4 [.int .i64])], 5⟩
noncomputable def svec_0 (n : Int) (a : Int) (L : List (List Int)) : Int :=
  range_0 (IntKind.i64.wrap (0 - n)) n a L
noncomputable def svec_1 (n : Int) (a : Int) (L : List (List Int)) : Int :=
  range_0 (IntKind.i64.wrap (0 - n)) n (next_1 a L) L
noncomputable def svec_2 (n : Int) (a : Int) (L : List (List Int)) : Int :=
  range_0 (IntKind.i64.wrap (0 - n)) n (next_1 (next_1 a L) L) L
noncomputable def svec_needs (n : Int) (a : Int) (L : List (List Int)) : List Prop :=
  [0 ≤ a, L.length ≤ 1000000, IntKind.i64.wrap (0 - n) ≤ n ∧ -1000000 ≤ IntKind.i64.wrap (0 - n) ∧ n ≤ 1000000, 0 ≤ next_1 a L, L.length ≤ 1000000,
    IntKind.i64.wrap (0 - n) ≤ n ∧ -1000000 ≤ IntKind.i64.wrap (0 - n) ∧ n ≤ 1000000, 0 ≤ next_1 (next_1 a L) L, L.length ≤ 1000000,
    IntKind.i64.wrap (0 - n) ≤ n ∧ -1000000 ≤ IntKind.i64.wrap (0 - n) ∧ n ≤ 1000000]
theorem svec_weak {n : Int} {a : Int} {L : List (List Int)} (hW : ∀ q ∈ ([0 ≤ a, L.length ≤ 1000000, 0 ≤ n ∧ n ≤ 1000000] : List Prop), q) : ∀ q ∈ (svec_needs n a L), q := by
  simp only [List.mem_cons, List.not_mem_nil, or_false, forall_eq_or_imp, forall_eq] at hW
  intro q hq
  unfold svec_needs at hq
  simp only [List.mem_cons, List.not_mem_nil, or_false] at hq
  obtain ⟨h1, h2, h3⟩ := hW
  have nn : ∀ x, 0 ≤ x → 0 ≤ next_1 x L := fun x h => next_1_nn x L h h2
  have e : IntKind.i64.wrap (0 - n) = 0 - n := wrI (by omega) (by omega)
  rw [e] at hq
  rcases hq with rfl | rfl | rfl | rfl | rfl | rfl | rfl | rfl | rfl
  · exact h1
  · exact h2
  · omega
  · exact nn _ h1
  · exact h2
  · omega
  · exact nn _ (nn _ h1)
  · exact h2
  · omega
set_option maxRecDepth 1000000 in
theorem svec_runs (n a : Int) (L : List (List Int)) (hNeeds : ∀ pN ∈ (svec_needs n a L), pN) : Runs (runF (sums K_range) L_rel 30) (svec_tpl.args [.i n, .i a]) (svec_tpl.memo [.i n, .i a] [L]) svec_tpl.n (SV.agg [SC.int IntKind.i64 (SI.v (svec_0 n a L)), SC.int IntKind.i64 (SI.v (svec_1 n a L)), SC.int IntKind.i64 (SI.v (svec_2 n a L))])
    ([(0, Obj.blk 62 [(2, SC.wh 1), (234, SC.int IntKind.i64 (SI.v (next_1 (next_1 (next_1 a L) L) L)))]), (1, Obj.row true 3 1 (RowC.lst 4 [CK.int IntKind.i64] L))]) :=
  Runs.of1 (ps := (svec_needs n a L)) (by kernel_rfl) hNeeds
noncomputable def svec_out : List Pm → Lss → Option CRes
  | [.i n, .i a], [L] => some ⟨SV.agg [SC.int IntKind.i64 (SI.v (svec_0 n a L)), SC.int IntKind.i64 (SI.v (svec_1 n a L)), SC.int IntKind.i64 (SI.v (svec_2 n a L))],
    [(0, Obj.blk 62 [(2, SC.wh 1), (234, SC.int IntKind.i64 (SI.v (next_1 (next_1 (next_1 a L) L) L)))]), (1, Obj.row true 3 1 (RowC.lst 4 [CK.int IntKind.i64] L))],
    [0 ≤ a, L.length ≤ 1000000, 0 ≤ n ∧ n ≤ 1000000], [], 244⟩
  | _, _ => none
theorem svec_ok : FOk Try.prog 30 (tplS svec_tpl svec_out) := by
  refine tplS_ok (runF_ok known_range 30) fun ps ls r hr hn _ => ?_
  unfold svec_out at hr
  split at hr
  · cases hr; exact ⟨_, svec_runs _ _ _ (svec_weak (by exact hn)), fun _ => rfl⟩
  · cases hr
noncomputable def K_svec : List (Nat × Summ) := (30, tplS svec_tpl svec_out) :: K_range
theorem known_svec : Known Try.prog (sums K_svec) L_rel := known_cons known_range svec_ok
end Go.Proofs.Ytmbfbhimdkjkoaa
namespace Go.Proofs.Ytmbfbhimdkjkoaa
open Go.SX Go.RowKit
structure CS where
  k : Nat
  a : Int
  x : Int
  y : Int
  z : Int
  R : List (List Int)
noncomputable def rowL (L : List (List Int)) : Nat × SX.Obj := (1, .row true 3 1 (.lst 4 [.int .i64] L))
noncomputable def pU (r i : Int) : Int := bif i.toNat.beq 0 then r else bif i.toNat.beq 1 then 0 else bif i.toNat.beq 2 then IntKind.i64.wrap (0 - r) else 0
noncomputable def pW (r i : Int) : Int := bif i.toNat.beq 0 then 0 else bif i.toNat.beq 1 then r else bif i.toNat.beq 2 then 0 else IntKind.i64.wrap (0 - r)
noncomputable def itO (n : Int) : List Int := [10, 0, 0, 0, 0, 0, 0, 0, 0, 0, 0, 0, 0, 0, 0, 0, 0, 0, 0, n, 0, 1]
noncomputable def itL (x y z u v w fe sd ra : Int) : List Int := [2, 0, x, y, z, u, v, w, 17, 0, 0, 0, 0, 0, fe, 0, sd, ra, 0, 0, 0, 0]
noncomputable def itA (x y z u v w c d e dir fe sd ra : Int) : List Int := [3, 0, x, y, z, u, v, w, 17, c, d, e, dir, 0, fe, 0, sd, ra, 0, 0, 0, 0]
/-- An output. -/
noncomputable def stO (L : List (List Int)) (s : CS) : CS := ⟨s.k - 1, next_1 (next_1 s.a L) L, s.x, s.y, s.z, s.R ++ [itO (next_0 4 (next_1 s.a L) L)]⟩
/-- A line that goes up or down. -/
noncomputable def stZ (L : List (List Int)) (sd ra : Int) (s : CS) : CS := ⟨s.k - 1, next_1 (next_1 s.a L) L, s.x, s.y, IntKind.i64.wrap (s.z + range_0 (-50) 50 (next_1 s.a L) L), s.R ++ [itL s.x s.y s.z s.x s.y (IntKind.i64.wrap (s.z + range_0 (-50) 50 (next_1 s.a L) L)) 30000 sd ra]⟩
noncomputable def aR (L : List (List Int)) (ra : Int) (s : CS) : Int := IntKind.i64.wrap (IntKind.i64.wrap (range_0 1 4 (next_1 s.a L) L * ra) + 20)
noncomputable def aI (L : List (List Int)) (s : CS) : Int := next_0 4 (next_1 (next_1 s.a L) L) L
noncomputable def aK (L : List (List Int)) (s : CS) : Int := (IntKind.i64.wrap (aI L s + range_0 1 3 (next_1 (next_1 (next_1 s.a L) L) L) L)).tmod 4
noncomputable def aC (L : List (List Int)) (ra : Int) (s : CS) : Int := minus_0 s.x (pU (aR L ra s) (aI L s))
noncomputable def aD (L : List (List Int)) (ra : Int) (s : CS) : Int := minus_0 s.y (pW (aR L ra s) (aI L s))
noncomputable def aX (L : List (List Int)) (ra : Int) (s : CS) : Int := addpt_0 (aC L ra s) (pU (aR L ra s) (aK L s))
noncomputable def aY (L : List (List Int)) (ra : Int) (s : CS) : Int := addpt_0 (aD L ra s) (pW (aR L ra s) (aK L s))
/-- An arc. -/
noncomputable def stA (L : List (List Int)) (sd ra : Int) (s : CS) : CS := ⟨s.k - 1, next_1 (next_1 (next_1 (next_1 (next_1 s.a L) L) L) L) L, aX L ra s, aY L ra s, addpt_0 (minus_0 s.z 0) 0,
  s.R ++ [itA s.x s.y s.z (aX L ra s) (aY L ra s) (addpt_0 (minus_0 s.z 0) 0) (aC L ra s) (aD L ra s) (minus_0 s.z 0) (IntKind.i64.wrap (1 - IntKind.i64.wrap (2 * next_0 2 (next_1 (next_1 (next_1 (next_1 s.a L) L) L) L) L))) 60000 sd ra]⟩
noncomputable def dX (L : List (List Int)) (sz : Int) (s : CS) : Int := addpt_0 s.x (range_0 (IntKind.i64.wrap (0 - sz)) sz (next_1 s.a L) L)
noncomputable def dY (L : List (List Int)) (sz : Int) (s : CS) : Int := addpt_0 s.y (range_0 (IntKind.i64.wrap (0 - sz)) sz (next_1 (next_1 s.a L) L) L)
/-- A line. -/
noncomputable def stLn (L : List (List Int)) (sd ra sz : Int) (s : CS) : CS := ⟨s.k - 1, next_1 (next_1 (next_1 s.a L) L) L, dX L sz s, dY L sz s, addpt_0 s.z 0, s.R ++ [itL s.x s.y s.z (dX L sz s) (dY L sz s) (addpt_0 s.z 0) 60000 sd ra]⟩
noncomputable def conStep (L : List (List Int)) (sd ra sz : Int) (s : CS) : CS :=
  bif next_0 10 s.a L == 0 then stO L s else bif next_0 10 s.a L == 1 then stZ L sd ra s else bif (bif next_0 10 s.a L == 2 then next_0 10 s.a L == 2 else next_0 10 s.a L == 3) then stA L sd ra s else stLn L sd ra sz s
noncomputable def conN (L : List (List Int)) (sd ra sz : Int) : Nat → CS → CS
  | 0, s => s
  | k + 1, s => conN L sd ra sz k (conStep L sd ra sz s)
noncomputable def conF (L : List (List Int)) (sd ra sz : Int) : Fam CS CS where
  k := 100
  E s := [(9, ent 1000000000 (.one (I (Int.ofNat s.k)))), (8, ent 1000000001 (.one (.wh 860))), (6, ent 526 (.one (.ptr 522 0))), (5, ent 275 (.one (I sz))), (4, ent 270 (.one (I ra))), (3, ent 137 (.one (I sd))), (0, ent 0 (.one (.ptr 0 0)))]
  M s := [(0, .blk 62 [(2, .wh 1), (1000000002, I s.a)]), rowL L, (522, .blk 30 [(1000000003, I s.x), (1000000004, I s.y), (1000000005, I s.z)]), rowI 860 1000000006 s.R]
  out s := .leaf (.exit 0) [(8, ent 855 (.one (.wh 860))), (6, ent 526 (.one (.ptr 522 0))), (5, ent 275 (.one (I sz))), (4, ent 270 (.one (I ra))), (3, ent 137 (.one (I sd))), (0, ent 0 (.one (.ptr 0 0)))] [(0, .blk 62 [(2, .wh 1), (856, I s.a)]), rowL L, (522, .blk 30 [(857, I s.x), (858, I s.y), (859, I s.z)]), rowI 860 861 s.R]
  fin s := conN L sd ra sz s.k s
  next s i := match i with
    | 0 => stO L s
    | 1 => stZ L sd ra s
    | 2 => stA L sd ra s
    | _ => stLn L sd ra sz s
  J s := 0 ≤ s.a ∧ L.length ≤ 1000000 ∧ (0 ≤ sz ∧ sz ≤ 1000000) ∧ s.R.length + s.k ≤ 1000
  μ s := s.k
noncomputable def con_s0 (s : CS) : Prop :=
  decide (Int.ofNat s.k > 0) = true
noncomputable def con_s1 (L : List (List Int)) (s : CS) : Prop :=
  (next_0 10 s.a L == 0) = true
noncomputable def con_s2 (s : CS) : Prop :=
  (s.R.length + 1) * 176 ≤ 140737488355328 ∧ s.R.length + 1 ≤ 9223372036854775807
noncomputable def con_s3 (L : List (List Int)) (s : CS) : Prop :=
  (next_0 10 s.a L == 0) = false
noncomputable def con_s4 (L : List (List Int)) (s : CS) : Prop :=
  (next_0 10 s.a L == 1) = true
noncomputable def con_s5 (L : List (List Int)) (s : CS) : Prop :=
  (next_0 10 s.a L == 1) = false
noncomputable def con_s6 (L : List (List Int)) (s : CS) : Bool :=
  next_0 10 s.a L == 2
noncomputable def con_s7 (L : List (List Int)) (s : CS) : Prop :=
  (bif con_s6 L s then con_s6 L s else next_0 10 s.a L == 3) = true
noncomputable def con_s8 (L : List (List Int)) (ra : Int) (s : CS) : Int :=
  IntKind.i64.wrap (range_0 1 4 (next_1 s.a L) L * ra)
noncomputable def con_s9 (L : List (List Int)) (ra : Int) (s : CS) : Int :=
  IntKind.i64.wrap (con_s8 L ra s + 20)
noncomputable def con_s10 (L : List (List Int)) (ra : Int) (s : CS) : List SC :=
  [SC.int IntKind.i64 (mkI (isC (mkI (isC (SI.v (range_0 1 4 (next_1 s.a L) L)) (SI.v ra)) (con_s8 L ra s)) (SI.c 20)) (con_s9 L ra s))]
noncomputable def con_s11 (L : List (List Int)) (ra : Int) (s : CS) : Int :=
  IntKind.i64.wrap (0 - con_s9 L ra s)
noncomputable def con_s12 (L : List (List Int)) (s : CS) : Int :=
  (IntKind.i64.wrap (next_0 4 (next_1 (next_1 s.a L) L) L + range_0 1 3 (next_1 (next_1 (next_1 s.a L) L) L) L)).tmod 4
noncomputable def con_s13 (L : List (List Int)) (s : CS) : Prop :=
  (bif con_s6 L s then con_s6 L s else next_0 10 s.a L == 3) = false
noncomputable def con_s14 (L : List (List Int)) (s : CS) : Int :=
  IntKind.i64.wrap (s.z + range_0 (-50) 50 (next_1 s.a L) L)
noncomputable def con_s15 (sd : Int) (ra : Int) : List Int :=
  [0, sd, ra, 0, 0, 0, 0]
noncomputable def con_s16 (L : List (List Int)) (ra : Int) (s : CS) : Int :=
  minus_0 s.x
   (bif (next_0 4 (next_1 (next_1 s.a L) L) L).toNat.beq 0 then con_s9 L ra s
   else bif (next_0 4 (next_1 (next_1 s.a L) L) L).toNat.beq 1 then 0 else bif (next_0 4 (next_1 (next_1 s.a L) L) L).toNat.beq 2 then con_s11 L ra s else 0)
noncomputable def con_s17 (L : List (List Int)) (ra : Int) (s : CS) : Int :=
  addpt_0 (con_s16 L ra s) (bif (con_s12 L s).toNat.beq 0 then con_s9 L ra s else bif (con_s12 L s).toNat.beq 1 then 0 else bif (con_s12 L s).toNat.beq 2 then con_s11 L ra s else 0)
noncomputable def con_s18 (L : List (List Int)) (ra : Int) (s : CS) : Int :=
  minus_0 s.y
   (bif (next_0 4 (next_1 (next_1 s.a L) L) L).toNat.beq 0 then 0
   else bif (next_0 4 (next_1 (next_1 s.a L) L) L).toNat.beq 1 then con_s9 L ra s else bif (next_0 4 (next_1 (next_1 s.a L) L) L).toNat.beq 2 then 0 else con_s11 L ra s)
noncomputable def con_s19 (L : List (List Int)) (ra : Int) (s : CS) : Int :=
  addpt_0 (con_s18 L ra s) (bif (con_s12 L s).toNat.beq 0 then 0 else bif (con_s12 L s).toNat.beq 1 then con_s9 L ra s else bif (con_s12 L s).toNat.beq 2 then 0 else con_s11 L ra s)
noncomputable def con_s20 (L : List (List Int)) (sz : Int) (s : CS) : Int :=
  addpt_0 s.x (range_0 (IntKind.i64.wrap (0 - sz)) sz (next_1 s.a L) L)
noncomputable def con_s21 (L : List (List Int)) (sz : Int) (s : CS) : Int :=
  addpt_0 s.y (range_0 (IntKind.i64.wrap (0 - sz)) sz (next_1 (next_1 s.a L) L) L)
noncomputable def con_needs (L : List (List Int)) (sd : Int) (ra : Int) (sz : Int) (s : CS) : List Prop :=
  [con_s0 s →
   0 ≤ s.a ∧
   L.length ≤ 1000000 ∧
   Int.ofNat 10 ≠ 0 ∧
   (con_s1 L s → 0 ≤ next_1 s.a L ∧ L.length ≤ 1000000 ∧ Int.ofNat 4 ≠ 0 ∧ con_s2 s) ∧
   (con_s3 L s →
   (con_s4 L s → 0 ≤ next_1 s.a L ∧ L.length ≤ 1000000 ∧ (-50 ≤ 50 ∧ -1000000 ≤ -50 ∧ Int.ofNat 50 ≤ 1000000) ∧ con_s2 s) ∧
   (con_s5 L s →
   con_s7 L s →
   0 ≤ next_1 s.a L ∧
   L.length ≤ 1000000 ∧
   (Int.ofNat 1 ≤ 4 ∧ -1000000 ≤ 1 ∧ Int.ofNat 4 ≤ 1000000) ∧
   0 ≤ next_1 (next_1 s.a L) L ∧
   L.length ≤ 1000000 ∧
   Int.ofNat 4 ≠ 0 ∧
   0 ≤ next_1 (next_1 (next_1 s.a L) L) L ∧
   L.length ≤ 1000000 ∧
   (Int.ofNat 1 ≤ 3 ∧ -1000000 ≤ 1 ∧ Int.ofNat 3 ≤ 1000000) ∧
   0 ≤ next_0 4 (next_1 (next_1 s.a L) L) L ∧
   (next_0 4 (next_1 (next_1 s.a L) L) L).toNat < 4 ∧
   (next_0 4 (next_1 (next_1 s.a L) L) L).toNat < 4 ∧
   (next_0 4 (next_1 (next_1 s.a L) L) L).toNat <
   (chunks 2 4
   (paste
   (paste
   (paste
   (paste (List.map (fun j => [SC.int IntKind.i64 (SI.c 0), SC.int IntKind.i64 (SI.c 0)][j % 2]?.getD SC.nilp) (List.range 8)) 0
   (paste [SC.int IntKind.i64 (SI.c 0), SC.int IntKind.i64 (SI.c 0)] 0 (con_s10 L ra s)))
   2 (paste [SC.int IntKind.i64 (SI.c 0), SC.int IntKind.i64 (SI.c 0)] 1 (con_s10 L ra s)))
   4 (paste [SC.int IntKind.i64 (SI.c 0), SC.int IntKind.i64 (SI.c 0)] 0 [SC.int IntKind.i64 (SI.v (con_s11 L ra s))]))
   6 (paste [SC.int IntKind.i64 (SI.c 0), SC.int IntKind.i64 (SI.c 0)] 1 [SC.int IntKind.i64 (SI.v (con_s11 L ra s))]))).length ∧
   0 ≤ next_0 4 (next_1 (next_1 s.a L) L) L ∧
   (next_0 4 (next_1 (next_1 s.a L) L) L).toNat < 4 ∧
   (next_0 4 (next_1 (next_1 s.a L) L) L).toNat < 4 ∧
   (next_0 4 (next_1 (next_1 s.a L) L) L).toNat <
   (chunks 2 4
   (paste
   (paste
   (paste
   (paste (List.map (fun j => [SC.int IntKind.i64 (SI.c 0), SC.int IntKind.i64 (SI.c 0)][j % 2]?.getD SC.nilp) (List.range 8)) 0
   (paste [SC.int IntKind.i64 (SI.c 0), SC.int IntKind.i64 (SI.c 0)] 0 (con_s10 L ra s)))
   2 (paste [SC.int IntKind.i64 (SI.c 0), SC.int IntKind.i64 (SI.c 0)] 1 (con_s10 L ra s)))
   4 (paste [SC.int IntKind.i64 (SI.c 0), SC.int IntKind.i64 (SI.c 0)] 0 [SC.int IntKind.i64 (SI.v (con_s11 L ra s))]))
   6 (paste [SC.int IntKind.i64 (SI.c 0), SC.int IntKind.i64 (SI.c 0)] 1 [SC.int IntKind.i64 (SI.v (con_s11 L ra s))]))).length ∧
   0 ≤ con_s12 L s ∧
   (con_s12 L s).toNat < 4 ∧
   (con_s12 L s).toNat <
   (chunks 2 4
   (paste
   (paste
   (paste
   (paste (List.map (fun j => [SC.int IntKind.i64 (SI.c 0), SC.int IntKind.i64 (SI.c 0)][j % 2]?.getD SC.nilp) (List.range 8)) 0
   (paste [SC.int IntKind.i64 (SI.c 0), SC.int IntKind.i64 (SI.c 0)] 0 (con_s10 L ra s)))
   2 (paste [SC.int IntKind.i64 (SI.c 0), SC.int IntKind.i64 (SI.c 0)] 1 (con_s10 L ra s)))
   4 (paste [SC.int IntKind.i64 (SI.c 0), SC.int IntKind.i64 (SI.c 0)] 0 [SC.int IntKind.i64 (SI.v (con_s11 L ra s))]))
   6 (paste [SC.int IntKind.i64 (SI.c 0), SC.int IntKind.i64 (SI.c 0)] 1 [SC.int IntKind.i64 (SI.v (con_s11 L ra s))]))).length ∧
   0 ≤ next_1 (next_1 (next_1 (next_1 s.a L) L) L) L ∧ L.length ≤ 1000000 ∧ Int.ofNat 2 ≠ 0 ∧ con_s2 s)) ∧
   (con_s3 L s →
   con_s5 L s →
   con_s13 L s →
   0 ≤ next_1 s.a L ∧
   L.length ≤ 1000000 ∧
   (IntKind.i64.wrap (0 - sz) ≤ sz ∧ -1000000 ≤ IntKind.i64.wrap (0 - sz) ∧ sz ≤ 1000000) ∧
   0 ≤ next_1 (next_1 s.a L) L ∧ L.length ≤ 1000000 ∧ (IntKind.i64.wrap (0 - sz) ≤ sz ∧ -1000000 ≤ IntKind.i64.wrap (0 - sz) ∧ sz ≤ 1000000) ∧ con_s2 s),
   con_s0 s →
   (con_s1 L s →
   (0 ≤ ((conF L sd ra sz).next s 0).a ∧ L.length ≤ 1000000 ∧ (0 ≤ sz ∧ sz ≤ 1000000) ∧ ((conF L sd ra sz).next s 0).R.length + ((conF L sd ra sz).next s 0).k ≤ 1000) ∧
   (conF L sd ra sz).μ ((conF L sd ra sz).next s 0) < (conF L sd ra sz).μ s ∧
   (conF L sd ra sz).fin ((conF L sd ra sz).next s 0) = (conF L sd ra sz).fin s ∧
   Int.ofNat ((conF L sd ra sz).next s 0).k = IntKind.i64.wrap (Int.ofNat s.k - 1) ∧
   ((conF L sd ra sz).next s 0).a = next_1 (next_1 s.a L) L ∧
   ((conF L sd ra sz).next s 0).x = s.x ∧
   ((conF L sd ra sz).next s 0).y = s.y ∧
   ((conF L sd ra sz).next s 0).z = s.z ∧ ((conF L sd ra sz).next s 0).R = s.R ++ [[10, 0, 0, 0, 0, 0, 0, 0, 0, 0, 0, 0, 0, 0, 0, 0, 0, 0, 0, next_0 4 (next_1 s.a L) L, 0, 1]]) ∧
   (con_s3 L s →
   (con_s4 L s →
   (0 ≤ ((conF L sd ra sz).next s 1).a ∧ L.length ≤ 1000000 ∧ (0 ≤ sz ∧ sz ≤ 1000000) ∧ ((conF L sd ra sz).next s 1).R.length + ((conF L sd ra sz).next s 1).k ≤ 1000) ∧
   (conF L sd ra sz).μ ((conF L sd ra sz).next s 1) < (conF L sd ra sz).μ s ∧
   (conF L sd ra sz).fin ((conF L sd ra sz).next s 1) = (conF L sd ra sz).fin s ∧
   Int.ofNat ((conF L sd ra sz).next s 1).k = IntKind.i64.wrap (Int.ofNat s.k - 1) ∧
   ((conF L sd ra sz).next s 1).a = next_1 (next_1 s.a L) L ∧
   ((conF L sd ra sz).next s 1).x = s.x ∧
   ((conF L sd ra sz).next s 1).y = s.y ∧
   ((conF L sd ra sz).next s 1).z = con_s14 L s ∧
   ((conF L sd ra sz).next s 1).R = s.R ++ [2 :: 0 :: s.x :: s.y :: s.z :: s.x :: s.y :: con_s14 L s :: 17 :: 0 :: 0 :: 0 :: 0 :: 0 :: 30000 :: con_s15 sd ra]) ∧
   (con_s5 L s →
   (con_s7 L s →
   (0 ≤ ((conF L sd ra sz).next s 2).a ∧ L.length ≤ 1000000 ∧ (0 ≤ sz ∧ sz ≤ 1000000) ∧ ((conF L sd ra sz).next s 2).R.length + ((conF L sd ra sz).next s 2).k ≤ 1000) ∧
   (conF L sd ra sz).μ ((conF L sd ra sz).next s 2) < (conF L sd ra sz).μ s ∧
   (conF L sd ra sz).fin ((conF L sd ra sz).next s 2) = (conF L sd ra sz).fin s ∧
   Int.ofNat ((conF L sd ra sz).next s 2).k = IntKind.i64.wrap (Int.ofNat s.k - 1) ∧
   ((conF L sd ra sz).next s 2).a = next_1 (next_1 (next_1 (next_1 (next_1 s.a L) L) L) L) L ∧
   ((conF L sd ra sz).next s 2).x = con_s17 L ra s ∧
   ((conF L sd ra sz).next s 2).y = con_s19 L ra s ∧
   ((conF L sd ra sz).next s 2).z = addpt_0 (minus_0 s.z 0) 0 ∧
   ((conF L sd ra sz).next s 2).R =
   s.R ++
   [3 ::
   0 ::
   s.x ::
   s.y ::
   s.z ::
   con_s17 L ra s ::
   con_s19 L ra s ::
   addpt_0 (minus_0 s.z 0) 0 ::
   17 ::
   con_s16 L ra s ::
   con_s18 L ra s ::
   minus_0 s.z 0 ::
   IntKind.i64.wrap (1 - IntKind.i64.wrap (2 * next_0 2 (next_1 (next_1 (next_1 (next_1 s.a L) L) L) L) L)) ::
   0 :: 60000 :: con_s15 sd ra]) ∧
   (con_s13 L s →
   (0 ≤ ((conF L sd ra sz).next s 3).a ∧ L.length ≤ 1000000 ∧ (0 ≤ sz ∧ sz ≤ 1000000) ∧ ((conF L sd ra sz).next s 3).R.length + ((conF L sd ra sz).next s 3).k ≤ 1000) ∧
   (conF L sd ra sz).μ ((conF L sd ra sz).next s 3) < (conF L sd ra sz).μ s ∧
   (conF L sd ra sz).fin ((conF L sd ra sz).next s 3) = (conF L sd ra sz).fin s ∧
   Int.ofNat ((conF L sd ra sz).next s 3).k = IntKind.i64.wrap (Int.ofNat s.k - 1) ∧
   ((conF L sd ra sz).next s 3).a = next_1 (next_1 (next_1 s.a L) L) L ∧
   ((conF L sd ra sz).next s 3).x = con_s20 L sz s ∧
   ((conF L sd ra sz).next s 3).y = con_s21 L sz s ∧
   ((conF L sd ra sz).next s 3).z = addpt_0 s.z 0 ∧
   ((conF L sd ra sz).next s 3).R =
   s.R ++ [2 :: 0 :: s.x :: s.y :: s.z :: con_s20 L sz s :: con_s21 L sz s :: addpt_0 s.z 0 :: 17 :: 0 :: 0 :: 0 :: 0 :: 0 :: 60000 :: con_s15 sd ra]))),
   decide (Int.ofNat s.k > 0) = false →
   ((conF L sd ra sz).fin s).a = s.a ∧ ((conF L sd ra sz).fin s).x = s.x ∧ ((conF L sd ra sz).fin s).y = s.y ∧ ((conF L sd ra sz).fin s).z = s.z ∧ ((conF L sd ra sz).fin s).R = s.R]
theorem con_round (L : List (List Int)) (sd ra sz : Int) (s : CS) (hNeeds : ∀ pN ∈ (con_needs L sd ra sz s), pN) : RoundOk (roundC (conF L sd ra sz) (bodyOf Try.prog (sums K_svec) L_rel 11 0) 854 s) :=
  RoundOk.of (ps := (con_needs L sd ra sz s)) (by kernel_rfl) (by kernel_rfl) hNeeds
theorem con_rounds (L : List (List Int)) (sd ra sz : Int) : RoundsOk (conF L sd ra sz) (bodyOf Try.prog (sums K_svec) L_rel 11 0) 854 := by
  intro s hJ
  obtain ⟨h1, h2, h3, h4⟩ : 0 ≤ s.a ∧ L.length ≤ 1000000 ∧ (0 ≤ sz ∧ sz ≤ 1000000) ∧ s.R.length + s.k ≤ 1000 := hJ
  have nn : ∀ x, 0 ≤ x → 0 ≤ next_1 x L := fun x h => next_1_nn x L h h2
  have n1 := nn _ h1
  have n2 := nn _ n1
  have n3 := nn _ n2
  have n4 := nn _ n3
  have n5 := nn _ n4
  have ez : IntKind.i64.wrap (0 - sz) = 0 - sz := wrI (by omega) (by omega)
  have e2 : con_s2 s := by unfold con_s2; omega
  have ri := next_0_range 4 (next_1 (next_1 s.a L) L) L (by omega) (by omega)
  have ri' : (next_0 4 (next_1 (next_1 s.a L) L) L).toNat < 4 := by omega
  have rk := range_0_rng 1 3 (next_1 (next_1 (next_1 s.a L) L) L) L (by omega) (by omega) (by omega)
  have rj : 0 ≤ con_s12 L s ∧ (con_s12 L s).toNat < 4 := by
    unfold con_s12
    rw [wrI (by omega) (by omega)]
    have := Int.tmod_lt_of_pos (next_0 4 (next_1 (next_1 s.a L) L) L + range_0 1 3 (next_1 (next_1 (next_1 s.a L) L) L) L) (b := 4) (by omega)
    have := Int.tmod_nonneg (a := next_0 4 (next_1 (next_1 s.a L) L) L + range_0 1 3 (next_1 (next_1 (next_1 s.a L) L) L) L) 4 (by omega)
    omega
  have rz : IntKind.i64.wrap (0 - sz) ≤ sz ∧ -1000000 ≤ IntKind.i64.wrap (0 - sz) ∧ sz ≤ 1000000 := by rw [ez]; omega
  refine con_round L sd ra sz s ?_
  unfold con_needs
  simp only [List.forall_mem_cons, List.not_mem_nil, false_implies, implies_true, and_true]
  refine ⟨fun _ => ⟨h1, h2, by decide, fun _ => ⟨n1, h2, by decide, e2⟩, fun _ => ⟨fun _ => ⟨n1, h2, by decide, e2⟩, fun _ _ => ⟨n1, h2, by decide, n2, h2, by decide, n3, h2, by decide, ri.1, ri', ri', ri', ri.1, ri', ri', ri', rj.1, rj.2, rj.2, n4, h2, by decide, e2⟩⟩, fun _ _ _ => ⟨n1, h2, rz, n2, h2, rz, e2⟩⟩, ?_, ?_⟩
  · intro h0
    obtain ⟨k, hk⟩ : ∃ k, s.k = k + 1 := ⟨s.k - 1, by unfold con_s0 at h0; simp at h0; omega⟩
    have ek : IntKind.i64.wrap (Int.ofNat s.k - 1) = Int.ofNat (s.k - 1) := by rw [wrI (by simp; omega) (by simp; omega)]; simp; omega
    have key : ∀ t, t.k = s.k - 1 → t = conStep L sd ra sz s → conN L sd ra sz t.k t = conN L sd ra sz s.k s := fun t h1 h2 => by rw [h1, h2, hk]; rfl
    have len : ∀ x, (s.R ++ [x]).length + (s.k - 1) ≤ 1000 := fun x => by simp; omega
    refine ⟨fun h => ?_, fun h => ⟨fun h' => ?_, fun h' => ⟨fun h'' => ?_, fun h'' => ?_⟩⟩⟩
    · exact ⟨⟨n2, h2, h3, len _⟩, by show s.k - 1 < s.k; omega, key _ rfl (by unfold con_s1 at h; unfold conStep; rw [h]; rfl), ek.symm, rfl, rfl, rfl, rfl, rfl⟩
    · exact ⟨⟨n2, h2, h3, len _⟩, by show s.k - 1 < s.k; omega, key _ rfl (by unfold con_s3 at h; unfold con_s4 at h'; unfold conStep; rw [h, h']; rfl), ek.symm, rfl, rfl, rfl, rfl, rfl⟩
    · exact ⟨⟨n5, h2, h3, len _⟩, by show s.k - 1 < s.k; omega, key _ rfl (by unfold con_s3 at h; unfold con_s5 at h'; unfold con_s7 con_s6 at h''; unfold conStep; rw [h, h', h'']; rfl), ek.symm, rfl, rfl, rfl, rfl, rfl⟩
    · exact ⟨⟨n3, h2, h3, len _⟩, by show s.k - 1 < s.k; omega, key _ rfl (by unfold con_s3 at h; unfold con_s5 at h'; unfold con_s13 con_s6 at h''; unfold conStep; rw [h, h', h'']; rfl), ek.symm, rfl, rfl, rfl, rfl, rfl⟩
  · intro h0
    have hk : s.k = 0 := by simp at h0; omega
    have e : conN L sd ra sz s.k s = s := by rw [hk]; rfl
    show (conN L sd ra sz s.k s).a = s.a ∧ (conN L sd ra sz s.k s).x = s.x ∧ (conN L sd ra sz s.k s).y = s.y ∧ (conN L sd ra sz s.k s).z = s.z ∧ (conN L sd ra sz s.k s).R = s.R
    rw [e]
    exact ⟨rfl, rfl, rfl, rfl, rfl⟩
noncomputable def conLp : LoopS := fun env mem m => match SX.look env 9, SX.look env 8, SX.look env 5, SX.look env 4, SX.look env 3, SX.look mem 0, SX.look mem 1, SX.look mem 522 with
  | some ⟨_, _, _, .one (.int _ n)⟩, some ⟨_, _, _, .one (.wh rid)⟩, some ⟨_, _, _, .one (.int _ sz)⟩, some ⟨_, _, _, .one (.int _ ra)⟩, some ⟨_, _, _, .one (.int _ sd)⟩, some (.blk _ [_, (_, .int _ a)]), some (.row _ _ _ (.lst _ _ L)), some (.blk _ [(_, .int _ x), (_, .int _ y), (_, .int _ z)]) => (match SX.look mem rid with
    | some (.row _ _ _ (.lit _ rows)) => (match encRows CKi rows with
      | some R => famS (conF L sd.val ra.val sz.val) 854 (fun _ _ => some ⟨n.val.toNat, a.val, x.val, y.val, z.val, R⟩) env mem m
      | none => none)
    | _ => none)
  | _, _, _, _, _, _, _, _ => none
noncomputable def L_con : FuncId → Nat → Option LoopS := addL L_rel 11 10 conLp
theorem known_conL : Known Try.prog (sums K_svec) L_con := by
  refine known_addL 0 known_svec (by kernel_rfl) (codeOk_of fun env mem m x h => ?_)
  unfold conLp at h
  have hlen : (loopList Try.prog 11).length = 1 := by kernel_rfl
  split at h
  · split at h
    · split at h
      · exact ⟨_, fam_ok (bodyOf_ok plainN known_svec (by omega)) (con_rounds _ _ _ _), h⟩
      · cases h
    · cases h
  · cases h
theorem conStep_a {L : List (List Int)} {sd ra sz : Int} {s : CS} (hl : L.length ≤ 1000000) (h : 0 ≤ s.a) : 0 ≤ (conStep L sd ra sz s).a := by
  have nn : ∀ x, 0 ≤ x → 0 ≤ next_1 x L := fun x h => next_1_nn x L h hl
  unfold conStep
  generalize (bif next_0 10 s.a L == 2 then next_0 10 s.a L == 2 else next_0 10 s.a L == 3 : Bool) = c
  cases next_0 10 s.a L == 0 <;> cases next_0 10 s.a L == 1 <;> cases c <;> first
    | exact nn _ (nn _ h)
    | exact nn _ (nn _ (nn _ h))
    | exact nn _ (nn _ (nn _ (nn _ (nn _ h))))
theorem conN_a {L : List (List Int)} {sd ra sz : Int} (hl : L.length ≤ 1000000) : ∀ (k : Nat) (s : CS), 0 ≤ s.a → 0 ≤ (conN L sd ra sz k s).a
  | 0, _, h => h
  | k + 1, s, h => conN_a hl k _ (conStep_a hl h)
theorem conStep_R (L : List (List Int)) (sd ra sz : Int) (s : CS) : (conStep L sd ra sz s).R.length = s.R.length + 1 := by
  unfold conStep
  generalize (bif next_0 10 s.a L == 2 then next_0 10 s.a L == 2 else next_0 10 s.a L == 3 : Bool) = c
  cases next_0 10 s.a L == 0 <;> cases next_0 10 s.a L == 1 <;> cases c <;> simp only [cond_true, cond_false, stO, stZ, stA, stLn, List.length_append, List.length_cons, List.length_nil]
theorem conN_R (L : List (List Int)) (sd ra sz : Int) : ∀ (k : Nat) (s : CS), (conN L sd ra sz k s).R.length = s.R.length + k
  | 0, _ => rfl
  | k + 1, s => by
    have := conN_R L sd ra sz k (conStep L sd ra sz s)
    rw [conStep_R] at this
    show (conN L sd ra sz k (conStep L sd ra sz s)).R.length = _
    omega
noncomputable def cSd (a : Int) (L : List (List Int)) : Int := IntKind.i64.wrap (1 - IntKind.i64.wrap (2 * next_0 2 a L))
noncomputable def cRa (a : Int) (L : List (List Int)) : Int := bif next_0 4 (next_1 (next_1 a L) L) L == 0 then range_0 100 2000 (next_1 (next_1 (next_1 a L) L) L) L else range_0 0 40 (next_1 a L) L
noncomputable def cSz (a : Int) (L : List (List Int)) : Int := IntKind.i64.wrap (200 + IntKind.i64.wrap (6 * cRa a L))
noncomputable def cA (a : Int) (L : List (List Int)) : Int := bif next_0 4 (next_1 (next_1 a L) L) L == 0 then next_1 (next_1 (next_1 (next_1 a L) L) L) L else next_1 (next_1 (next_1 a L) L) L
noncomputable def cX (a : Int) (L : List (List Int)) : Int := addpt_0 (svec_0 1000 (cA a L) L) (range_0 (IntKind.i64.wrap (cRa a L + 1)) (cSz a L) (next_1 (next_1 (next_1 (cA a L) L) L) L) L)
noncomputable def cY (a : Int) (L : List (List Int)) : Int := addpt_0 (svec_1 1000 (cA a L) L) (range_0 (IntKind.i64.wrap (0 - cSz a L)) (cSz a L) (next_1 (next_1 (next_1 (next_1 (cA a L) L) L) L) L) L)
noncomputable def cZ (a : Int) (L : List (List Int)) : Int := addpt_0 (svec_2 1000 (cA a L) L) 0
noncomputable def cS (a : Int) (L : List (List Int)) : CS := ⟨(range_0 1 6 (next_1 (next_1 (next_1 (next_1 (next_1 (cA a L) L) L) L) L) L) L).toNat, next_1 (next_1 (next_1 (next_1 (next_1 (next_1 (cA a L) L) L) L) L) L) L, cX a L, cY a L, cZ a L,
  [itL (svec_0 1000 (cA a L) L) (svec_1 1000 (cA a L) L) (svec_2 1000 (cA a L) L) (cX a L) (cY a L) (cZ a L) 60000 (cSd a L) (cRa a L)]⟩
/-- Behind the loop. -/
noncomputable def cT (a : Int) (L : List (List Int)) : CS := conN L (cSd a L) (cRa a L) (cSz a L) (cS a L).k (cS a L)
noncomputable def itM (x y z u v w : Int) : List Int := [2, 0, x, y, z, u, v, w, 0, 0, 0, 0, 0, 0, 60000, 0, 0, 0, 0, 0, 0, 0]
/-- The contour. -/
noncomputable def contL (a : Int) (L : List (List Int)) : List (List Int) := (cT a L).R ++ [itM (cT a L).x (cT a L).y (cT a L).z (addpt_0 (cT a L).x (range_0 (IntKind.i64.wrap (0 - cSz a L)) (cSz a L) (cT a L).a L))
  (addpt_0 (cT a L).y (range_0 (IntKind.i64.wrap (cRa a L + 1)) (cSz a L) (next_1 (cT a L).a L) L)) (addpt_0 (cT a L).z 0)]
noncomputable def contA (a : Int) (L : List (List Int)) : Int := next_1 (next_1 (cT a L).a L) L
theorem cS_k (a : Int) (L : List (List Int)) : 1 ≤ (cS a L).k ∧ (cS a L).k ≤ 6 := by
  have h := range_0_rng 1 6 (next_1 (next_1 (next_1 (next_1 (next_1 (cA a L) L) L) L) L) L) L (by omega) (by omega) (by omega)
  unfold cS; dsimp only; omega
theorem contL_len (a : Int) (L : List (List Int)) : 3 ≤ (contL a L).length ∧ (contL a L).length ≤ 8 := by
  have h := cS_k a L
  have k := conN_R L (cSd a L) (cRa a L) (cSz a L) (cS a L).k (cS a L)
  have e : (cS a L).R.length = 1 := rfl
  unfold contL cT
  simp only [List.length_append, List.length_cons, List.length_nil]
  omega
theorem cRa_rng (a : Int) (L : List (List Int)) : 0 ≤ cRa a L ∧ cRa a L ≤ 2000 := by
  have h1 := range_0_rng 0 40 (next_1 a L) L (by omega) (by omega) (by omega)
  have h2 := range_0_rng 100 2000 (next_1 (next_1 (next_1 a L) L) L) L (by omega) (by omega) (by omega)
  unfold cRa
  cases next_0 4 (next_1 (next_1 a L) L) L == 0
  · rw [cond_false]; omega
  · rw [cond_true]; omega
theorem cSz_eq (a : Int) (L : List (List Int)) : cSz a L = 200 + 6 * cRa a L := by
  have := cRa_rng a L
  unfold cSz
  rw [wrI (x := 6 * cRa a L) (by omega) (by omega), wrI (by omega) (by omega)]
theorem cA_nn {a : Int} {L : List (List Int)} (h : 0 ≤ a) (hl : L.length ≤ 1000000) : 0 ≤ cA a L := by
  have nn : ∀ x, 0 ≤ x → 0 ≤ next_1 x L := fun x h => next_1_nn x L h hl
  unfold cA
  cases next_0 4 (next_1 (next_1 a L) L) L == 0
  · exact nn _ (nn _ (nn _ h))
  · exact nn _ (nn _ (nn _ (nn _ h)))
noncomputable def contour_tpl : Tpl := ⟨[.one (.ptr 0 0)], [(0, .blk 62 [(2, .wh 1), (3, .int .i64)]), (1, .row true 3 1 4 [.int .i64])], 5⟩
noncomputable def contour_s0 (a : Int) (L : List (List Int)) : Int :=
  IntKind.i64.wrap (1 - IntKind.i64.wrap (2 * next_0 2 a L))
noncomputable def contour_s1 (a : Int) (L : List (List Int)) : Int :=
  bif next_0 4 (next_1 (next_1 a L) L) L == 0 then range_0 100 2000 (next_1 (next_1 (next_1 a L) L) L) L else range_0 0 40 (next_1 a L) L
noncomputable def contour_s2 (a : Int) (L : List (List Int)) : Int :=
  IntKind.i64.wrap (200 + IntKind.i64.wrap (6 * contour_s1 a L))
noncomputable def contour_s3 (a : Int) (L : List (List Int)) : Int :=
  bif next_0 4 (next_1 (next_1 a L) L) L == 0 then next_1 (next_1 (next_1 (next_1 a L) L) L) L else next_1 (next_1 (next_1 a L) L) L
noncomputable def contour_s4 (a : Int) (L : List (List Int)) : Int :=
  addpt_0 (svec_0 1000 (contour_s3 a L) L) (range_0 (IntKind.i64.wrap (contour_s1 a L + 1)) (contour_s2 a L) (next_1 (next_1 (next_1 (contour_s3 a L) L) L) L) L)
noncomputable def contour_s5 (a : Int) (L : List (List Int)) : Int :=
  addpt_0 (svec_1 1000 (contour_s3 a L) L) (range_0 (IntKind.i64.wrap (0 - contour_s2 a L)) (contour_s2 a L) (next_1 (next_1 (next_1 (next_1 (contour_s3 a L) L) L) L) L) L)
noncomputable def contour_s6 (a : Int) (L : List (List Int)) : Int :=
  ((conF L (contour_s0 a L) (contour_s1 a L) (contour_s2 a L)).fin
   (CS.mk (range_0 1 6 (next_1 (next_1 (next_1 (next_1 (next_1 (contour_s3 a L) L) L) L) L) L) L).toNat (next_1 (next_1 (next_1 (next_1 (next_1 (next_1 (contour_s3 a L) L) L) L) L) L) L)
   (contour_s4 a L) (contour_s5 a L) (addpt_0 (svec_2 1000 (contour_s3 a L) L) 0)
   [[2, 0, svec_0 1000 (contour_s3 a L) L, svec_1 1000 (contour_s3 a L) L, svec_2 1000 (contour_s3 a L) L, contour_s4 a L, contour_s5 a L, addpt_0 (svec_2 1000 (contour_s3 a L) L) 0, 17, 0, 0, 0,
   0, 0, 60000, 0, contour_s0 a L, contour_s1 a L, 0, 0, 0, 0]])).x
noncomputable def contour_s7 (a : Int) (L : List (List Int)) : Int :=
  ((conF L (contour_s0 a L) (contour_s1 a L) (contour_s2 a L)).fin
   (CS.mk (range_0 1 6 (next_1 (next_1 (next_1 (next_1 (next_1 (contour_s3 a L) L) L) L) L) L) L).toNat (next_1 (next_1 (next_1 (next_1 (next_1 (next_1 (contour_s3 a L) L) L) L) L) L) L)
   (contour_s4 a L) (contour_s5 a L) (addpt_0 (svec_2 1000 (contour_s3 a L) L) 0)
   [[2, 0, svec_0 1000 (contour_s3 a L) L, svec_1 1000 (contour_s3 a L) L, svec_2 1000 (contour_s3 a L) L, contour_s4 a L, contour_s5 a L, addpt_0 (svec_2 1000 (contour_s3 a L) L) 0, 17, 0, 0, 0,
   0, 0, 60000, 0, contour_s0 a L, contour_s1 a L, 0, 0, 0, 0]])).y
noncomputable def contour_s8 (a : Int) (L : List (List Int)) : Int :=
  ((conF L (contour_s0 a L) (contour_s1 a L) (contour_s2 a L)).fin
   (CS.mk (range_0 1 6 (next_1 (next_1 (next_1 (next_1 (next_1 (contour_s3 a L) L) L) L) L) L) L).toNat (next_1 (next_1 (next_1 (next_1 (next_1 (next_1 (contour_s3 a L) L) L) L) L) L) L)
   (contour_s4 a L) (contour_s5 a L) (addpt_0 (svec_2 1000 (contour_s3 a L) L) 0)
   [[2, 0, svec_0 1000 (contour_s3 a L) L, svec_1 1000 (contour_s3 a L) L, svec_2 1000 (contour_s3 a L) L, contour_s4 a L, contour_s5 a L, addpt_0 (svec_2 1000 (contour_s3 a L) L) 0, 17, 0, 0, 0,
   0, 0, 60000, 0, contour_s0 a L, contour_s1 a L, 0, 0, 0, 0]])).z
noncomputable def contour_s9 (a : Int) (L : List (List Int)) : Int :=
  ((conF L (contour_s0 a L) (contour_s1 a L) (contour_s2 a L)).fin
   (CS.mk (range_0 1 6 (next_1 (next_1 (next_1 (next_1 (next_1 (contour_s3 a L) L) L) L) L) L) L).toNat (next_1 (next_1 (next_1 (next_1 (next_1 (next_1 (contour_s3 a L) L) L) L) L) L) L)
   (contour_s4 a L) (contour_s5 a L) (addpt_0 (svec_2 1000 (contour_s3 a L) L) 0)
   [[2, 0, svec_0 1000 (contour_s3 a L) L, svec_1 1000 (contour_s3 a L) L, svec_2 1000 (contour_s3 a L) L, contour_s4 a L, contour_s5 a L, addpt_0 (svec_2 1000 (contour_s3 a L) L) 0, 17, 0, 0, 0,
   0, 0, 60000, 0, contour_s0 a L, contour_s1 a L, 0, 0, 0, 0]])).a
noncomputable def contour_0 (a : Int) (L : List (List Int)) : List (List Int) :=
  ((conF L (contour_s0 a L) (contour_s1 a L) (contour_s2 a L)).fin
   (CS.mk (range_0 1 6 (next_1 (next_1 (next_1 (next_1 (next_1 (contour_s3 a L) L) L) L) L) L) L).toNat (next_1 (next_1 (next_1 (next_1 (next_1 (next_1 (contour_s3 a L) L) L) L) L) L) L)
   (contour_s4 a L) (contour_s5 a L) (addpt_0 (svec_2 1000 (contour_s3 a L) L) 0)
   [[2, 0, svec_0 1000 (contour_s3 a L) L, svec_1 1000 (contour_s3 a L) L, svec_2 1000 (contour_s3 a L) L, contour_s4 a L, contour_s5 a L, addpt_0 (svec_2 1000 (contour_s3 a L) L) 0, 17, 0, 0, 0,
   0, 0, 60000, 0, contour_s0 a L, contour_s1 a L, 0, 0, 0, 0]])).R ++
   [[2, 0, contour_s6 a L, contour_s7 a L, contour_s8 a L, addpt_0 (contour_s6 a L) (range_0 (IntKind.i64.wrap (0 - contour_s2 a L)) (contour_s2 a L) (contour_s9 a L) L),
   addpt_0 (contour_s7 a L) (range_0 (IntKind.i64.wrap (contour_s1 a L + 1)) (contour_s2 a L) (next_1 (contour_s9 a L) L) L), addpt_0 (contour_s8 a L) 0, 0, 0, 0, 0, 0, 0, 60000, 0, 0, 0, 0, 0, 0,
   0]]
noncomputable def contour_1 (a : Int) (L : List (List Int)) : Int :=
  next_1
   (next_1
   ((conF L (IntKind.i64.wrap (1 - IntKind.i64.wrap (2 * next_0 2 a L))) (contour_s1 a L) (contour_s2 a L)).fin
   (CS.mk (range_0 1 6 (next_1 (next_1 (next_1 (next_1 (next_1 (contour_s3 a L) L) L) L) L) L) L).toNat (next_1 (next_1 (next_1 (next_1 (next_1 (next_1 (contour_s3 a L) L) L) L) L) L) L)
   (addpt_0 (svec_0 1000 (contour_s3 a L) L) (range_0 (IntKind.i64.wrap (contour_s1 a L + 1)) (contour_s2 a L) (next_1 (next_1 (next_1 (contour_s3 a L) L) L) L) L))
   (addpt_0 (svec_1 1000 (contour_s3 a L) L) (range_0 (IntKind.i64.wrap (0 - contour_s2 a L)) (contour_s2 a L) (next_1 (next_1 (next_1 (next_1 (contour_s3 a L) L) L) L) L) L))
   (addpt_0 (svec_2 1000 (contour_s3 a L) L) 0)
   [(fun x => 2 :: x)
   ((fun x => 0 :: x)
   ((fun x => svec_0 1000 (bif next_0 4 (next_1 (next_1 a L) L) L == 0 then next_1 (next_1 (next_1 (next_1 a L) L) L) L else next_1 (next_1 (next_1 a L) L) L) L :: x)
   ((fun x => svec_1 1000 (bif next_0 4 (next_1 (next_1 a L) L) L == 0 then next_1 (next_1 (next_1 (next_1 a L) L) L) L else next_1 (next_1 (next_1 a L) L) L) L :: x)
   ((fun x => svec_2 1000 (bif next_0 4 (next_1 (next_1 a L) L) L == 0 then next_1 (next_1 (next_1 (next_1 a L) L) L) L else next_1 (next_1 (next_1 a L) L) L) L :: x)
   ((fun x =>
   addpt_0 (svec_0 1000 (bif next_0 4 (next_1 (next_1 a L) L) L == 0 then next_1 (next_1 (next_1 (next_1 a L) L) L) L else next_1 (next_1 (next_1 a L) L) L) L)
   (range_0
   (IntKind.i64.wrap ((bif next_0 4 (next_1 (next_1 a L) L) L == 0 then range_0 100 2000 (next_1 (next_1 (next_1 a L) L) L) L else range_0 0 40 (next_1 a L) L) + 1))
   (IntKind.i64.wrap
   (200 +
   IntKind.i64.wrap (6 * bif next_0 4 (next_1 (next_1 a L) L) L == 0 then range_0 100 2000 (next_1 (next_1 (next_1 a L) L) L) L else range_0 0 40 (next_1 a L) L)))
   (next_1 (next_1 (next_1 (bif next_0 4 (next_1 (next_1 a L) L) L == 0 then next_1 (next_1 (next_1 (next_1 a L) L) L) L else next_1 (next_1 (next_1 a L) L) L) L) L) L)
   L) ::
   x)
   ((fun x =>
   addpt_0 (svec_1 1000 (bif next_0 4 (next_1 (next_1 a L) L) L == 0 then next_1 (next_1 (next_1 (next_1 a L) L) L) L else next_1 (next_1 (next_1 a L) L) L) L)
   (range_0
   (IntKind.i64.wrap
   (0 -
   IntKind.i64.wrap
   (200 +
   IntKind.i64.wrap
   (6 * bif next_0 4 (next_1 (next_1 a L) L) L == 0 then range_0 100 2000 (next_1 (next_1 (next_1 a L) L) L) L else range_0 0 40 (next_1 a L) L))))
   (IntKind.i64.wrap
   (200 +
   IntKind.i64.wrap (6 * bif next_0 4 (next_1 (next_1 a L) L) L == 0 then range_0 100 2000 (next_1 (next_1 (next_1 a L) L) L) L else range_0 0 40 (next_1 a L) L)))
   (next_1
   (next_1 (next_1 (next_1 (bif next_0 4 (next_1 (next_1 a L) L) L == 0 then next_1 (next_1 (next_1 (next_1 a L) L) L) L else next_1 (next_1 (next_1 a L) L) L) L) L)
   L)
   L)
   L) ::
   x)
   ((fun x =>
   addpt_0 (svec_2 1000 (bif next_0 4 (next_1 (next_1 a L) L) L == 0 then next_1 (next_1 (next_1 (next_1 a L) L) L) L else next_1 (next_1 (next_1 a L) L) L) L) 0 :: x)
   ((fun x => 17 :: x)
   ((fun x => 0 :: x)
   ((fun x => 0 :: x)
   ((fun x => 0 :: x)
   ((fun x => 0 :: x)
   ((fun x => 0 :: x)
   ((fun x => 60000 :: x)
   ((fun x => 0 :: x)
   ((fun x => IntKind.i64.wrap (1 - IntKind.i64.wrap (2 * next_0 2 a L)) :: x)
   ((fun x => (bif next_0 4 (next_1 (next_1 a L) L) L == 0 then range_0 100 2000 (next_1 (next_1 (next_1 a L) L) L) L else range_0 0 40 (next_1 a L) L) :: x)
   ((fun x => 0 :: x) ((fun x => 0 :: x) ((fun x => 0 :: x) ((fun x => 0 :: x) [])))))))))))))))))))))])).a
   L)
   L
noncomputable def contour_s10 (a : Int) (L : List (List Int)) : Bool :=
  next_0 4 (next_1 (next_1 a L) L) L == 0
noncomputable def contour_s11 (a : Int) (L : List (List Int)) : Int :=
  bif contour_s10 a L then next_1 (next_1 (next_1 (next_1 a L) L) L) L else next_1 (next_1 (next_1 a L) L) L
noncomputable def contour_s12 (a : Int) (L : List (List Int)) : Int :=
  bif contour_s10 a L then range_0 100 2000 (next_1 (next_1 (next_1 a L) L) L) L else range_0 0 40 (next_1 a L) L
noncomputable def contour_s13 (a : Int) (L : List (List Int)) : Int :=
  IntKind.i64.wrap (200 + IntKind.i64.wrap (6 * contour_s12 a L))
noncomputable def contour_s14 (a : Int) (L : List (List Int)) : Int :=
  addpt_0 (svec_0 1000 (contour_s11 a L) L) (range_0 (IntKind.i64.wrap (contour_s12 a L + 1)) (contour_s13 a L) (next_1 (next_1 (next_1 (contour_s11 a L) L) L) L) L)
noncomputable def contour_s15 (a : Int) (L : List (List Int)) : Int :=
  addpt_0 (svec_1 1000 (contour_s11 a L) L) (range_0 (IntKind.i64.wrap (0 - contour_s13 a L)) (contour_s13 a L) (next_1 (next_1 (next_1 (next_1 (contour_s11 a L) L) L) L) L) L)
noncomputable def contour_s16 (a : Int) (L : List (List Int)) : List (List Int) :=
  [[2, 0, svec_0 1000 (contour_s11 a L) L, svec_1 1000 (contour_s11 a L) L, svec_2 1000 (contour_s11 a L) L, contour_s14 a L, contour_s15 a L, addpt_0 (svec_2 1000 (contour_s11 a L) L) 0, 17, 0, 0, 0,
   0, 0, 60000, 0, contour_s0 a L, contour_s12 a L, 0, 0, 0, 0]]
noncomputable def contour_s17 (a : Int) (L : List (List Int)) : Int :=
  (CS.mk (range_0 1 6 (next_1 (next_1 (next_1 (next_1 (next_1 (contour_s11 a L) L) L) L) L) L) L).toNat (next_1 (next_1 (next_1 (next_1 (next_1 (next_1 (contour_s11 a L) L) L) L) L) L) L)
   (contour_s14 a L) (contour_s15 a L) (addpt_0 (svec_2 1000 (contour_s11 a L) L) 0) (contour_s16 a L)).a
noncomputable def contour_s18 (a : Int) (L : List (List Int)) : List (List Int) :=
  (CS.mk (range_0 1 6 (next_1 (next_1 (next_1 (next_1 (next_1 (contour_s11 a L) L) L) L) L) L) L).toNat (next_1 (next_1 (next_1 (next_1 (next_1 (next_1 (contour_s11 a L) L) L) L) L) L) L)
   (contour_s14 a L) (contour_s15 a L) (addpt_0 (svec_2 1000 (contour_s11 a L) L) 0) (contour_s16 a L)).R
noncomputable def contour_s19 (a : Int) (L : List (List Int)) : Int :=
  ((conF L (contour_s0 a L) (contour_s12 a L) (contour_s13 a L)).fin
   (CS.mk (range_0 1 6 (next_1 (next_1 (next_1 (next_1 (next_1 (contour_s11 a L) L) L) L) L) L) L).toNat (next_1 (next_1 (next_1 (next_1 (next_1 (next_1 (contour_s11 a L) L) L) L) L) L) L)
   (contour_s14 a L) (contour_s15 a L) (addpt_0 (svec_2 1000 (contour_s11 a L) L) 0) (contour_s16 a L))).a
noncomputable def contour_needs (a : Int) (L : List (List Int)) : List Prop :=
  [0 ≤ a, L.length ≤ 1000000, Int.ofNat 2 ≠ 0, 0 ≤ next_1 a L, L.length ≤ 1000000, Int.ofNat 0 ≤ 40 ∧ -1000000 ≤ 0 ∧ Int.ofNat 40 ≤ 1000000, 0 ≤ next_1 (next_1 a L) L, L.length ≤ 1000000,
   Int.ofNat 4 ≠ 0, contour_s10 a L = true → 0 ≤ next_1 (next_1 (next_1 a L) L) L ∧ L.length ≤ 1000000 ∧ Int.ofNat 100 ≤ 2000 ∧ -1000000 ≤ 100 ∧ Int.ofNat 2000 ≤ 1000000, 0 ≤ contour_s11 a L,
   L.length ≤ 1000000, Int.ofNat 0 ≤ 1000 ∧ Int.ofNat 1000 ≤ 1000000, 0 ≤ next_1 (next_1 (next_1 (contour_s11 a L) L) L) L, L.length ≤ 1000000,
   IntKind.i64.wrap (contour_s12 a L + 1) ≤ contour_s13 a L ∧ -1000000 ≤ IntKind.i64.wrap (contour_s12 a L + 1) ∧ contour_s13 a L ≤ 1000000,
   0 ≤ next_1 (next_1 (next_1 (next_1 (contour_s11 a L) L) L) L) L, L.length ≤ 1000000,
   IntKind.i64.wrap (0 - contour_s13 a L) ≤ contour_s13 a L ∧ -1000000 ≤ IntKind.i64.wrap (0 - contour_s13 a L) ∧ contour_s13 a L ≤ 1000000,
   0 ≤ next_1 (next_1 (next_1 (next_1 (next_1 (contour_s11 a L) L) L) L) L) L, L.length ≤ 1000000, Int.ofNat 1 ≤ 6 ∧ -1000000 ≤ 1 ∧ Int.ofNat 6 ≤ 1000000,
   0 ≤ contour_s17 a L ∧
   L.length ≤ 1000000 ∧
   (0 ≤ contour_s13 a L ∧ contour_s13 a L ≤ 1000000) ∧
   (contour_s18 a L).length +
   (CS.mk (range_0 1 6 (next_1 (next_1 (next_1 (next_1 (next_1 (contour_s11 a L) L) L) L) L) L) L).toNat (next_1 (next_1 (next_1 (next_1 (next_1 (next_1 (contour_s11 a L) L) L) L) L) L) L)
   (contour_s14 a L) (contour_s15 a L) (addpt_0 (svec_2 1000 (contour_s11 a L) L) 0) (contour_s16 a L)).k ≤
   1000,
   Int.ofNat
   (CS.mk (range_0 1 6 (next_1 (next_1 (next_1 (next_1 (next_1 (contour_s11 a L) L) L) L) L) L) L).toNat (next_1 (next_1 (next_1 (next_1 (next_1 (next_1 (contour_s11 a L) L) L) L) L) L) L)
   (contour_s14 a L) (contour_s15 a L) (addpt_0 (svec_2 1000 (contour_s11 a L) L) 0) (contour_s16 a L)).k =
   range_0 1 6 (next_1 (next_1 (next_1 (next_1 (next_1 (contour_s11 a L) L) L) L) L) L) L,
   contour_s17 a L = next_1 (next_1 (next_1 (next_1 (next_1 (next_1 (contour_s11 a L) L) L) L) L) L) L,
   (CS.mk (range_0 1 6 (next_1 (next_1 (next_1 (next_1 (next_1 (contour_s11 a L) L) L) L) L) L) L).toNat (next_1 (next_1 (next_1 (next_1 (next_1 (next_1 (contour_s11 a L) L) L) L) L) L) L)
   (contour_s14 a L) (contour_s15 a L) (addpt_0 (svec_2 1000 (contour_s11 a L) L) 0) (contour_s16 a L)).x =
   contour_s14 a L,
   (CS.mk (range_0 1 6 (next_1 (next_1 (next_1 (next_1 (next_1 (contour_s11 a L) L) L) L) L) L) L).toNat (next_1 (next_1 (next_1 (next_1 (next_1 (next_1 (contour_s11 a L) L) L) L) L) L) L)
   (contour_s14 a L) (contour_s15 a L) (addpt_0 (svec_2 1000 (contour_s11 a L) L) 0) (contour_s16 a L)).y =
   contour_s15 a L,
   (CS.mk (range_0 1 6 (next_1 (next_1 (next_1 (next_1 (next_1 (contour_s11 a L) L) L) L) L) L) L).toNat (next_1 (next_1 (next_1 (next_1 (next_1 (next_1 (contour_s11 a L) L) L) L) L) L) L)
   (contour_s14 a L) (contour_s15 a L) (addpt_0 (svec_2 1000 (contour_s11 a L) L) 0) (contour_s16 a L)).z =
   addpt_0 (svec_2 1000 (contour_s11 a L) L) 0,
   contour_s18 a L = contour_s16 a L, 0 ≤ contour_s19 a L, L.length ≤ 1000000,
   IntKind.i64.wrap (0 - contour_s13 a L) ≤ contour_s13 a L ∧ -1000000 ≤ IntKind.i64.wrap (0 - contour_s13 a L) ∧ contour_s13 a L ≤ 1000000, 0 ≤ next_1 (contour_s19 a L) L, L.length ≤ 1000000,
   IntKind.i64.wrap (contour_s12 a L + 1) ≤ contour_s13 a L ∧ -1000000 ≤ IntKind.i64.wrap (contour_s12 a L + 1) ∧ contour_s13 a L ≤ 1000000,
   (((conF L (contour_s0 a L) (contour_s12 a L) (contour_s13 a L)).fin
   (CS.mk (range_0 1 6 (next_1 (next_1 (next_1 (next_1 (next_1 (contour_s11 a L) L) L) L) L) L) L).toNat (next_1 (next_1 (next_1 (next_1 (next_1 (next_1 (contour_s11 a L) L) L) L) L) L) L)
   (contour_s14 a L) (contour_s15 a L) (addpt_0 (svec_2 1000 (contour_s11 a L) L) 0) (contour_s16 a L))).R.length +
   1) *
   176 ≤
   140737488355328,
   ((conF L (contour_s0 a L) (contour_s12 a L) (contour_s13 a L)).fin
   (CS.mk (range_0 1 6 (next_1 (next_1 (next_1 (next_1 (next_1 (contour_s11 a L) L) L) L) L) L) L).toNat (next_1 (next_1 (next_1 (next_1 (next_1 (next_1 (contour_s11 a L) L) L) L) L) L) L)
   (contour_s14 a L) (contour_s15 a L) (addpt_0 (svec_2 1000 (contour_s11 a L) L) 0) (contour_s16 a L))).R.length +
   1 ≤
   9223372036854775807]
theorem contour_weak {a : Int} {L : List (List Int)} (hW : ∀ q ∈ ([0 ≤ a, L.length ≤ 1000000] : List Prop), q) : ∀ q ∈ (contour_needs a L), q := by
  simp only [List.mem_cons, List.not_mem_nil, or_false, forall_eq_or_imp, forall_eq] at hW
  unfold contour_needs
  simp only [List.forall_mem_cons, List.not_mem_nil, false_implies, implies_true, and_true]
  obtain ⟨h1, h2⟩ := hW
  have nn : ∀ x, 0 ≤ x → 0 ≤ next_1 x L := fun x h => next_1_nn x L h h2
  have n1 := nn _ h1
  have n2 := nn _ n1
  have n3 := nn _ n2
  have r := cRa_rng a L
  have z := cSz_eq a L
  have k0 : (0 : Int) ≤ 40 ∧ (-1000000 : Int) ≤ 0 ∧ (40 : Int) ≤ 1000000 := by decide
  have m0 := cA_nn h1 h2
  have m1 := nn _ m0
  have m2 := nn _ m1
  have m3 := nn _ m2
  have m4 := nn _ m3
  have m5 := nn _ m4
  have m6 := nn _ m5
  have w1 : IntKind.i64.wrap (cRa a L + 1) = cRa a L + 1 := wrI (by omega) (by omega)
  have w2 : IntKind.i64.wrap (0 - cSz a L) = 0 - cSz a L := wrI (by omega) (by omega)
  have p1 : IntKind.i64.wrap (cRa a L + 1) ≤ cSz a L ∧ -1000000 ≤ IntKind.i64.wrap (cRa a L + 1) ∧ cSz a L ≤ 1000000 := by rw [w1]; omega
  have p2 : IntKind.i64.wrap (0 - cSz a L) ≤ cSz a L ∧ -1000000 ≤ IntKind.i64.wrap (0 - cSz a L) ∧ cSz a L ≤ 1000000 := by rw [w2]; omega
  have p3 : 0 ≤ cSz a L ∧ cSz a L ≤ 1000000 := by omega
  have kk := cS_k a L
  have q1 : (cS a L).R.length + (cS a L).k ≤ 1000 := by
    have e : (cS a L).R.length = 1 := rfl
    omega
  have q2 : Int.ofNat (cS a L).k = range_0 1 6 (next_1 (next_1 (next_1 (next_1 (next_1 (cA a L) L) L) L) L) L) L := by
    have h := range_0_rng 1 6 (next_1 (next_1 (next_1 (next_1 (next_1 (cA a L) L) L) L) L) L) L (by omega) (by omega) (by omega)
    exact Int.toNat_of_nonneg (by omega)
  have ta : 0 ≤ (cT a L).a := conN_a h2 _ _ m6
  have tr : (cT a L).R.length ≤ 7 := by
    have := conN_R L (cSd a L) (cRa a L) (cSz a L) (cS a L).k (cS a L)
    have e : (cS a L).R.length = 1 := rfl
    unfold cT; omega
  exact ⟨h1, h2, by decide, n1, h2, k0, n2, h2, by decide, fun _ => ⟨n3, h2, by decide⟩, m0, h2, by decide, m3, h2, p1, m4, h2, p2, m5, h2, by decide, ⟨m6, h2, p3, q1⟩, q2, rfl, trivial, trivial, trivial, rfl, ta, h2, p2, nn _ ta, h2, p1, (show ((cT a L).R.length + 1) * 176 ≤ 140737488355328 ∧ (cT a L).R.length + 1 ≤ 9223372036854775807 by omega)⟩
set_option maxRecDepth 1000000 in
theorem contour_runs (a : Int) (L : List (List Int)) (hNeeds : ∀ pN ∈ (contour_needs a L), pN) : Runs (runF (sums K_svec) L_con 11) (contour_tpl.args [.i a]) (contour_tpl.memo [.i a] [L]) contour_tpl.n (SV.one (SC.wh 1158))
   ([(1158,
   Obj.row false 32 22
   (RowC.lst 1160
   [CK.int IntKind.i64, CK.int IntKind.i64, CK.int IntKind.i64, CK.int IntKind.i64, CK.int IntKind.i64, CK.int IntKind.i64, CK.int IntKind.i64, CK.int IntKind.i64, CK.int IntKind.i64,
   CK.int IntKind.i64, CK.int IntKind.i64, CK.int IntKind.i64, CK.int IntKind.i64, CK.bool, CK.int IntKind.i64, CK.bool, CK.int IntKind.i64, CK.int IntKind.i64, CK.int IntKind.i64,
   CK.int IntKind.i64, CK.int IntKind.i64, CK.bool]
   (contour_0 a L))),
   (0, Obj.blk 62 [(2, SC.wh 1), (1100, SC.int IntKind.i64 (SI.v (contour_1 a L)))]), (1, Obj.row true 3 1 (RowC.lst 4 [CK.int IntKind.i64] L))]) :=
  Runs.of1 (ps := (contour_needs a L)) (by kernel_rfl) hNeeds
noncomputable def contour_out : List Pm → Lss → Option CRes
  | [.i a], [L] => some ⟨SV.one (SC.wh 1158),
    [(1158,
      Obj.row false 32 22
        (RowC.lst 1160
          [CK.int IntKind.i64, CK.int IntKind.i64, CK.int IntKind.i64, CK.int IntKind.i64, CK.int IntKind.i64, CK.int IntKind.i64, CK.int IntKind.i64, CK.int IntKind.i64, CK.int IntKind.i64,
            CK.int IntKind.i64, CK.int IntKind.i64, CK.int IntKind.i64, CK.int IntKind.i64, CK.bool, CK.int IntKind.i64, CK.bool, CK.int IntKind.i64, CK.int IntKind.i64, CK.int IntKind.i64,
            CK.int IntKind.i64, CK.int IntKind.i64, CK.bool]
          ((contL a L)))),
    (0, Obj.blk 62 [(2, SC.wh 1), (1100, SC.int IntKind.i64 (SI.v ((contA a L))))]), (1, Obj.row true 3 1 (RowC.lst 4 [CK.int IntKind.i64] L))],
    [0 ≤ a, L.length ≤ 1000000], [], 1163⟩
  | _, _ => none
theorem contour_turned (a : Int) (L : List (List Int)) (hNeeds : ∀ pN ∈ (contour_needs a L), pN) : Runs (runF (sums K_svec) L_con 11) (contour_tpl.args [.i a]) (contour_tpl.memo [.i a] [L]) contour_tpl.n (SV.one (SC.wh 1158))
    ([(1158,
      Obj.row false 32 22
        (RowC.lst 1160
          [CK.int IntKind.i64, CK.int IntKind.i64, CK.int IntKind.i64, CK.int IntKind.i64, CK.int IntKind.i64, CK.int IntKind.i64, CK.int IntKind.i64, CK.int IntKind.i64, CK.int IntKind.i64,
            CK.int IntKind.i64, CK.int IntKind.i64, CK.int IntKind.i64, CK.int IntKind.i64, CK.bool, CK.int IntKind.i64, CK.bool, CK.int IntKind.i64, CK.int IntKind.i64, CK.int IntKind.i64,
            CK.int IntKind.i64, CK.int IntKind.i64, CK.bool]
          ((contL a L)))),
    (0, Obj.blk 62 [(2, SC.wh 1), (1100, SC.int IntKind.i64 (SI.v ((contA a L))))]), (1, Obj.row true 3 1 (RowC.lst 4 [CK.int IntKind.i64] L))]) :=
  (contour_runs a L hNeeds).to (by first | rfl | (simp only [])) (by first | rfl | (simp only []))
theorem contour_ok : FOk Try.prog 11 (tplS contour_tpl contour_out) := by
  refine tplS_ok (runF_ok known_conL 11) fun ps ls r hr hn _ => ?_
  unfold contour_out at hr
  split at hr
  · cases hr; exact ⟨_, contour_turned _ _ (contour_weak (by exact hn)), fun _ => rfl⟩
  · cases hr
noncomputable def K_contour : List (Nat × Summ) := (11, tplS contour_tpl contour_out) :: K_svec
theorem known_contour : Known Try.prog (sums K_contour) L_con := known_cons known_conL contour_ok
end Go.Proofs.Ytmbfbhimdkjkoaa
namespace Go.Proofs.Ytmbfbhimdkjkoaa
open Go.SX Go.RowKit
structure St where
  l : List GC
  y : List GC
  a0 : Int
  a1 : Int
  tr : Bool
  op : Bool
  cl : Bool
  en : Bool
  mo : Bool
  la0 : Int
  la1 : Int
  la2 : Int
  er : Int
  C : List (List Int)
noncomputable def zeroG : List GC := [.i 0, .i 0, .i 0, .i 0, .i 0, .i 0, .i 0, .i 0, .i 0, .i 0, .i 0, .i 0, .i 0, .b false, .i 0, .b false, .i 0, .i 0, .i 0, .i 0, .i 0, .b false]
/-- A filter that has been given nothing. -/
noncomputable def St0 : St := ⟨zeroG, zeroG, 0, 0, false, false, false, false, false, 0, 0, 0, 0, []⟩
/-- What Push makes of a filter, what it settles, and its error. -/
noncomputable def pushS (x : List GC) (s : St) : St :=
  ⟨[.i (push_2 x s.l s.y s.a0 s.a1 s.tr s.op s.cl s.en s.mo s.la0 s.la1 s.la2 s.er), .i (push_3 x s.l s.y s.a0 s.a1 s.tr s.op s.cl s.en s.mo s.la0 s.la1 s.la2 s.er), .i (push_4 x s.l s.y s.a0 s.a1 s.tr s.op s.cl s.en s.mo s.la0 s.la1 s.la2 s.er), .i (push_5 x s.l s.y s.a0 s.a1 s.tr s.op s.cl s.en s.mo s.la0 s.la1 s.la2 s.er), .i (push_6 x s.l s.y s.a0 s.a1 s.tr s.op s.cl s.en s.mo s.la0 s.la1 s.la2 s.er), .i (push_7 x s.l s.y s.a0 s.a1 s.tr s.op s.cl s.en s.mo s.la0 s.la1 s.la2 s.er), .i (push_8 x s.l s.y s.a0 s.a1 s.tr s.op s.cl s.en s.mo s.la0 s.la1 s.la2 s.er), .i (push_9 x s.l s.y s.a0 s.a1 s.tr s.op s.cl s.en s.mo s.la0 s.la1 s.la2 s.er), .i (push_10 x s.l s.y s.a0 s.a1 s.tr s.op s.cl s.en s.mo s.la0 s.la1 s.la2 s.er), .i (push_11 x s.l s.y s.a0 s.a1 s.tr s.op s.cl s.en s.mo s.la0 s.la1 s.la2 s.er), .i (push_12 x s.l s.y s.a0 s.a1 s.tr s.op s.cl s.en s.mo s.la0 s.la1 s.la2 s.er), .i (push_13 x s.l s.y s.a0 s.a1 s.tr s.op s.cl s.en s.mo s.la0 s.la1 s.la2 s.er), .i (push_14 x s.l s.y s.a0 s.a1 s.tr s.op s.cl s.en s.mo s.la0 s.la1 s.la2 s.er), .b (push_15 x s.l s.y s.a0 s.a1 s.tr s.op s.cl s.en s.mo s.la0 s.la1 s.la2 s.er), .i (push_16 x s.l s.y s.a0 s.a1 s.tr s.op s.cl s.en s.mo s.la0 s.la1 s.la2 s.er), .b (push_17 x s.l s.y s.a0 s.a1 s.tr s.op s.cl s.en s.mo s.la0 s.la1 s.la2 s.er), .i (push_18 x s.l s.y s.a0 s.a1 s.tr s.op s.cl s.en s.mo s.la0 s.la1 s.la2 s.er), .i (push_19 x s.l s.y s.a0 s.a1 s.tr s.op s.cl s.en s.mo s.la0 s.la1 s.la2 s.er), .i (push_20 x s.l s.y s.a0 s.a1 s.tr s.op s.cl s.en s.mo s.la0 s.la1 s.la2 s.er), .i (push_21 x s.l s.y s.a0 s.a1 s.tr s.op s.cl s.en s.mo s.la0 s.la1 s.la2 s.er), .i (push_22 x s.l s.y s.a0 s.a1 s.tr s.op s.cl s.en s.mo s.la0 s.la1 s.la2 s.er), .b (push_23 x s.l s.y s.a0 s.a1 s.tr s.op s.cl s.en s.mo s.la0 s.la1 s.la2 s.er)],
   [.i (push_24 x s.l s.y s.a0 s.a1 s.tr s.op s.cl s.en s.mo s.la0 s.la1 s.la2 s.er), .i (push_25 x s.l s.y s.a0 s.a1 s.tr s.op s.cl s.en s.mo s.la0 s.la1 s.la2 s.er), .i (push_26 x s.l s.y s.a0 s.a1 s.tr s.op s.cl s.en s.mo s.la0 s.la1 s.la2 s.er), .i (push_27 x s.l s.y s.a0 s.a1 s.tr s.op s.cl s.en s.mo s.la0 s.la1 s.la2 s.er), .i (push_28 x s.l s.y s.a0 s.a1 s.tr s.op s.cl s.en s.mo s.la0 s.la1 s.la2 s.er), .i (push_29 x s.l s.y s.a0 s.a1 s.tr s.op s.cl s.en s.mo s.la0 s.la1 s.la2 s.er), .i (push_30 x s.l s.y s.a0 s.a1 s.tr s.op s.cl s.en s.mo s.la0 s.la1 s.la2 s.er), .i (push_31 x s.l s.y s.a0 s.a1 s.tr s.op s.cl s.en s.mo s.la0 s.la1 s.la2 s.er), .i (push_32 x s.l s.y s.a0 s.a1 s.tr s.op s.cl s.en s.mo s.la0 s.la1 s.la2 s.er), .i (push_33 x s.l s.y s.a0 s.a1 s.tr s.op s.cl s.en s.mo s.la0 s.la1 s.la2 s.er), .i (push_34 x s.l s.y s.a0 s.a1 s.tr s.op s.cl s.en s.mo s.la0 s.la1 s.la2 s.er), .i (push_35 x s.l s.y s.a0 s.a1 s.tr s.op s.cl s.en s.mo s.la0 s.la1 s.la2 s.er), .i (push_36 x s.l s.y s.a0 s.a1 s.tr s.op s.cl s.en s.mo s.la0 s.la1 s.la2 s.er), .b (push_37 x s.l s.y s.a0 s.a1 s.tr s.op s.cl s.en s.mo s.la0 s.la1 s.la2 s.er), .i (push_38 x s.l s.y s.a0 s.a1 s.tr s.op s.cl s.en s.mo s.la0 s.la1 s.la2 s.er), .b (push_39 x s.l s.y s.a0 s.a1 s.tr s.op s.cl s.en s.mo s.la0 s.la1 s.la2 s.er), .i (push_40 x s.l s.y s.a0 s.a1 s.tr s.op s.cl s.en s.mo s.la0 s.la1 s.la2 s.er), .i (push_41 x s.l s.y s.a0 s.a1 s.tr s.op s.cl s.en s.mo s.la0 s.la1 s.la2 s.er), .i (push_42 x s.l s.y s.a0 s.a1 s.tr s.op s.cl s.en s.mo s.la0 s.la1 s.la2 s.er), .i (push_43 x s.l s.y s.a0 s.a1 s.tr s.op s.cl s.en s.mo s.la0 s.la1 s.la2 s.er), .i (push_44 x s.l s.y s.a0 s.a1 s.tr s.op s.cl s.en s.mo s.la0 s.la1 s.la2 s.er), .b (push_45 x s.l s.y s.a0 s.a1 s.tr s.op s.cl s.en s.mo s.la0 s.la1 s.la2 s.er)],
   push_46 x s.l s.y s.a0 s.a1 s.tr s.op s.cl s.en s.mo s.la0 s.la1 s.la2 s.er, push_47 x s.l s.y s.a0 s.a1 s.tr s.op s.cl s.en s.mo s.la0 s.la1 s.la2 s.er, push_48 x s.l s.y s.a0 s.a1 s.tr s.op s.cl s.en s.mo s.la0 s.la1 s.la2 s.er, push_49 x s.l s.y s.a0 s.a1 s.tr s.op s.cl s.en s.mo s.la0 s.la1 s.la2 s.er, s.cl, push_50 x s.cl s.en s.mo s.la0 s.la1 s.la2 s.er, push_51 x s.cl s.en s.mo s.la0 s.la1 s.la2 s.er, push_52 x s.cl s.en s.mo s.la0 s.la1 s.la2 s.er, push_53 x s.cl s.en s.mo s.la0 s.la1 s.la2 s.er, push_54 x s.cl s.en s.mo s.la0 s.la1 s.la2 s.er, push_55 x s.l s.y s.a0 s.a1 s.tr s.op s.cl s.en s.mo s.la0 s.la1 s.la2 s.er s.C, push_56 x s.l s.y s.a0 s.a1 s.tr s.op s.cl s.en s.mo s.la0 s.la1 s.la2 s.er s.C⟩
noncomputable def pushO (x : List GC) (s : St) : List (List Int) := push_1 x s.l s.y s.a0 s.a1 s.tr s.op s.cl s.en s.mo s.la0 s.la1 s.la2 s.er s.C []
noncomputable def pushE (x : List GC) (s : St) : Int := push_0 x s.l s.y s.a0 s.a1 s.tr s.op s.cl s.en s.mo s.la0 s.la1 s.la2 s.er s.C
noncomputable def stCells (g : Nat → Nat) (s : St) (c o : Nat) : List (Nat × SC) := fcells g s.l s.y s.a0 s.a1 s.tr c s.op s.cl s.en s.mo s.la0 s.la1 s.la2 o s.er
noncomputable def stN (X : List (List Int)) (s : St) : Nat → St
  | 0 => s
  | i + 1 => pushS (ofRow (X.getD i [])) (stN X s i)
noncomputable def outN (X : List (List Int)) (s : St) : Nat → List (List Int)
  | 0 => []
  | i + 1 => outN X s i ++ pushO (ofRow (X.getD i [])) (stN X s i)
noncomputable def badN (X : List (List Int)) (s : St) : Nat → Bool
  | 0 => false
  | i + 1 => bif badN X s i then true else pushE (ofRow (X.getD i [])) (stN X s i) != 0
theorem begin_49_len (x : List GC) (C : List (List Int)) : (begin_49 x C).length ≤ C.length := by
  unfold begin_49
  repeat' first | exact Nat.le_refl _ | exact Nat.zero_le _ | refine ite_le ?_ ?_
theorem finish_50_len (x l y : List GC) (a0 a1 : Int) (tr : Bool) (C : List (List Int)) : (finish_50 x l y a0 a1 tr C).length ≤ C.length := by
  unfold finish_50
  repeat' first | exact Nat.le_refl _ | exact Nat.zero_le _ | refine ite_le ?_ ?_
theorem chA {C O : List (List Int)} {r : List Int} : (O ++ [r]).length ≤ O.length + C.length + 3 := by simp only [List.length_append, List.length_cons, List.length_nil]; omega
theorem take_54_len (x l y : List GC) (a0 a1 : Int) (tr op cl en mo : Bool) (la0 la1 la2 : Int) (C O : List (List Int)) : (take_54 x l y a0 a1 tr op cl en mo la0 la1 la2 C O).length ≤ O.length + C.length + 3 := by
  unfold take_54
  repeat' first | exact chO | exact chA | exact finish_49_len .. | exact inner_48_len .. | refine ite_le ?_ ?_
theorem take_55_len (x l y : List GC) (a0 a1 : Int) (tr op cl en mo : Bool) (la0 la1 la2 : Int) (C : List (List Int)) (h : C.length ≤ 8) : (take_55 x l y a0 a1 tr op cl en mo la0 la1 la2 C).length ≤ 8 := by
  unfold take_55
  repeat' first | exact h | exact Nat.le_trans (begin_49_len ..) h | exact Nat.le_trans (finish_50_len ..) h | exact inner_49_len _ _ _ _ _ _ _ h | refine ite_le ?_ ?_
theorem settled_45_len (er : Int) (O : List (List Int)) : (settled_45 er O).length ≤ O.length := by
  unfold settled_45
  exact ite_le (Nat.zero_le _) (Nat.le_refl _)
theorem pushS_C (x : List GC) (s : St) (h : s.C.length ≤ 8) : (pushS x s).C.length ≤ 8 := by
  show (push_56 ..).length ≤ 8
  unfold push_56
  exact ite_le (take_55_len _ _ _ _ _ _ _ _ _ _ _ _ _ _ h) h
theorem pushO_len (x : List GC) (s : St) (h : s.C.length ≤ 8) : (pushO x s).length ≤ 11 := by
  unfold pushO push_1
  refine ite_le (Nat.le_trans (settled_45_len ..) (Nat.le_trans (take_54_len ..) ?_)) (Nat.le_trans (settled_45_len ..) (Nat.zero_le _))
  simp only [List.length_nil]; omega
end Go.Proofs.Ytmbfbhimdkjkoaa
namespace Go.Proofs.Ytmbfbhimdkjkoaa
open Go.SX Go.RowKit
structure AS where
  i : Nat
  s : St
  R : List (List Int)
structure AT where
  bad : Bool
  i : Nat
  e : Int
  s : St
  R : List (List Int)
/-- Item after item, up to the first error. -/
noncomputable def apN (L : List (List Int)) : Nat → AS → AT
  | 0, a => ⟨false, a.i, 0, a.s, a.R⟩
  | k + 1, a => bif pushE (ofRow (L.getD a.i [])) a.s != 0 then ⟨true, a.i, pushE (ofRow (L.getD a.i [])) a.s, pushS (ofRow (L.getD a.i [])) a.s, a.R⟩
    else apN L k ⟨a.i + 1, pushS (ofRow (L.getD a.i [])) a.s, a.R ++ pushO (ofRow (L.getD a.i [])) a.s⟩
noncomputable def apG (k : Nat) : Nat := 1000000100 + k
noncomputable def apH (k : Nat) : Nat := 180 + k
noncomputable def apF (L : List (List Int)) : Fam AS AT where
  k := 200
  E a := [(16, ent 1000000000 (.one (I (Int.ofNat a.i)))), (15, ent 77 (.one (I (Int.ofNat L.length)))), (14, ent 76 (.one (.wh 0))), (6, ent 1000000001 (.one (.wh 160))), (5, ent 74 (.one (.ptr 7 0))), (0, ent 0 (.one (.wh 0)))]
  M a := [(7, .blk 66 (stCells apG a.s 170 171)), rowI 170 1000000200 a.s.C, rowI 171 1000000201 [], rowI 0 1 L, rowI 160 1000000202 a.R]
  out t := .ite t.bad (.leaf .ret [(2, ent 80 (.one .nilsl)), (3, ent 81 (.one (I (Int.ofNat t.i)))), (4, ent 82 (.one (I t.e)))] [rowI 0 1 L])
    (.leaf (.exit 0) [(6, ent 83 (.one (.wh 160))), (5, ent 74 (.one (.ptr 7 0))), (0, ent 0 (.one (.wh 0)))] [(7, .blk 66 (stCells apH t.s 170 171)), rowI 170 240 t.s.C, rowI 171 241 [], rowI 0 1 L, rowI 160 242 t.R])
  fin a := apN L (L.length - a.i) a
  next a _ := ⟨a.i + 1, pushS (ofRow (L.getD a.i [])) a.s, a.R ++ pushO (ofRow (L.getD a.i [])) a.s⟩
  J a := a.i ≤ L.length ∧ L.length ≤ 1000 ∧ a.s.C.length ≤ 8 ∧ a.R.length ≤ 11 * a.i
  μ a := L.length - a.i
noncomputable def ap_s0 (L : List (List Int)) (a : AS) : Prop := decide (Int.ofNat a.i < Int.ofNat L.length) = true
noncomputable def ap_s1 (L : List (List Int)) (a : AS) : Int := push_0 (ofRow (L.getD (Int.ofNat a.i).toNat [])) (nrm a.s.l) (nrm a.s.y) a.s.a0 a.s.a1 a.s.tr a.s.op a.s.cl a.s.en a.s.mo a.s.la0 a.s.la1 a.s.la2 a.s.er a.s.C
noncomputable def ap_s2 (L : List (List Int)) (a : AS) : List (List Int) := push_1 (ofRow (L.getD (Int.ofNat a.i).toNat [])) (nrm a.s.l) (nrm a.s.y) a.s.a0 a.s.a1 a.s.tr a.s.op a.s.cl a.s.en a.s.mo a.s.la0 a.s.la1 a.s.la2 a.s.er a.s.C []
noncomputable def ap_needs (L : List (List Int)) (a : AS) : List Prop := [ap_s0 L a → 0 ≤ Int.ofNat a.i ∧ (Int.ofNat a.i).toNat < L.length ∧ (Int.ofNat a.i).toNat < L.length ∧ a.s.C.length ≤ 1000 ∧ 0 ≤ 800000 ∧ ((ap_s1 L a != 0) = false → (a.R.length + (ap_s2 L
   a).length) * 176 ≤ 140737488355328 ∧ a.R.length + (ap_s2 L a).length ≤ 9223372036854775807), ap_s0 L a → ((ap_s1 L a != 0) = true → (((apF L).fin a).bad = true → Int.ofNat ((apF L).fin a).i =
   Int.ofNat a.i ∧ ((apF L).fin a).e = ap_s1 L a) ∧ (((apF L).fin a).bad = false → False)) ∧ ((ap_s1 L a != 0) = false → (((apF L).next a 1).i ≤ L.length ∧ L.length ≤ 1000 ∧ ((apF L).next a
   1).s.C.length ≤ 8 ∧ ((apF L).next a 1).R.length ≤ 11 * ((apF L).next a 1).i) ∧ (apF L).μ ((apF L).next a 1) < (apF L).μ a ∧ (apF L).fin ((apF L).next a 1) = (apF L).fin a ∧ Int.ofNat ((apF L).next a
   1).i = IntKind.i64.wrap (Int.ofNat a.i + 1) ∧ xi ((apF L).next a 1).s.l 0 = push_2 (ofRow (L.getD (Int.ofNat a.i).toNat [])) (nrm a.s.l) (nrm a.s.y) a.s.a0 a.s.a1 a.s.tr a.s.op a.s.cl a.s.en a.s.mo
   a.s.la0 a.s.la1 a.s.la2 a.s.er ∧ xi ((apF L).next a 1).s.l 1 = push_3 (ofRow (L.getD (Int.ofNat a.i).toNat [])) (nrm a.s.l) (nrm a.s.y) a.s.a0 a.s.a1 a.s.tr a.s.op a.s.cl a.s.en a.s.mo a.s.la0
   a.s.la1 a.s.la2 a.s.er ∧ xi ((apF L).next a 1).s.l 2 = push_4 (ofRow (L.getD (Int.ofNat a.i).toNat [])) (nrm a.s.l) (nrm a.s.y) a.s.a0 a.s.a1 a.s.tr a.s.op a.s.cl a.s.en a.s.mo a.s.la0 a.s.la1
   a.s.la2 a.s.er ∧ xi ((apF L).next a 1).s.l 3 = push_5 (ofRow (L.getD (Int.ofNat a.i).toNat [])) (nrm a.s.l) (nrm a.s.y) a.s.a0 a.s.a1 a.s.tr a.s.op a.s.cl a.s.en a.s.mo a.s.la0 a.s.la1 a.s.la2 a.s.er
   ∧ xi ((apF L).next a 1).s.l 4 = push_6 (ofRow (L.getD (Int.ofNat a.i).toNat [])) (nrm a.s.l) (nrm a.s.y) a.s.a0 a.s.a1 a.s.tr a.s.op a.s.cl a.s.en a.s.mo a.s.la0 a.s.la1 a.s.la2 a.s.er ∧ xi ((apF
   L).next a 1).s.l 5 = push_7 (ofRow (L.getD (Int.ofNat a.i).toNat [])) (nrm a.s.l) (nrm a.s.y) a.s.a0 a.s.a1 a.s.tr a.s.op a.s.cl a.s.en a.s.mo a.s.la0 a.s.la1 a.s.la2 a.s.er ∧ xi ((apF L).next a
   1).s.l 6 = push_8 (ofRow (L.getD (Int.ofNat a.i).toNat [])) (nrm a.s.l) (nrm a.s.y) a.s.a0 a.s.a1 a.s.tr a.s.op a.s.cl a.s.en a.s.mo a.s.la0 a.s.la1 a.s.la2 a.s.er ∧ xi ((apF L).next a 1).s.l 7 =
   push_9 (ofRow (L.getD (Int.ofNat a.i).toNat [])) (nrm a.s.l) (nrm a.s.y) a.s.a0 a.s.a1 a.s.tr a.s.op a.s.cl a.s.en a.s.mo a.s.la0 a.s.la1 a.s.la2 a.s.er ∧ xi ((apF L).next a 1).s.l 8 = push_10 (ofRow
   (L.getD (Int.ofNat a.i).toNat [])) (nrm a.s.l) (nrm a.s.y) a.s.a0 a.s.a1 a.s.tr a.s.op a.s.cl a.s.en a.s.mo a.s.la0 a.s.la1 a.s.la2 a.s.er ∧ xi ((apF L).next a 1).s.l 9 = push_11 (ofRow (L.getD
   (Int.ofNat a.i).toNat [])) (nrm a.s.l) (nrm a.s.y) a.s.a0 a.s.a1 a.s.tr a.s.op a.s.cl a.s.en a.s.mo a.s.la0 a.s.la1 a.s.la2 a.s.er ∧ xi ((apF L).next a 1).s.l 10 = push_12 (ofRow (L.getD (Int.ofNat
   a.i).toNat [])) (nrm a.s.l) (nrm a.s.y) a.s.a0 a.s.a1 a.s.tr a.s.op a.s.cl a.s.en a.s.mo a.s.la0 a.s.la1 a.s.la2 a.s.er ∧ xi ((apF L).next a 1).s.l 11 = push_13 (ofRow (L.getD (Int.ofNat a.i).toNat
   [])) (nrm a.s.l) (nrm a.s.y) a.s.a0 a.s.a1 a.s.tr a.s.op a.s.cl a.s.en a.s.mo a.s.la0 a.s.la1 a.s.la2 a.s.er ∧ xi ((apF L).next a 1).s.l 12 = push_14 (ofRow (L.getD (Int.ofNat a.i).toNat [])) (nrm
   a.s.l) (nrm a.s.y) a.s.a0 a.s.a1 a.s.tr a.s.op a.s.cl a.s.en a.s.mo a.s.la0 a.s.la1 a.s.la2 a.s.er ∧ xb ((apF L).next a 1).s.l 13 = push_15 (ofRow (L.getD (Int.ofNat a.i).toNat [])) (nrm a.s.l) (nrm
   a.s.y) a.s.a0 a.s.a1 a.s.tr a.s.op a.s.cl a.s.en a.s.mo a.s.la0 a.s.la1 a.s.la2 a.s.er ∧ xi ((apF L).next a 1).s.l 14 = push_16 (ofRow (L.getD (Int.ofNat a.i).toNat [])) (nrm a.s.l) (nrm a.s.y)
   a.s.a0 a.s.a1 a.s.tr a.s.op a.s.cl a.s.en a.s.mo a.s.la0 a.s.la1 a.s.la2 a.s.er ∧ xb ((apF L).next a 1).s.l 15 = push_17 (ofRow (L.getD (Int.ofNat a.i).toNat [])) (nrm a.s.l) (nrm a.s.y) a.s.a0
   a.s.a1 a.s.tr a.s.op a.s.cl a.s.en a.s.mo a.s.la0 a.s.la1 a.s.la2 a.s.er ∧ xi ((apF L).next a 1).s.l 16 = push_18 (ofRow (L.getD (Int.ofNat a.i).toNat [])) (nrm a.s.l) (nrm a.s.y) a.s.a0 a.s.a1
   a.s.tr a.s.op a.s.cl a.s.en a.s.mo a.s.la0 a.s.la1 a.s.la2 a.s.er ∧ xi ((apF L).next a 1).s.l 17 = push_19 (ofRow (L.getD (Int.ofNat a.i).toNat [])) (nrm a.s.l) (nrm a.s.y) a.s.a0 a.s.a1 a.s.tr
   a.s.op a.s.cl a.s.en a.s.mo a.s.la0 a.s.la1 a.s.la2 a.s.er ∧ xi ((apF L).next a 1).s.l 18 = push_20 (ofRow (L.getD (Int.ofNat a.i).toNat [])) (nrm a.s.l) (nrm a.s.y) a.s.a0 a.s.a1 a.s.tr a.s.op
   a.s.cl a.s.en a.s.mo a.s.la0 a.s.la1 a.s.la2 a.s.er ∧ xi ((apF L).next a 1).s.l 19 = push_21 (ofRow (L.getD (Int.ofNat a.i).toNat [])) (nrm a.s.l) (nrm a.s.y) a.s.a0 a.s.a1 a.s.tr a.s.op a.s.cl
   a.s.en a.s.mo a.s.la0 a.s.la1 a.s.la2 a.s.er ∧ xi ((apF L).next a 1).s.l 20 = push_22 (ofRow (L.getD (Int.ofNat a.i).toNat [])) (nrm a.s.l) (nrm a.s.y) a.s.a0 a.s.a1 a.s.tr a.s.op a.s.cl a.s.en
   a.s.mo a.s.la0 a.s.la1 a.s.la2 a.s.er ∧ xb ((apF L).next a 1).s.l 21 = push_23 (ofRow (L.getD (Int.ofNat a.i).toNat [])) (nrm a.s.l) (nrm a.s.y) a.s.a0 a.s.a1 a.s.tr a.s.op a.s.cl a.s.en a.s.mo
   a.s.la0 a.s.la1 a.s.la2 a.s.er ∧ xi ((apF L).next a 1).s.y 0 = push_24 (ofRow (L.getD (Int.ofNat a.i).toNat [])) (nrm a.s.l) (nrm a.s.y) a.s.a0 a.s.a1 a.s.tr a.s.op a.s.cl a.s.en a.s.mo a.s.la0
   a.s.la1 a.s.la2 a.s.er ∧ xi ((apF L).next a 1).s.y 1 = push_25 (ofRow (L.getD (Int.ofNat a.i).toNat [])) (nrm a.s.l) (nrm a.s.y) a.s.a0 a.s.a1 a.s.tr a.s.op a.s.cl a.s.en a.s.mo a.s.la0 a.s.la1
   a.s.la2 a.s.er ∧ xi ((apF L).next a 1).s.y 2 = push_26 (ofRow (L.getD (Int.ofNat a.i).toNat [])) (nrm a.s.l) (nrm a.s.y) a.s.a0 a.s.a1 a.s.tr a.s.op a.s.cl a.s.en a.s.mo a.s.la0 a.s.la1 a.s.la2
   a.s.er ∧ xi ((apF L).next a 1).s.y 3 = push_27 (ofRow (L.getD (Int.ofNat a.i).toNat [])) (nrm a.s.l) (nrm a.s.y) a.s.a0 a.s.a1 a.s.tr a.s.op a.s.cl a.s.en a.s.mo a.s.la0 a.s.la1 a.s.la2 a.s.er ∧ xi
   ((apF L).next a 1).s.y 4 = push_28 (ofRow (L.getD (Int.ofNat a.i).toNat [])) (nrm a.s.l) (nrm a.s.y) a.s.a0 a.s.a1 a.s.tr a.s.op a.s.cl a.s.en a.s.mo a.s.la0 a.s.la1 a.s.la2 a.s.er ∧ xi ((apF L).next
   a 1).s.y 5 = push_29 (ofRow (L.getD (Int.ofNat a.i).toNat [])) (nrm a.s.l) (nrm a.s.y) a.s.a0 a.s.a1 a.s.tr a.s.op a.s.cl a.s.en a.s.mo a.s.la0 a.s.la1 a.s.la2 a.s.er ∧ xi ((apF L).next a 1).s.y 6 =
   push_30 (ofRow (L.getD (Int.ofNat a.i).toNat [])) (nrm a.s.l) (nrm a.s.y) a.s.a0 a.s.a1 a.s.tr a.s.op a.s.cl a.s.en a.s.mo a.s.la0 a.s.la1 a.s.la2 a.s.er ∧ xi ((apF L).next a 1).s.y 7 = push_31
   (ofRow (L.getD (Int.ofNat a.i).toNat [])) (nrm a.s.l) (nrm a.s.y) a.s.a0 a.s.a1 a.s.tr a.s.op a.s.cl a.s.en a.s.mo a.s.la0 a.s.la1 a.s.la2 a.s.er ∧ xi ((apF L).next a 1).s.y 8 = push_32 (ofRow
   (L.getD (Int.ofNat a.i).toNat [])) (nrm a.s.l) (nrm a.s.y) a.s.a0 a.s.a1 a.s.tr a.s.op a.s.cl a.s.en a.s.mo a.s.la0 a.s.la1 a.s.la2 a.s.er ∧ xi ((apF L).next a 1).s.y 9 = push_33 (ofRow (L.getD
   (Int.ofNat a.i).toNat [])) (nrm a.s.l) (nrm a.s.y) a.s.a0 a.s.a1 a.s.tr a.s.op a.s.cl a.s.en a.s.mo a.s.la0 a.s.la1 a.s.la2 a.s.er ∧ xi ((apF L).next a 1).s.y 10 = push_34 (ofRow (L.getD (Int.ofNat
   a.i).toNat [])) (nrm a.s.l) (nrm a.s.y) a.s.a0 a.s.a1 a.s.tr a.s.op a.s.cl a.s.en a.s.mo a.s.la0 a.s.la1 a.s.la2 a.s.er ∧ xi ((apF L).next a 1).s.y 11 = push_35 (ofRow (L.getD (Int.ofNat a.i).toNat
   [])) (nrm a.s.l) (nrm a.s.y) a.s.a0 a.s.a1 a.s.tr a.s.op a.s.cl a.s.en a.s.mo a.s.la0 a.s.la1 a.s.la2 a.s.er ∧ xi ((apF L).next a 1).s.y 12 = push_36 (ofRow (L.getD (Int.ofNat a.i).toNat [])) (nrm
   a.s.l) (nrm a.s.y) a.s.a0 a.s.a1 a.s.tr a.s.op a.s.cl a.s.en a.s.mo a.s.la0 a.s.la1 a.s.la2 a.s.er ∧ xb ((apF L).next a 1).s.y 13 = push_37 (ofRow (L.getD (Int.ofNat a.i).toNat [])) (nrm a.s.l) (nrm
   a.s.y) a.s.a0 a.s.a1 a.s.tr a.s.op a.s.cl a.s.en a.s.mo a.s.la0 a.s.la1 a.s.la2 a.s.er ∧ xi ((apF L).next a 1).s.y 14 = push_38 (ofRow (L.getD (Int.ofNat a.i).toNat [])) (nrm a.s.l) (nrm a.s.y)
   a.s.a0 a.s.a1 a.s.tr a.s.op a.s.cl a.s.en a.s.mo a.s.la0 a.s.la1 a.s.la2 a.s.er ∧ xb ((apF L).next a 1).s.y 15 = push_39 (ofRow (L.getD (Int.ofNat a.i).toNat [])) (nrm a.s.l) (nrm a.s.y) a.s.a0
   a.s.a1 a.s.tr a.s.op a.s.cl a.s.en a.s.mo a.s.la0 a.s.la1 a.s.la2 a.s.er ∧ xi ((apF L).next a 1).s.y 16 = push_40 (ofRow (L.getD (Int.ofNat a.i).toNat [])) (nrm a.s.l) (nrm a.s.y) a.s.a0 a.s.a1
   a.s.tr a.s.op a.s.cl a.s.en a.s.mo a.s.la0 a.s.la1 a.s.la2 a.s.er ∧ xi ((apF L).next a 1).s.y 17 = push_41 (ofRow (L.getD (Int.ofNat a.i).toNat [])) (nrm a.s.l) (nrm a.s.y) a.s.a0 a.s.a1 a.s.tr
   a.s.op a.s.cl a.s.en a.s.mo a.s.la0 a.s.la1 a.s.la2 a.s.er ∧ xi ((apF L).next a 1).s.y 18 = push_42 (ofRow (L.getD (Int.ofNat a.i).toNat [])) (nrm a.s.l) (nrm a.s.y) a.s.a0 a.s.a1 a.s.tr a.s.op
   a.s.cl a.s.en a.s.mo a.s.la0 a.s.la1 a.s.la2 a.s.er ∧ xi ((apF L).next a 1).s.y 19 = push_43 (ofRow (L.getD (Int.ofNat a.i).toNat [])) (nrm a.s.l) (nrm a.s.y) a.s.a0 a.s.a1 a.s.tr a.s.op a.s.cl
   a.s.en a.s.mo a.s.la0 a.s.la1 a.s.la2 a.s.er ∧ xi ((apF L).next a 1).s.y 20 = push_44 (ofRow (L.getD (Int.ofNat a.i).toNat [])) (nrm a.s.l) (nrm a.s.y) a.s.a0 a.s.a1 a.s.tr a.s.op a.s.cl a.s.en
   a.s.mo a.s.la0 a.s.la1 a.s.la2 a.s.er ∧ xb ((apF L).next a 1).s.y 21 = push_45 (ofRow (L.getD (Int.ofNat a.i).toNat [])) (nrm a.s.l) (nrm a.s.y) a.s.a0 a.s.a1 a.s.tr a.s.op a.s.cl a.s.en a.s.mo
   a.s.la0 a.s.la1 a.s.la2 a.s.er ∧ ((apF L).next a 1).s.a0 = push_46 (ofRow (L.getD (Int.ofNat a.i).toNat [])) (nrm a.s.l) (nrm a.s.y) a.s.a0 a.s.a1 a.s.tr a.s.op a.s.cl a.s.en a.s.mo a.s.la0 a.s.la1
   a.s.la2 a.s.er ∧ ((apF L).next a 1).s.a1 = push_47 (ofRow (L.getD (Int.ofNat a.i).toNat [])) (nrm a.s.l) (nrm a.s.y) a.s.a0 a.s.a1 a.s.tr a.s.op a.s.cl a.s.en a.s.mo a.s.la0 a.s.la1 a.s.la2 a.s.er ∧
   ((apF L).next a 1).s.tr = push_48 (ofRow (L.getD (Int.ofNat a.i).toNat [])) (nrm a.s.l) (nrm a.s.y) a.s.a0 a.s.a1 a.s.tr a.s.op a.s.cl a.s.en a.s.mo a.s.la0 a.s.la1 a.s.la2 a.s.er ∧ ((apF L).next a
   1).s.op = push_49 (ofRow (L.getD (Int.ofNat a.i).toNat [])) (nrm a.s.l) (nrm a.s.y) a.s.a0 a.s.a1 a.s.tr a.s.op a.s.cl a.s.en a.s.mo a.s.la0 a.s.la1 a.s.la2 a.s.er ∧ ((apF L).next a 1).s.cl = a.s.cl
   ∧ ((apF L).next a 1).s.en = push_50 (ofRow (L.getD (Int.ofNat a.i).toNat [])) a.s.cl a.s.en a.s.mo a.s.la0 a.s.la1 a.s.la2 a.s.er ∧ ((apF L).next a 1).s.mo = push_51 (ofRow (L.getD (Int.ofNat
   a.i).toNat [])) a.s.cl a.s.en a.s.mo a.s.la0 a.s.la1 a.s.la2 a.s.er ∧ ((apF L).next a 1).s.la0 = push_52 (ofRow (L.getD (Int.ofNat a.i).toNat [])) a.s.cl a.s.en a.s.mo a.s.la0 a.s.la1 a.s.la2 a.s.er
   ∧ ((apF L).next a 1).s.la1 = push_53 (ofRow (L.getD (Int.ofNat a.i).toNat [])) a.s.cl a.s.en a.s.mo a.s.la0 a.s.la1 a.s.la2 a.s.er ∧ ((apF L).next a 1).s.la2 = push_54 (ofRow (L.getD (Int.ofNat
   a.i).toNat [])) a.s.cl a.s.en a.s.mo a.s.la0 a.s.la1 a.s.la2 a.s.er ∧ ((apF L).next a 1).s.er = push_55 (ofRow (L.getD (Int.ofNat a.i).toNat [])) (nrm a.s.l) (nrm a.s.y) a.s.a0 a.s.a1 a.s.tr a.s.op
   a.s.cl a.s.en a.s.mo a.s.la0 a.s.la1 a.s.la2 a.s.er a.s.C ∧ ((apF L).next a 1).s.C = push_56 (ofRow (L.getD (Int.ofNat a.i).toNat [])) (nrm a.s.l) (nrm a.s.y) a.s.a0 a.s.a1 a.s.tr a.s.op a.s.cl
   a.s.en a.s.mo a.s.la0 a.s.la1 a.s.la2 a.s.er a.s.C ∧ ([] : List (List Int)) = [] ∧ ((apF L).next a 1).R = a.R ++ ap_s2 L a), decide (Int.ofNat a.i < Int.ofNat L.length) = false → (((apF L).fin a).bad
   = true → False) ∧ (((apF L).fin a).bad = false → xi ((apF L).fin a).s.l 0 = xi a.s.l 0 ∧ xi ((apF L).fin a).s.l 1 = xi a.s.l 1 ∧ xi ((apF L).fin a).s.l 2 = xi a.s.l 2 ∧ xi ((apF L).fin a).s.l 3 = xi
   a.s.l 3 ∧ xi ((apF L).fin a).s.l 4 = xi a.s.l 4 ∧ xi ((apF L).fin a).s.l 5 = xi a.s.l 5 ∧ xi ((apF L).fin a).s.l 6 = xi a.s.l 6 ∧ xi ((apF L).fin a).s.l 7 = xi a.s.l 7 ∧ xi ((apF L).fin a).s.l 8 = xi
   a.s.l 8 ∧ xi ((apF L).fin a).s.l 9 = xi a.s.l 9 ∧ xi ((apF L).fin a).s.l 10 = xi a.s.l 10 ∧ xi ((apF L).fin a).s.l 11 = xi a.s.l 11 ∧ xi ((apF L).fin a).s.l 12 = xi a.s.l 12 ∧ xb ((apF L).fin a).s.l
   13 = xb a.s.l 13 ∧ xi ((apF L).fin a).s.l 14 = xi a.s.l 14 ∧ xb ((apF L).fin a).s.l 15 = xb a.s.l 15 ∧ xi ((apF L).fin a).s.l 16 = xi a.s.l 16 ∧ xi ((apF L).fin a).s.l 17 = xi a.s.l 17 ∧ xi ((apF
   L).fin a).s.l 18 = xi a.s.l 18 ∧ xi ((apF L).fin a).s.l 19 = xi a.s.l 19 ∧ xi ((apF L).fin a).s.l 20 = xi a.s.l 20 ∧ xb ((apF L).fin a).s.l 21 = xb a.s.l 21 ∧ xi ((apF L).fin a).s.y 0 = xi a.s.y 0 ∧
   xi ((apF L).fin a).s.y 1 = xi a.s.y 1 ∧ xi ((apF L).fin a).s.y 2 = xi a.s.y 2 ∧ xi ((apF L).fin a).s.y 3 = xi a.s.y 3 ∧ xi ((apF L).fin a).s.y 4 = xi a.s.y 4 ∧ xi ((apF L).fin a).s.y 5 = xi a.s.y 5 ∧
   xi ((apF L).fin a).s.y 6 = xi a.s.y 6 ∧ xi ((apF L).fin a).s.y 7 = xi a.s.y 7 ∧ xi ((apF L).fin a).s.y 8 = xi a.s.y 8 ∧ xi ((apF L).fin a).s.y 9 = xi a.s.y 9 ∧ xi ((apF L).fin a).s.y 10 = xi a.s.y 10
   ∧ xi ((apF L).fin a).s.y 11 = xi a.s.y 11 ∧ xi ((apF L).fin a).s.y 12 = xi a.s.y 12 ∧ xb ((apF L).fin a).s.y 13 = xb a.s.y 13 ∧ xi ((apF L).fin a).s.y 14 = xi a.s.y 14 ∧ xb ((apF L).fin a).s.y 15 =
   xb a.s.y 15 ∧ xi ((apF L).fin a).s.y 16 = xi a.s.y 16 ∧ xi ((apF L).fin a).s.y 17 = xi a.s.y 17 ∧ xi ((apF L).fin a).s.y 18 = xi a.s.y 18 ∧ xi ((apF L).fin a).s.y 19 = xi a.s.y 19 ∧ xi ((apF L).fin
   a).s.y 20 = xi a.s.y 20 ∧ xb ((apF L).fin a).s.y 21 = xb a.s.y 21 ∧ ((apF L).fin a).s.a0 = a.s.a0 ∧ ((apF L).fin a).s.a1 = a.s.a1 ∧ ((apF L).fin a).s.tr = a.s.tr ∧ ((apF L).fin a).s.op = a.s.op ∧
   ((apF L).fin a).s.cl = a.s.cl ∧ ((apF L).fin a).s.en = a.s.en ∧ ((apF L).fin a).s.mo = a.s.mo ∧ ((apF L).fin a).s.la0 = a.s.la0 ∧ ((apF L).fin a).s.la1 = a.s.la1 ∧ ((apF L).fin a).s.la2 = a.s.la2 ∧
   ((apF L).fin a).s.er = a.s.er ∧ ((apF L).fin a).s.C = a.s.C ∧ ([] : List (List Int)) = [] ∧ ((apF L).fin a).R = a.R)]
theorem ap_round (L : List (List Int)) (a : AS) (hNeeds : ∀ pN ∈ (ap_needs L a), pN) : RoundOk (roundC (apF L) (bodyOf Try.prog (sums K_contour) L_con 13 0) 79 a) :=
  RoundOk.of (ps := (ap_needs L a)) (by kernel_rfl) (by kernel_rfl) hNeeds
theorem apN_step {L : List (List Int)} {a : AS} (h : a.i < L.length) : apN L (L.length - a.i) a = bif pushE (ofRow (L.getD a.i [])) a.s != 0 then ⟨true, a.i, pushE (ofRow (L.getD a.i [])) a.s, pushS (ofRow (L.getD a.i [])) a.s, a.R⟩
    else apN L (L.length - (a.i + 1)) ⟨a.i + 1, pushS (ofRow (L.getD a.i [])) a.s, a.R ++ pushO (ofRow (L.getD a.i [])) a.s⟩ := by
  have e : L.length - a.i = (L.length - (a.i + 1)) + 1 := by omega
  rw [e]; rfl
theorem ap_rounds (L : List (List Int)) : RoundsOk (apF L) (bodyOf Try.prog (sums K_contour) L_con 13 0) 79 := by
  intro a hJ
  obtain ⟨h1, h2, h3, h4⟩ : a.i ≤ L.length ∧ L.length ≤ 1000 ∧ a.s.C.length ≤ 8 ∧ a.R.length ≤ 11 * a.i := hJ
  have lt : ap_s0 L a → a.i < L.length := by unfold ap_s0; simp
  have ho := pushO_len (ofRow (L.getD a.i [])) a.s h3
  have hc := pushS_C (ofRow (L.getD a.i [])) a.s h3
  have e6 : IntKind.i64.wrap (Int.ofNat a.i + 1) = Int.ofNat (a.i + 1) := wrI (by simp; omega) (by simp; omega)
  refine ap_round L a ?_
  unfold ap_needs
  simp only [List.forall_mem_cons, List.not_mem_nil, false_implies, implies_true, and_true]
  have all {p q : Prop} (h : p) (k : q) : p ∧ q := ⟨h, k⟩
  have e0 (h : a.i < L.length) (hb : (pushE (ofRow (L.getD a.i [])) a.s != 0) = true) : (apF L).fin a = ⟨true, a.i, pushE (ofRow (L.getD a.i [])) a.s, pushS (ofRow (L.getD a.i [])) a.s, a.R⟩ := by
    show apN L (L.length - a.i) a = _
    rw [apN_step h, hb]; rfl
  refine ⟨fun h => ⟨by simp, lt h, lt h, by omega, by omega, fun _ => ?_⟩, fun h => ⟨fun hb => ⟨fun _ => ?_, fun hf => ?_⟩, fun hb => ⟨⟨?_, h2, hc, ?_⟩, ?_, ?_, e6.symm, ?_⟩⟩, fun h => ?_⟩
  · have ho' : (ap_s2 L a).length ≤ 11 := ho
    omega
  · rw [e0 (lt h) hb]; exact ⟨rfl, rfl⟩
  · rw [e0 (lt h) hb] at hf; cases hf
  · have := lt h
    show a.i + 1 ≤ _; omega
  · show (a.R ++ pushO (ofRow (L.getD a.i [])) a.s).length ≤ 11 * (a.i + 1)
    rw [List.length_append]; omega
  · have := lt h
    show L.length - (a.i + 1) < L.length - a.i; omega
  · show apN L (L.length - (a.i + 1)) _ = apN L (L.length - a.i) a
    have hb' : (pushE (ofRow (L.getD a.i [])) a.s != 0) = false := hb
    rw [apN_step (lt h), hb']; rfl
  · repeat' first | refine ⟨by kernel_rfl, ?_⟩ | kernel_rfl | exact trivial | refine ⟨trivial, ?_⟩
  · have hi : a.i = L.length := by simp at h; omega
    have e : (apF L).fin a = ⟨false, a.i, 0, a.s, a.R⟩ := by
      show apN L (L.length - a.i) a = _
      rw [hi, Nat.sub_self]; unfold apN; rw [hi]
    rw [e]
    refine ⟨fun h => (by cases h), fun _ => ?_⟩
    repeat' first | refine ⟨by kernel_rfl, ?_⟩ | kernel_rfl | exact trivial | refine ⟨trivial, ?_⟩
noncomputable def apLp : LoopS := fun env mem m => match SX.look mem 0 with
  | some (.row _ _ _ (.lst _ _ L)) => famS (apF L) 79 (fun _ _ => some ⟨0, St0, []⟩) env mem m
  | _ => none
noncomputable def L_ap : FuncId → Nat → Option LoopS := addL L_con 13 4 apLp
theorem known_apL : Known Try.prog (sums K_contour) L_ap := by
  refine known_addL 0 known_contour (by kernel_rfl) (codeOk_of fun env mem m x h => ?_)
  unfold apLp at h
  have hlen : (loopList Try.prog 13).length = 1 := by kernel_rfl
  split at h
  · exact ⟨_, fam_ok (bodyOf_ok plainN known_contour (by omega)) (ap_rounds _), h⟩
  · cases h
/-- How Apply's loop ends. -/
noncomputable def apT (L : List (List Int)) : AT := (apF L).fin (AS.mk 0 St0 [])
noncomputable def apC (L : List (List Int)) : Int := close_0 (apT L).s.op (apT L).s.cl (apT L).s.er
noncomputable def apI (L : List (List Int)) : Int := bif (apT L).bad then Int.ofNat (apT L).i else bif apC L != 0 then Int.ofNat L.length else Int.ofNat L.length
noncomputable def apE (L : List (List Int)) : Int := bif (apT L).bad then (apT L).e else bif apC L != 0 then apC L else 0
noncomputable def apO (L : List (List Int)) : List (List Int) := bif (apT L).bad then [] else bif apC L != 0 then [] else (apT L).R ++ close_46 (apT L).s.op (apT L).s.cl (apT L).s.er []
theorem apN_R (L : List (List Int)) : ∀ (k : Nat) (a : AS), a.s.C.length ≤ 8 → (apN L k a).R.length ≤ a.R.length + 11 * k ∧ (apN L k a).s.C.length ≤ 8
  | 0, a, h => ⟨Nat.le_refl _, h⟩
  | k + 1, a, h => by
    have ho := pushO_len (ofRow (L.getD a.i [])) a.s h
    have hc := pushS_C (ofRow (L.getD a.i [])) a.s h
    unfold apN
    cases hb : pushE (ofRow (L.getD a.i [])) a.s != 0
    · have := apN_R L k ⟨a.i + 1, pushS (ofRow (L.getD a.i [])) a.s, a.R ++ pushO (ofRow (L.getD a.i [])) a.s⟩ hc
      rw [cond_false]
      simp only [List.length_append] at this
      exact ⟨by omega, this.2⟩
    · exact ⟨by show a.R.length ≤ _; omega, hc⟩
noncomputable def apply_tpl : Tpl := ⟨[.one (.wh 0)], [(0, .row false 32 22 1 [.int .i64, .int .i64, .int .i64, .int .i64, .int .i64, .int .i64, .int .i64, .int .i64, .int .i64, .int .i64, .int .i64, .int .i64, .int .i64, .bool, .int .i64, .bool, .int .i64, .int .i64, .int .i64, .int .i64, .int .i64, .bool])], 2⟩
noncomputable def apply_0 (L : List (List Int)) : Int := bif ((apF L).fin (AS.mk 0 St0 [])).bad then Int.ofNat ((apF L).fin (AS.mk 0 St0 [])).i else bif close_0 ((apF L).fin (AS.mk 0 St0 [])).s.op ((apF L).fin (AS.mk 0 St0 [])).s.cl ((apF L).fin (AS.mk 0
   St0 [])).s.er != 0 then Int.ofNat L.length else Int.ofNat L.length
noncomputable def apply_s0 (L : List (List Int)) : Int := close_0 ((apF L).fin (AS.mk 0 St0 [])).s.op ((apF L).fin (AS.mk 0 St0 [])).s.cl ((apF L).fin (AS.mk 0 St0 [])).s.er
noncomputable def apply_1 (L : List (List Int)) : Int := bif ((apF L).fin (AS.mk 0 St0 [])).bad then ((apF L).fin (AS.mk 0 St0 [])).e else bif apply_s0 L != 0 then apply_s0 L else 0
noncomputable def apply_2 (L : List (List Int)) : List (List Int) := bif ((apF L).fin (AS.mk 0 St0 [])).bad then [] else bif close_0 ((apF L).fin (AS.mk 0 St0 [])).s.op ((apF L).fin (AS.mk 0 St0 [])).s.cl ((apF L).fin (AS.mk 0 St0 [])).s.er != 0 then [] else ((apF
   L).fin (AS.mk 0 St0 [])).R ++ close_46 ((apF L).fin (AS.mk 0 St0 [])).s.op ((apF L).fin (AS.mk 0 St0 [])).s.cl ((apF L).fin (AS.mk 0 St0 [])).s.er []
noncomputable def apply_needs (L : List (List Int)) : List Prop := [0 ≤ L.length ∧ L.length ≤ 1000 ∧ 0 ≤ 8 ∧ 0 ≤ 0, Int.ofNat 0 = 0, Int.ofNat 0 = 0, Int.ofNat 0 = 0, Int.ofNat 0 = 0, Int.ofNat 0 = 0, Int.ofNat 0 = 0, Int.ofNat 0 = 0, Int.ofNat 0 = 0, Int.ofNat 0 =
   0, Int.ofNat 0 = 0, Int.ofNat 0 = 0, Int.ofNat 0 = 0, Int.ofNat 0 = 0, Int.ofNat 0 = 0, false = false, Int.ofNat 0 = 0, false = false, Int.ofNat 0 = 0, Int.ofNat 0 = 0, Int.ofNat 0 = 0, Int.ofNat 0 =
   0, Int.ofNat 0 = 0, false = false, Int.ofNat 0 = 0, Int.ofNat 0 = 0, Int.ofNat 0 = 0, Int.ofNat 0 = 0, Int.ofNat 0 = 0, Int.ofNat 0 = 0, Int.ofNat 0 = 0, Int.ofNat 0 = 0, Int.ofNat 0 = 0, Int.ofNat 0
   = 0, Int.ofNat 0 = 0, Int.ofNat 0 = 0, Int.ofNat 0 = 0, false = false, Int.ofNat 0 = 0, false = false, Int.ofNat 0 = 0, Int.ofNat 0 = 0, Int.ofNat 0 = 0, Int.ofNat 0 = 0, Int.ofNat 0 = 0, false =
   false, Int.ofNat 0 = 0, Int.ofNat 0 = 0, false = false, false = false, false = false, false = false, false = false, Int.ofNat 0 = 0, Int.ofNat 0 = 0, Int.ofNat 0 = 0, Int.ofNat 0 = 0, (AS.mk 0 St0
   []).s.C = [], ([] : List (List Int)) = [], (AS.mk 0 St0 []).R = [], ((apF L).fin (AS.mk 0 St0 [])).bad = false → (close_0 ((apF L).fin (AS.mk 0 St0 [])).s.op ((apF L).fin (AS.mk 0 St0 [])).s.cl ((apF
   L).fin (AS.mk 0 St0 [])).s.er != 0) = false → (((apF L).fin (AS.mk 0 St0 [])).R.length + (close_46 ((apF L).fin (AS.mk 0 St0 [])).s.op ((apF L).fin (AS.mk 0 St0 [])).s.cl ((apF L).fin (AS.mk 0 St0
   [])).s.er []).length) * 176 ≤ 140737488355328 ∧ ((apF L).fin (AS.mk 0 St0 [])).R.length + (close_46 ((apF L).fin (AS.mk 0 St0 [])).s.op ((apF L).fin (AS.mk 0 St0 [])).s.cl ((apF L).fin (AS.mk 0 St0
   [])).s.er []).length ≤ 9223372036854775807]
theorem apply_weak {L : List (List Int)} (hW : ∀ q ∈ ([L.length ≤ 1000] : List Prop), q) : ∀ q ∈ (apply_needs L), q := by
  simp only [List.mem_cons, List.not_mem_nil, or_false, forall_eq_or_imp, forall_eq] at hW
  unfold apply_needs
  simp only [List.forall_mem_cons, List.not_mem_nil, false_implies, implies_true, and_true]
  have hr := (apN_R L (L.length - 0) ⟨0, St0, []⟩ (Nat.zero_le _)).1
  have e : (apF L).fin (AS.mk 0 St0 []) = apN L (L.length - 0) ⟨0, St0, []⟩ := rfl
  have h46 : ∀ op cl er, (close_46 op cl er []).length = 0 := fun op cl er => Nat.le_zero.1 (by unfold close_46; exact settled_45_len ..)
  have hz : (AS.mk 0 St0 []).R.length = 0 := rfl
  refine ⟨⟨Nat.zero_le _, hW, by decide, by decide⟩, ?_⟩
  repeat' first | refine ⟨by kernel_rfl, ?_⟩ | kernel_rfl | exact trivial | (exact fun _ _ => by rw [h46, e]; omega) | refine ⟨rfl, ?_⟩ | refine ⟨trivial, ?_⟩
noncomputable def a1_c0 := [CK.int IntKind.i64, CK.int IntKind.i64, CK.int IntKind.i64, CK.int IntKind.i64, CK.int IntKind.i64, CK.int IntKind.i64, CK.int IntKind.i64, CK.int IntKind.i64, CK.int IntKind.i64, CK.int
   IntKind.i64, CK.int IntKind.i64, CK.int IntKind.i64, CK.int IntKind.i64, CK.bool, CK.int IntKind.i64, CK.bool, CK.int IntKind.i64, CK.int IntKind.i64, CK.int IntKind.i64, CK.int IntKind.i64, CK.int IntKind.i64, CK.bool]
set_option maxRecDepth 1000000 in
theorem apply_runs (L : List (List Int)) (hNeeds : ∀ pN ∈ (apply_needs L), pN) : Runs (runF (sums K_contour) L_ap 13) (apply_tpl.args []) (apply_tpl.memo [] [L]) apply_tpl.n (SV.tup [(false, [SC.wh 499]), (false, [SC.int IntKind.i64 (SI.v (apply_0 L))]), (false, [SC.int IntKind.i64 (SI.v (apply_1 L))])]) ([(499, Obj.row false 32 22 (RowC.lst 498 a1_c0 (apply_2 L))), (0,
   Obj.row false 32 22 (RowC.lst 1 a1_c0 L))]) :=
  Runs.of1 (ps := (apply_needs L)) (by kernel_rfl) hNeeds
noncomputable def apply_out : List Pm → Lss → Option CRes
  | [], [L] => some ⟨SV.tup [(false, [SC.wh 499]), (false, [SC.int IntKind.i64 (SI.v ((apI L)))]), (false, [SC.int IntKind.i64 (SI.v ((apE L)))])], [(499, Obj.row false 32 22 (RowC.lst 498 a1_c0 ((apO L)))), (0,
   Obj.row false 32 22 (RowC.lst 1 a1_c0 L))], [L.length ≤ 1000], [], 500⟩
  | _, _ => none
theorem apply_turned (L : List (List Int)) (hNeeds : ∀ pN ∈ (apply_needs L), pN) : Runs (runF (sums K_contour) L_ap 13) (apply_tpl.args []) (apply_tpl.memo [] [L]) apply_tpl.n (SV.tup [(false, [SC.wh 499]), (false, [SC.int IntKind.i64 (SI.v ((apI L)))]), (false, [SC.int IntKind.i64 (SI.v ((apE L)))])])
    ([(499,
      Obj.row false 32 22
        (RowC.lst 498
          [CK.int IntKind.i64, CK.int IntKind.i64, CK.int IntKind.i64, CK.int IntKind.i64, CK.int IntKind.i64, CK.int IntKind.i64, CK.int IntKind.i64, CK.int IntKind.i64, CK.int IntKind.i64,
            CK.int IntKind.i64, CK.int IntKind.i64, CK.int IntKind.i64, CK.int IntKind.i64, CK.bool, CK.int IntKind.i64, CK.bool, CK.int IntKind.i64, CK.int IntKind.i64, CK.int IntKind.i64,
            CK.int IntKind.i64, CK.int IntKind.i64, CK.bool]
          ((apO L)))),
    (0,
      Obj.row false 32 22
        (RowC.lst 1
          [CK.int IntKind.i64, CK.int IntKind.i64, CK.int IntKind.i64, CK.int IntKind.i64, CK.int IntKind.i64, CK.int IntKind.i64, CK.int IntKind.i64, CK.int IntKind.i64, CK.int IntKind.i64,
            CK.int IntKind.i64, CK.int IntKind.i64, CK.int IntKind.i64, CK.int IntKind.i64, CK.bool, CK.int IntKind.i64, CK.bool, CK.int IntKind.i64, CK.int IntKind.i64, CK.int IntKind.i64,
            CK.int IntKind.i64, CK.int IntKind.i64, CK.bool]
          L))]) :=
  (apply_runs L hNeeds).to (by first | rfl | (simp only [])) (by first | rfl | (simp only []))
theorem apply_ok : FOk Try.prog 13 (tplS apply_tpl apply_out) := by
  refine tplS_ok (runF_ok known_apL 13) fun ps ls r hr hn _ => ?_
  unfold apply_out at hr
  split at hr
  · cases hr; exact ⟨_, apply_turned _ (apply_weak (by exact hn)), fun _ => rfl⟩
  · cases hr
noncomputable def K_apply : List (Nat × Summ) := (13, tplS apply_tpl apply_out) :: K_contour
theorem known_apply : Known Try.prog (sums K_apply) L_ap := known_cons known_apL apply_ok
end Go.Proofs.Ytmbfbhimdkjkoaa
namespace Go.Proofs.Ytmbfbhimdkjkoaa
open Go.SX Go.RowKit
noncomputable def awake_tpl : Tpl := ⟨[], [], 0⟩
noncomputable def awake_needs : List Prop :=
  [4 ≤ 1000, true = true → 0 < 5, true = true → 0 < 5, true = true → 0 < 5, true = true → 1 < 5, true = true → 1 < 5, true = true → 1 < 5, true = true → 2 < 5, true = true → 2 < 5, true = true → 2 < 5,
    true = true → 2 < 5, true = true → 2 < 5, true = true → 2 < 5, true = true → 2 < 5, true = true → 2 < 5, true = true → 2 < 5, true = true → 3 < 5, true = true → 3 < 5, true = true → 3 < 5,
    true = true → 4 < 5, true = true → 4 < 5, true = true → 4 < 5]
theorem awake_need : ∀ q ∈ (awake_needs), q := by
  unfold awake_needs
  simp only [List.forall_mem_cons, List.not_mem_nil, false_implies, implies_true, and_true]
  decide
set_option maxRecDepth 1000000 in
theorem awake_runs (hNeeds : ∀ pN ∈ (awake_needs), pN) : Runs (runF (sums K_apply) L_ap 10) (awake_tpl.args []) (awake_tpl.memo [] []) awake_tpl.n (SV.one (SC.bool (SB.v true)))
    ([]) :=
  Runs.of1 (ps := (awake_needs)) (by kernel_rfl) hNeeds
noncomputable def awake_out : List Pm → Lss → Option CRes
  | [], [] => some ⟨SV.one (SC.bool (SB.v true)),
    [],
    [], [], 1018⟩
  | _, _ => none
theorem awake_ok : FOk Try.prog 10 (tplS awake_tpl awake_out) := by
  refine tplS_ok (runF_ok known_apply 10) fun ps ls r hr hn _ => ?_
  unfold awake_out at hr
  split at hr
  · cases hr; exact ⟨_, awake_runs  (fun p hp => awake_need p hp), fun _ => rfl⟩
  · cases hr
noncomputable def K_awake : List (Nat × Summ) := (10, tplS awake_tpl awake_out) :: K_apply
theorem known_awake : Known Try.prog (sums K_awake) L_ap := known_cons known_apply awake_ok
end Go.Proofs.Ytmbfbhimdkjkoaa
namespace Go.Proofs.Ytmbfbhimdkjkoaa
open Go.SX Go.RowKit
theorem light_len {L : List (List Int)} (h : light_0 L = true) : L.length ≤ 120 := by
  unfold light_0 at h
  have := of_decide_eq_true h
  simp at this
  omega
end Go.Proofs.Ytmbfbhimdkjkoaa
