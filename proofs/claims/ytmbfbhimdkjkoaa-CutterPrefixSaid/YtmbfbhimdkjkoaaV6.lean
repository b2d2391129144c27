/-
  CUTTER: what is valid, leads, lines. Conditions: none.
-/
import Derived.Test.YtmbfbhimdkjkoaaV5
set_option linter.all false
namespace Go.Proofs.Ytmbfbhimdkjkoaa
open Go.SX Go.RowKit
noncomputable def cmotion_tpl : Tpl := ⟨[.one (.int .i64)], [], 0⟩
noncomputable def cmotion_0 (k : Int) : Bool :=
  decide (k ≥ 1) && decide (k ≤ 6)
set_option maxRecDepth 1000000 in
theorem cmotion_runs (k : Int) : Runs (runF (sums K_acheck) L_cr 35) (cmotion_tpl.args [.i k]) (cmotion_tpl.memo [.i k] []) cmotion_tpl.n (SV.one (SC.bool (SB.v (cmotion_0 k))))
    ([]) :=
  Runs.of1 (ps := []) (by kernel_rfl) (by simp)
noncomputable def cmotion_out : List Pm → Lss → Option CRes
  | [.i k], [] => some ⟨SV.one (SC.bool (SB.v (cmotion_0 k))),
    [],
    [], [], 8⟩
  | _, _ => none
theorem cmotion_ok : FOk Try.prog 35 (tplS cmotion_tpl cmotion_out) := by
  refine tplS_ok (runF_ok known_acheck 35) fun ps ls r hr hn _ => ?_
  unfold cmotion_out at hr
  split at hr
  · cases hr; exact ⟨_, cmotion_runs _, fun _ => rfl⟩
  · cases hr
noncomputable def K_cmotion : List (Nat × Summ) := (35, tplS cmotion_tpl cmotion_out) :: K_acheck
theorem known_cmotion : Known Try.prog (sums K_cmotion) L_cr := known_cons known_acheck cmotion_ok
noncomputable def cvalid_tpl : Tpl := ⟨[.agg [.int .i64, .int .i64, .int .i64, .int .i64, .int .i64, .int .i64, .int .i64, .int .i64, .int .i64, .int .i64, .int .i64, .int .i64, .int .i64, .bool, .int .i64, .bool, .int .i64, .int .i64, .int .i64, .int .i64, .int .i64, .bool]], [], 0⟩
noncomputable def cvalid_sp : List GK := [.v itemB]
noncomputable def cvalid_s0 (x : List GC) : Bool :=
  bif xi x 0 == 1 then xi x 14 == 0 && !xb x 15 && xi x 18 == 0
  else
    bif decide (xi x 14 < 1) || decide (xi x 14 > 60000000) then false
    else
      bif bif xi x 0 == 2 then xi x 0 == 2 else xi x 0 == 3 then decide (xi x 18 ≥ 0) && decide (xi x 18 ≤ 1000)
      else bif bif xi x 0 == 5 then xi x 0 == 5 else xi x 0 == 6 then xi x 18 == 0 && xb x 15 else xi x 18 == 0
noncomputable def cvalid_s1 (x : List GC) : Bool :=
  bif xi x 0 == 6 then bif xi x 19 != 3 && xi x 19 != 4 then false else cvalid_s0 x else bif xi x 19 != 0 then false else cvalid_s0 x
noncomputable def cvalid_s2 (x : List GC) : Bool :=
  decide (xi x 19 ≥ 0)
noncomputable def cvalid_0 (x : List GC) : Bool :=
  bif decide (xi x 1 < 0) || decide (xi x 1 ≥ 2000) then false
  else
    bif cmotion_0 (xi x 0) then
      bif
          !vwithin_0 (xi x 2) (xi x 3) (xi x 4) || !vwithin_0 (xi x 5) (xi x 6) (xi x 7) || xi x 20 != 0 || xb x 21 ||
            !bif xi x 16 == 0 then xi x 17 == 0 && (xi x 8 == 0 || xi x 0 == 3)
              else (xi x 0 == 1 || xi x 0 == 2 || xi x 0 == 3) && flat_3 (xi x 8) && (xi x 16 == 1 || xi x 16 == -1) && decide (xi x 17 ≥ 0) && decide (xi x 17 ≤ 32768) then
        false
      else
        bif xi x 0 == 3 then bif acheck_0 (xi x 0) (xi x 2) (xi x 3) (xi x 4) (xi x 5) (xi x 6) (xi x 7) (xi x 8) (xi x 9) (xi x 10) (xi x 11) (xi x 12) (xb x 13) != 0 then false else cvalid_s1 x
        else bif !(xi x 9 == 0 && (xi x 10 == 0 && xi x 11 == 0)) || xi x 12 != 0 || xb x 13 then false else cvalid_s1 x
    else
      bif
          !(xi x 0 == xi x 0 &&
              (xi x 1 == xi x 1 &&
                (xi x 2 == 0 &&
                  (xi x 3 == 0 &&
                    (xi x 4 == 0 &&
                      (xi x 5 == 0 &&
                        (xi x 6 == 0 &&
                          (xi x 7 == 0 &&
                            (xi x 8 == 0 &&
                              (xi x 9 == 0 &&
                                (xi x 10 == 0 &&
                                  (xi x 11 == 0 &&
                                    (xi x 12 == 0 &&
                                      (xb x 13 == false &&
                                        (xi x 14 == 0 &&
                                          (xb x 15 == false &&
                                            (xi x 16 == 0 && (xi x 17 == 0 && (xi x 18 == 0 && (xi x 19 == xi x 19 && (xi x 20 == xi x 20 && xb x 21 == xb x 21))))))))))))))))))))) then
        false
      else
        bif xi x 0 == 8 then !xb x 21 && decide (xi x 19 ≥ 3) && decide (xi x 19 ≤ 5) && decide (xi x 20 ≥ 0) && decide (xi x 20 ≤ 30000) && (xi x 19 != 5 || xi x 20 == 0)
        else
          bif xi x 0 == 9 then xi x 20 == 0 && (xi x 19 == 7 || xi x 19 == 8)
          else
            bif xi x 0 == 10 then xi x 20 == 0 && cvalid_s2 x && decide (xi x 19 < 16)
            else
              bif xi x 0 == 7 then !xb x 21 && xi x 20 == 0 && cvalid_s2 x && decide (xi x 19 ≤ 60000)
              else
                bif xi x 0 == 11 then !xb x 21 && xi x 20 == 0 && cvalid_s2 x && decide (xi x 19 ≤ 32)
                else (bif xi x 0 == 12 then xi x 0 == 12 else bif xi x 0 == 13 then xi x 0 == 13 else xi x 0 == 14) && (!xb x 21 && xi x 20 == 0 && xi x 19 == 0)
set_option maxRecDepth 1000000 in
theorem cvalid_runs (x : List GC) : Runs (runF (sums K_cmotion) L_cr 36) (cvalid_tpl.args (spread cvalid_sp [.v x])) (cvalid_tpl.memo (spread cvalid_sp [.v x]) []) cvalid_tpl.n (SV.one (SC.bool (SB.v (cvalid_0 x))))
    ([]) :=
  Runs.of1 (ps := []) (by kernel_rfl) (by simp)
noncomputable def cvalid_out : List Gm → Lss → Option CRes
  | [.v x], [] => some ⟨SV.one (SC.bool (SB.v (cvalid_0 x))),
    [],
    [], [], 1925⟩
  | _, _ => none
theorem cvalid_ok : FOk Try.prog 36 (tplG cvalid_sp cvalid_tpl cvalid_out) := by
  refine tplG_ok (runF_ok known_cmotion 36) fun ps ls r hr hn _ => ?_
  unfold cvalid_out at hr
  split at hr
  · cases hr; exact ⟨_, cvalid_runs _, fun _ => rfl⟩
  · cases hr
noncomputable def K_cvalid : List (Nat × Summ) := (36, tplG cvalid_sp cvalid_tpl cvalid_out) :: K_cmotion
theorem known_cvalid : Known Try.prog (sums K_cvalid) L_cr := known_cons known_cmotion cvalid_ok
noncomputable def leads_tpl : Tpl := ⟨[.agg [.int .i64, .int .i64, .int .i64, .int .i64, .int .i64, .int .i64, .int .i64, .int .i64, .int .i64, .int .i64, .int .i64, .int .i64, .int .i64, .bool, .int .i64, .bool, .int .i64, .int .i64, .int .i64, .int .i64, .int .i64, .bool], .one (.int .i64), .one (.int .i64)], [], 0⟩
noncomputable def leads_sp : List GK := [.v itemB, .i, .i]
noncomputable def leads_s0 (x : List GC) (pl : Int) : Int :=
  IntKind.i64.wrap (flat_0 pl (xi x 5) (xi x 6) (xi x 7) - flat_0 pl (xi x 2) (xi x 3) (xi x 4))
noncomputable def leads_s1 (x : List GC) (pl : Int) : Int :=
  IntKind.i64.wrap (flat_1 pl (xi x 5) (xi x 6) (xi x 7) - flat_1 pl (xi x 2) (xi x 3) (xi x 4))
noncomputable def leads_0 (x : List GC) (pl : Int) (ra : Int) : Bool :=
  xi x 0 == 2 && flat_2 pl (xi x 2) (xi x 3) (xi x 4) == flat_2 pl (xi x 5) (xi x 6) (xi x 7) && decide (vinner_0 (leads_s0 x pl) (leads_s1 x pl) (leads_s0 x pl) (leads_s1 x pl) > 0) &&
    decide (vinner_0 (leads_s0 x pl) (leads_s1 x pl) (leads_s0 x pl) (leads_s1 x pl) ≥ IntKind.i64.wrap (ra * ra))
set_option maxRecDepth 1000000 in
theorem leads_runs (x : List GC) (pl ra : Int) : Runs (runF (sums K_cvalid) L_cr 41) (leads_tpl.args (spread leads_sp [.v x, .i pl, .i ra])) (leads_tpl.memo (spread leads_sp [.v x, .i pl, .i ra]) []) leads_tpl.n (SV.one (SC.bool (SB.v (leads_0 x pl ra))))
    ([]) :=
  Runs.of1 (ps := []) (by kernel_rfl) (by simp)
noncomputable def leads_out : List Gm → Lss → Option CRes
  | [.v x, .i pl, .i ra], [] => some ⟨SV.one (SC.bool (SB.v (leads_0 x pl ra))),
    [],
    [], [], 254⟩
  | _, _ => none
theorem leads_ok : FOk Try.prog 41 (tplG leads_sp leads_tpl leads_out) := by
  refine tplG_ok (runF_ok known_cvalid 41) fun ps ls r hr hn _ => ?_
  unfold leads_out at hr
  split at hr
  · cases hr; exact ⟨_, leads_runs _ _ _, fun _ => rfl⟩
  · cases hr
noncomputable def K_leads : List (Nat × Summ) := (41, tplG leads_sp leads_tpl leads_out) :: K_cvalid
theorem known_leads : Known Try.prog (sums K_leads) L_cr := known_cons known_cvalid leads_ok
noncomputable def line_tpl : Tpl := ⟨[.one (.ptr 0 0), .agg [.int .i64, .int .i64, .int .i64, .int .i64, .int .i64, .int .i64, .int .i64, .int .i64, .int .i64, .int .i64, .int .i64, .int .i64, .int .i64, .bool, .int .i64, .bool, .int .i64, .int .i64, .int .i64, .int .i64, .int .i64, .bool], .agg [.int .i64, .int .i64], .one (.int .i64), .one (.int .i64), .one (.bool)], [(0, .blk 66 [(3, .int .i64), (4, .int .i64), (5, .int .i64), (6, .int .i64), (7, .int .i64), (8, .int .i64), (9, .int .i64), (10, .int .i64), (11, .int .i64), (12, .int .i64), (13, .int .i64), (14, .int .i64), (15, .int .i64), (16, .bool), (17, .int .i64), (18, .bool), (19, .int .i64), (20, .int .i64), (21, .int .i64), (22, .int .i64), (23, .int .i64), (24, .bool), (25, .int .i64), (26, .int .i64), (27, .int .i64), (28, .int .i64), (29, .int .i64), (30, .int .i64), (31, .int .i64), (32, .int .i64), (33, .int .i64), (34, .int .i64), (35, .int .i64), (36, .int .i64), (37, .int .i64), (38, .bool), (39, .int .i64), (40, .bool), (41, .int .i64), (42, .int .i64), (43, .int .i64), (44, .int .i64), (45, .int .i64), (46, .bool), (47, .int .i64), (48, .int .i64), (49, .bool), (50, .wh 1), (51, .bool), (52, .bool), (53, .bool), (54, .bool), (55, .int .i64), (56, .int .i64), (57, .int .i64), (58, .wh 2), (59, .int .i64)]), (1, .row false 32 22 60 [.int .i64, .int .i64, .int .i64, .int .i64, .int .i64, .int .i64, .int .i64, .int .i64, .int .i64, .int .i64, .int .i64, .int .i64, .int .i64, .bool, .int .i64, .bool, .int .i64, .int .i64, .int .i64, .int .i64, .int .i64, .bool]), (2, .row false 32 22 61 [.int .i64, .int .i64, .int .i64, .int .i64, .int .i64, .int .i64, .int .i64, .int .i64, .int .i64, .int .i64, .int .i64, .int .i64, .int .i64, .bool, .int .i64, .bool, .int .i64, .int .i64, .int .i64, .int .i64, .int .i64, .bool])], 62⟩
noncomputable def line_sp : List GK := [.v itemB, .i, .i, .i, .i, .b, .v itemB, .v itemB, .i, .i, .b, .b, .b, .b, .b, .i, .i, .i, .i]
noncomputable def line_44 (u : Int) (w : Int) (lo : Int) (hi : Int) (al : Bool) (l : List GC) (a0 : Int) (a1 : Int) : Int :=
  bif al || !(solid_0 (xi l 8) a0 a1 lo == solid_0 (xi l 8) u w hi && (solid_1 (xi l 8) a0 a1 lo == solid_1 (xi l 8) u w hi && solid_2 (xi l 8) a0 a1 lo == solid_2 (xi l 8) u w hi)) then u else u
noncomputable def line_45 (u : Int) (w : Int) (lo : Int) (hi : Int) (al : Bool) (l : List GC) (a0 : Int) (a1 : Int) : Int :=
  bif al || !(solid_0 (xi l 8) a0 a1 lo == solid_0 (xi l 8) u w hi && (solid_1 (xi l 8) a0 a1 lo == solid_1 (xi l 8) u w hi && solid_2 (xi l 8) a0 a1 lo == solid_2 (xi l 8) u w hi)) then w else w
noncomputable def line_46 (x : List GC) (u : Int) (w : Int) (lo : Int) (hi : Int) (al : Bool) (l : List GC) (a0 : Int) (a1 : Int) (O : List (List Int)) : List (List Int) :=
  bif al || !(solid_0 (xi l 8) a0 a1 lo == solid_0 (xi l 8) u w hi && (solid_1 (xi l 8) a0 a1 lo == solid_1 (xi l 8) u w hi && solid_2 (xi l 8) a0 a1 lo == solid_2 (xi l 8) u w hi)) then
    O ++
      [[xi x 0, xi x 1, solid_0 (xi l 8) a0 a1 lo, solid_1 (xi l 8) a0 a1 lo, solid_2 (xi l 8) a0 a1 lo, solid_0 (xi l 8) u w hi, solid_1 (xi l 8) u w hi, solid_2 (xi l 8) u w hi,
          bif xi x 0 != 3 then 0 else xi x 8, xi x 9, xi x 10, xi x 11, xi x 12, bif xb x 13 then 1 else 0, xi x 14, bif xb x 15 then 1 else 0, 0, 0, xi x 18, xi x 19, xi x 20,
          bif xb x 21 then 1 else 0]]
  else O
noncomputable def line_needs (u : Int) (w : Int) (lo : Int) (hi : Int) (al : Bool) (l : List GC) (a0 : Int) (a1 : Int) (O : List (List Int)) : List Prop :=
  [(al || !(solid_0 (xi l 8) a0 a1 lo == solid_0 (xi l 8) u w hi && (solid_1 (xi l 8) a0 a1 lo == solid_1 (xi l 8) u w hi && solid_2 (xi l 8) a0 a1 lo == solid_2 (xi l 8) u w hi))) = true →
      (O.length + 1) * 176 ≤ 140737488355328 ∧ O.length + 1 ≤ 9223372036854775807]
theorem line_weak {u : Int} {w : Int} {lo : Int} {hi : Int} {al : Bool} {l : List GC} {a0 : Int} {a1 : Int} {O : List (List Int)} (hW : ∀ q ∈ ([O.length ≤ 1000000] : List Prop), q) : ∀ q ∈ (line_needs u w lo hi al l a0 a1 O), q := by
  simp only [List.mem_cons, List.not_mem_nil, or_false, forall_eq_or_imp, forall_eq] at hW
  unfold line_needs
  simp only [List.forall_mem_cons, List.not_mem_nil, false_implies, implies_true, and_true]
  exact fun _ => ⟨by omega, by omega⟩
set_option maxRecDepth 1000000 in
theorem line_runs (x : List GC) (u w lo hi : Int) (al : Bool) (l y : List GC) (a0 a1 : Int) (tr op cl en mo : Bool) (la0 la1 la2 er : Int) (C O : List (List Int)) (hNeeds : ∀ pN ∈ (line_needs u w lo hi al l a0 a1 O), pN) : Runs (runF (sums K_leads) L_cr 48) (line_tpl.args (spread line_sp [.v x, .i u, .i w, .i lo, .i hi, .b al, .v l, .v y, .i a0, .i a1, .b tr, .b op, .b cl, .b en, .b mo, .i la0, .i la1, .i la2, .i er])) (line_tpl.memo (spread line_sp [.v x, .i u, .i w, .i lo, .i hi, .b al, .v l, .v y, .i a0, .i a1, .b tr, .b op, .b cl, .b en, .b mo, .i la0, .i la1, .i la2, .i er]) [C, O]) line_tpl.n (SV.tup [])
    ([(0,
      Obj.blk 66
        [(3, SC.int IntKind.i64 (SI.v (xi l 0))), (4, SC.int IntKind.i64 (SI.v (xi l 1))), (5, SC.int IntKind.i64 (SI.v (xi l 2))), (6, SC.int IntKind.i64 (SI.v (xi l 3))),
          (7, SC.int IntKind.i64 (SI.v (xi l 4))), (8, SC.int IntKind.i64 (SI.v (xi l 5))), (9, SC.int IntKind.i64 (SI.v (xi l 6))), (10, SC.int IntKind.i64 (SI.v (xi l 7))),
          (11, SC.int IntKind.i64 (SI.v (xi l 8))), (12, SC.int IntKind.i64 (SI.v (xi l 9))), (13, SC.int IntKind.i64 (SI.v (xi l 10))), (14, SC.int IntKind.i64 (SI.v (xi l 11))),
          (15, SC.int IntKind.i64 (SI.v (xi l 12))), (16, SC.bool (SB.v (xb l 13))), (17, SC.int IntKind.i64 (SI.v (xi l 14))), (18, SC.bool (SB.v (xb l 15))), (19, SC.int IntKind.i64 (SI.v (xi l 16))),
          (20, SC.int IntKind.i64 (SI.v (xi l 17))), (21, SC.int IntKind.i64 (SI.v (xi l 18))), (22, SC.int IntKind.i64 (SI.v (xi l 19))), (23, SC.int IntKind.i64 (SI.v (xi l 20))),
          (24, SC.bool (SB.v (xb l 21))), (25, SC.int IntKind.i64 (SI.v (xi y 0))), (26, SC.int IntKind.i64 (SI.v (xi y 1))), (27, SC.int IntKind.i64 (SI.v (xi y 2))),
          (28, SC.int IntKind.i64 (SI.v (xi y 3))), (29, SC.int IntKind.i64 (SI.v (xi y 4))), (30, SC.int IntKind.i64 (SI.v (xi y 5))), (31, SC.int IntKind.i64 (SI.v (xi y 6))),
          (32, SC.int IntKind.i64 (SI.v (xi y 7))), (33, SC.int IntKind.i64 (SI.v (xi y 8))), (34, SC.int IntKind.i64 (SI.v (xi y 9))), (35, SC.int IntKind.i64 (SI.v (xi y 10))),
          (36, SC.int IntKind.i64 (SI.v (xi y 11))), (37, SC.int IntKind.i64 (SI.v (xi y 12))), (38, SC.bool (SB.v (xb y 13))), (39, SC.int IntKind.i64 (SI.v (xi y 14))), (40, SC.bool (SB.v (xb y 15))),
          (41, SC.int IntKind.i64 (SI.v (xi y 16))), (42, SC.int IntKind.i64 (SI.v (xi y 17))), (43, SC.int IntKind.i64 (SI.v (xi y 18))), (44, SC.int IntKind.i64 (SI.v (xi y 19))),
          (45, SC.int IntKind.i64 (SI.v (xi y 20))), (46, SC.bool (SB.v (xb y 21))), (593, SC.int IntKind.i64 (SI.v (line_44 u w lo hi al l a0 a1))),
          (594, SC.int IntKind.i64 (SI.v (line_45 u w lo hi al l a0 a1))), (49, SC.bool (SB.v tr)), (50, SC.wh 1), (51, SC.bool (SB.v op)), (52, SC.bool (SB.v cl)), (53, SC.bool (SB.v en)),
          (54, SC.bool (SB.v mo)), (55, SC.int IntKind.i64 (SI.v la0)), (56, SC.int IntKind.i64 (SI.v la1)), (57, SC.int IntKind.i64 (SI.v la2)), (591, SC.wh 589), (59, SC.int IntKind.i64 (SI.v er))]),
    (589,
      Obj.row false 32 22
        (RowC.lst 592
          [CK.int IntKind.i64, CK.int IntKind.i64, CK.int IntKind.i64, CK.int IntKind.i64, CK.int IntKind.i64, CK.int IntKind.i64, CK.int IntKind.i64, CK.int IntKind.i64, CK.int IntKind.i64,
            CK.int IntKind.i64, CK.int IntKind.i64, CK.int IntKind.i64, CK.int IntKind.i64, CK.bool, CK.int IntKind.i64, CK.bool, CK.int IntKind.i64, CK.int IntKind.i64, CK.int IntKind.i64,
            CK.int IntKind.i64, CK.int IntKind.i64, CK.bool]
          (line_46 x u w lo hi al l a0 a1 O))),
    (1,
      Obj.row false 32 22
        (RowC.lst 60
          [CK.int IntKind.i64, CK.int IntKind.i64, CK.int IntKind.i64, CK.int IntKind.i64, CK.int IntKind.i64, CK.int IntKind.i64, CK.int IntKind.i64, CK.int IntKind.i64, CK.int IntKind.i64,
            CK.int IntKind.i64, CK.int IntKind.i64, CK.int IntKind.i64, CK.int IntKind.i64, CK.bool, CK.int IntKind.i64, CK.bool, CK.int IntKind.i64, CK.int IntKind.i64, CK.int IntKind.i64,
            CK.int IntKind.i64, CK.int IntKind.i64, CK.bool]
          C))]) :=
  Runs.of1 (ps := (line_needs u w lo hi al l a0 a1 O)) (by kernel_rfl) hNeeds
noncomputable def line_out : List Gm → Lss → Option CRes
  | [.v x, .i u, .i w, .i lo, .i hi, .b al, .v l, .v y, .i a0, .i a1, .b tr, .b op, .b cl, .b en, .b mo, .i la0, .i la1, .i la2, .i er], [C, O] => some ⟨SV.tup [],
    [(0,
      Obj.blk 66
        [(3, SC.int IntKind.i64 (SI.v (xi l 0))), (4, SC.int IntKind.i64 (SI.v (xi l 1))), (5, SC.int IntKind.i64 (SI.v (xi l 2))), (6, SC.int IntKind.i64 (SI.v (xi l 3))),
          (7, SC.int IntKind.i64 (SI.v (xi l 4))), (8, SC.int IntKind.i64 (SI.v (xi l 5))), (9, SC.int IntKind.i64 (SI.v (xi l 6))), (10, SC.int IntKind.i64 (SI.v (xi l 7))),
          (11, SC.int IntKind.i64 (SI.v (xi l 8))), (12, SC.int IntKind.i64 (SI.v (xi l 9))), (13, SC.int IntKind.i64 (SI.v (xi l 10))), (14, SC.int IntKind.i64 (SI.v (xi l 11))),
          (15, SC.int IntKind.i64 (SI.v (xi l 12))), (16, SC.bool (SB.v (xb l 13))), (17, SC.int IntKind.i64 (SI.v (xi l 14))), (18, SC.bool (SB.v (xb l 15))), (19, SC.int IntKind.i64 (SI.v (xi l 16))),
          (20, SC.int IntKind.i64 (SI.v (xi l 17))), (21, SC.int IntKind.i64 (SI.v (xi l 18))), (22, SC.int IntKind.i64 (SI.v (xi l 19))), (23, SC.int IntKind.i64 (SI.v (xi l 20))),
          (24, SC.bool (SB.v (xb l 21))), (25, SC.int IntKind.i64 (SI.v (xi y 0))), (26, SC.int IntKind.i64 (SI.v (xi y 1))), (27, SC.int IntKind.i64 (SI.v (xi y 2))),
          (28, SC.int IntKind.i64 (SI.v (xi y 3))), (29, SC.int IntKind.i64 (SI.v (xi y 4))), (30, SC.int IntKind.i64 (SI.v (xi y 5))), (31, SC.int IntKind.i64 (SI.v (xi y 6))),
          (32, SC.int IntKind.i64 (SI.v (xi y 7))), (33, SC.int IntKind.i64 (SI.v (xi y 8))), (34, SC.int IntKind.i64 (SI.v (xi y 9))), (35, SC.int IntKind.i64 (SI.v (xi y 10))),
          (36, SC.int IntKind.i64 (SI.v (xi y 11))), (37, SC.int IntKind.i64 (SI.v (xi y 12))), (38, SC.bool (SB.v (xb y 13))), (39, SC.int IntKind.i64 (SI.v (xi y 14))), (40, SC.bool (SB.v (xb y 15))),
          (41, SC.int IntKind.i64 (SI.v (xi y 16))), (42, SC.int IntKind.i64 (SI.v (xi y 17))), (43, SC.int IntKind.i64 (SI.v (xi y 18))), (44, SC.int IntKind.i64 (SI.v (xi y 19))),
          (45, SC.int IntKind.i64 (SI.v (xi y 20))), (46, SC.bool (SB.v (xb y 21))), (593, SC.int IntKind.i64 (SI.v (u))),
          (594, SC.int IntKind.i64 (SI.v (w))), (49, SC.bool (SB.v tr)), (50, SC.wh 1), (51, SC.bool (SB.v op)), (52, SC.bool (SB.v cl)), (53, SC.bool (SB.v en)),
          (54, SC.bool (SB.v mo)), (55, SC.int IntKind.i64 (SI.v la0)), (56, SC.int IntKind.i64 (SI.v la1)), (57, SC.int IntKind.i64 (SI.v la2)), (591, SC.wh 589), (59, SC.int IntKind.i64 (SI.v er))]),
    (589,
      Obj.row false 32 22
        (RowC.lst 592
          [CK.int IntKind.i64, CK.int IntKind.i64, CK.int IntKind.i64, CK.int IntKind.i64, CK.int IntKind.i64, CK.int IntKind.i64, CK.int IntKind.i64, CK.int IntKind.i64, CK.int IntKind.i64,
            CK.int IntKind.i64, CK.int IntKind.i64, CK.int IntKind.i64, CK.int IntKind.i64, CK.bool, CK.int IntKind.i64, CK.bool, CK.int IntKind.i64, CK.int IntKind.i64, CK.int IntKind.i64,
            CK.int IntKind.i64, CK.int IntKind.i64, CK.bool]
          (line_46 x u w lo hi al l a0 a1 O))),
    (1,
      Obj.row false 32 22
        (RowC.lst 60
          [CK.int IntKind.i64, CK.int IntKind.i64, CK.int IntKind.i64, CK.int IntKind.i64, CK.int IntKind.i64, CK.int IntKind.i64, CK.int IntKind.i64, CK.int IntKind.i64, CK.int IntKind.i64,
            CK.int IntKind.i64, CK.int IntKind.i64, CK.int IntKind.i64, CK.int IntKind.i64, CK.bool, CK.int IntKind.i64, CK.bool, CK.int IntKind.i64, CK.int IntKind.i64, CK.int IntKind.i64,
            CK.int IntKind.i64, CK.int IntKind.i64, CK.bool]
          C))],
    [O.length ≤ 1000000], [], 595⟩
  | _, _ => none
theorem line_turned (x : List GC) (u w lo hi : Int) (al : Bool) (l y : List GC) (a0 a1 : Int) (tr op cl en mo : Bool) (la0 la1 la2 er : Int) (C O : List (List Int)) (hNeeds : ∀ pN ∈ (line_needs u w lo hi al l a0 a1 O), pN) : Runs (runF (sums K_leads) L_cr 48) (line_tpl.args (spread line_sp [.v x, .i u, .i w, .i lo, .i hi, .b al, .v l, .v y, .i a0, .i a1, .b tr, .b op, .b cl, .b en, .b mo, .i la0, .i la1, .i la2, .i er])) (line_tpl.memo (spread line_sp [.v x, .i u, .i w, .i lo, .i hi, .b al, .v l, .v y, .i a0, .i a1, .b tr, .b op, .b cl, .b en, .b mo, .i la0, .i la1, .i la2, .i er]) [C, O]) line_tpl.n (SV.tup [])
    ([(0,
      Obj.blk 66
        [(3, SC.int IntKind.i64 (SI.v (xi l 0))), (4, SC.int IntKind.i64 (SI.v (xi l 1))), (5, SC.int IntKind.i64 (SI.v (xi l 2))), (6, SC.int IntKind.i64 (SI.v (xi l 3))),
          (7, SC.int IntKind.i64 (SI.v (xi l 4))), (8, SC.int IntKind.i64 (SI.v (xi l 5))), (9, SC.int IntKind.i64 (SI.v (xi l 6))), (10, SC.int IntKind.i64 (SI.v (xi l 7))),
          (11, SC.int IntKind.i64 (SI.v (xi l 8))), (12, SC.int IntKind.i64 (SI.v (xi l 9))), (13, SC.int IntKind.i64 (SI.v (xi l 10))), (14, SC.int IntKind.i64 (SI.v (xi l 11))),
          (15, SC.int IntKind.i64 (SI.v (xi l 12))), (16, SC.bool (SB.v (xb l 13))), (17, SC.int IntKind.i64 (SI.v (xi l 14))), (18, SC.bool (SB.v (xb l 15))), (19, SC.int IntKind.i64 (SI.v (xi l 16))),
          (20, SC.int IntKind.i64 (SI.v (xi l 17))), (21, SC.int IntKind.i64 (SI.v (xi l 18))), (22, SC.int IntKind.i64 (SI.v (xi l 19))), (23, SC.int IntKind.i64 (SI.v (xi l 20))),
          (24, SC.bool (SB.v (xb l 21))), (25, SC.int IntKind.i64 (SI.v (xi y 0))), (26, SC.int IntKind.i64 (SI.v (xi y 1))), (27, SC.int IntKind.i64 (SI.v (xi y 2))),
          (28, SC.int IntKind.i64 (SI.v (xi y 3))), (29, SC.int IntKind.i64 (SI.v (xi y 4))), (30, SC.int IntKind.i64 (SI.v (xi y 5))), (31, SC.int IntKind.i64 (SI.v (xi y 6))),
          (32, SC.int IntKind.i64 (SI.v (xi y 7))), (33, SC.int IntKind.i64 (SI.v (xi y 8))), (34, SC.int IntKind.i64 (SI.v (xi y 9))), (35, SC.int IntKind.i64 (SI.v (xi y 10))),
          (36, SC.int IntKind.i64 (SI.v (xi y 11))), (37, SC.int IntKind.i64 (SI.v (xi y 12))), (38, SC.bool (SB.v (xb y 13))), (39, SC.int IntKind.i64 (SI.v (xi y 14))), (40, SC.bool (SB.v (xb y 15))),
          (41, SC.int IntKind.i64 (SI.v (xi y 16))), (42, SC.int IntKind.i64 (SI.v (xi y 17))), (43, SC.int IntKind.i64 (SI.v (xi y 18))), (44, SC.int IntKind.i64 (SI.v (xi y 19))),
          (45, SC.int IntKind.i64 (SI.v (xi y 20))), (46, SC.bool (SB.v (xb y 21))), (593, SC.int IntKind.i64 (SI.v (u))),
          (594, SC.int IntKind.i64 (SI.v (w))), (49, SC.bool (SB.v tr)), (50, SC.wh 1), (51, SC.bool (SB.v op)), (52, SC.bool (SB.v cl)), (53, SC.bool (SB.v en)),
          (54, SC.bool (SB.v mo)), (55, SC.int IntKind.i64 (SI.v la0)), (56, SC.int IntKind.i64 (SI.v la1)), (57, SC.int IntKind.i64 (SI.v la2)), (591, SC.wh 589), (59, SC.int IntKind.i64 (SI.v er))]),
    (589,
      Obj.row false 32 22
        (RowC.lst 592
          [CK.int IntKind.i64, CK.int IntKind.i64, CK.int IntKind.i64, CK.int IntKind.i64, CK.int IntKind.i64, CK.int IntKind.i64, CK.int IntKind.i64, CK.int IntKind.i64, CK.int IntKind.i64,
            CK.int IntKind.i64, CK.int IntKind.i64, CK.int IntKind.i64, CK.int IntKind.i64, CK.bool, CK.int IntKind.i64, CK.bool, CK.int IntKind.i64, CK.int IntKind.i64, CK.int IntKind.i64,
            CK.int IntKind.i64, CK.int IntKind.i64, CK.bool]
          (line_46 x u w lo hi al l a0 a1 O))),
    (1,
      Obj.row false 32 22
        (RowC.lst 60
          [CK.int IntKind.i64, CK.int IntKind.i64, CK.int IntKind.i64, CK.int IntKind.i64, CK.int IntKind.i64, CK.int IntKind.i64, CK.int IntKind.i64, CK.int IntKind.i64, CK.int IntKind.i64,
            CK.int IntKind.i64, CK.int IntKind.i64, CK.int IntKind.i64, CK.int IntKind.i64, CK.bool, CK.int IntKind.i64, CK.bool, CK.int IntKind.i64, CK.int IntKind.i64, CK.int IntKind.i64,
            CK.int IntKind.i64, CK.int IntKind.i64, CK.bool]
          C))]) :=
  (line_runs x u w lo hi al l y a0 a1 tr op cl en mo la0 la1 la2 er C O hNeeds).to (by first | rfl | (simp only [])) ((by simp only [line_44, line_45, Bool.cond_self]))
theorem line_ok : FOk Try.prog 48 (tplG line_sp line_tpl line_out) := by
  refine tplG_ok (runF_ok known_leads 48) fun ps ls r hr hn _ => ?_
  unfold line_out at hr
  split at hr
  · cases hr; exact ⟨_, line_turned _ _ _ _ _ _ _ _ _ _ _ _ _ _ _ _ _ _ _ _ _ (line_weak (by exact hn)), fun _ => rfl⟩
  · cases hr
noncomputable def K_line : List (Nat × Summ) := (48, tplG line_sp line_tpl line_out) :: K_leads
theorem known_line : Known Try.prog (sums K_line) L_cr := known_cons known_leads line_ok
theorem line_46_len (x : List GC) (u w lo hi : Int) (al : Bool) (l : List GC) (a0 a1 : Int) (O : List (List Int)) : O.length ≤ (line_46 x u w lo hi al l a0 a1 O).length ∧ (line_46 x u w lo hi al l a0 a1 O).length ≤ O.length + 1 := by
  unfold line_46
  generalize (al || _ : Bool) = c
  cases c
  · exact ⟨Nat.le_refl _, Nat.le_succ _⟩
  · simp only [cond_true, List.length_append, List.length_cons, List.length_nil]; omega
end Go.Proofs.Ytmbfbhimdkjkoaa
