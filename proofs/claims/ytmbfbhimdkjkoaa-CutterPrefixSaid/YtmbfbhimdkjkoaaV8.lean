/-
  CUTTER: release. Conditions: there is room.
-/
import Derived.Test.YtmbfbhimdkjkoaaV8a
set_option linter.all false
namespace Go.Proofs.Ytmbfbhimdkjkoaa
open Go.SX Go.RowKit
noncomputable def relS (l : List GC) (a0 a1 : Int) (O : List (List Int)) (r : List Int) : List (List Int) :=
  bif cmotion_0 (r.getD 0 0) then line_46 (ofRow r) a0 a1 (flat_2 (xi l 8) (r.getD 2 0) (r.getD 3 0) (r.getD 4 0)) (flat_2 (xi l 8) (r.getD 5 0) (r.getD 6 0) (r.getD 7 0)) false (nrm l) a0 a1 O else O ++ [cpRow r]
noncomputable def relJ (l : List GC) (a0 a1 : Int) (O C : List (List Int)) (j : Nat) : List (List Int) := (C.take j).foldl (relS l a0 a1) O
/-- What release makes of the settled and the carried items. -/
noncomputable def relL (l : List GC) (a0 a1 : Int) (O C : List (List Int)) : List (List Int) := C.foldl (relS l a0 a1) O
theorem relJ_succ (l : List GC) (a0 a1 : Int) (O C : List (List Int)) (j : Nat) (h : j < C.length) : relJ l a0 a1 O C (j + 1) = relS l a0 a1 (relJ l a0 a1 O C j) (C.getD j []) := by
  have e : C.getD j [] = C[j] := by simp [List.getD, List.getElem?_eq_getElem h]
  unfold relJ
  rw [List.take_succ_eq_append_getElem h, List.foldl_append, e]
  rfl
theorem relJ_all (l : List GC) (a0 a1 : Int) (O C : List (List Int)) : relJ l a0 a1 O C C.length = relL l a0 a1 O C := by
  unfold relJ; rw [List.take_length]; rfl
theorem relS_len (l : List GC) (a0 a1 : Int) (O : List (List Int)) (r : List Int) : LenIn O (relS l a0 a1 O r) := by
  unfold relS
  exact .ite (line_46_len ..) (.one O _)
theorem relL_len (l : List GC) (a0 a1 : Int) : ∀ (C O : List (List Int)), O.length ≤ (relL l a0 a1 O C).length ∧ (relL l a0 a1 O C).length ≤ O.length + C.length
  | [], O => ⟨Nat.le_refl _, Nat.le_refl _⟩
  | r :: C, O => by
    have h := relS_len l a0 a1 O r
    have k := relL_len l a0 a1 C (relS l a0 a1 O r)
    unfold LenIn at h
    have e : relL l a0 a1 O (r :: C) = relL l a0 a1 (relS l a0 a1 O r) C := rfl
    rw [e, List.length_cons]; omega
theorem relJ_len (l : List GC) (a0 a1 : Int) (O C : List (List Int)) (j : Nat) : (relJ l a0 a1 O C j).length ≤ O.length + C.length := by
  have h := relL_len l a0 a1 (C.take j) O
  have k : (C.take j).length ≤ C.length := by rw [List.length_take]; omega
  have e : relJ l a0 a1 O C j = relL l a0 a1 O (C.take j) := rfl
  rw [e]; omega
noncomputable def relG (k : Nat) : Nat := bif Nat.beq k 44 || Nat.beq k 45 || Nat.beq k 55 then 1000000000 + k else k + 3
noncomputable def relH (k : Nat) : Nat := bif Nat.beq k 44 || Nat.beq k 45 || Nat.beq k 55 then 69 + k else k + 3
noncomputable def relF (l y : List GC) (a0 a1 : Int) (tr op cl en mo : Bool) (la0 la1 la2 er : Int) (C O : List (List Int)) : Fam Nat Unit where
  k := 120
  E j := [(14, ent 1000000060 (.one (I (Int.ofNat j)))), (13, ent 1000000061 (.one (I (Int.ofNat C.length)))), (12, ent 1000000062 (.one (.wh 1))), (0, ent 0 (.one (.ptr 0 0)))]
  M j := [(0, .blk 66 (fcells relG l y a0 a1 tr 1 op cl en mo la0 la1 la2 71 er)), rowI 1 60 C, rowI 71 1000000070 (relJ l a0 a1 O C j)]
  out _ := .leaf (.exit 0) [(0, ent 0 (.one (.ptr 0 0)))] [(0, .blk 66 (fcells relH l y a0 a1 tr 1 op cl en mo la0 la1 la2 71 er)), rowI 1 60 C, rowI 71 130 (relL l a0 a1 O C)]
  fin _ := ()
  next j _ := j + 1
  J j := j ≤ C.length ∧ C.length ≤ 1000 ∧ O.length ≤ 900000
  μ j := C.length - j
noncomputable def rel_s0 (C : List (List Int)) (j : Nat) : Prop :=
  decide (Int.ofNat j < Int.ofNat C.length) = true
noncomputable def rel_s1 (C : List (List Int)) (j : Nat) : Prop :=
  (!cmotion_0 ((C.getD (Int.ofNat j).toNat []).getD 0 0)) = true
noncomputable def rel_s2 (C : List (List Int)) (j : Nat) : Prop :=
  (!cmotion_0 ((C.getD (Int.ofNat j).toNat []).getD 0 0)) = false
noncomputable def rel_s3 (C : List (List Int)) (O : List (List Int)) : Prop :=
  C.length ≤ 1000 ∧ O.length ≤ 900000
noncomputable def rel_needs (l : List GC) (y : List GC) (a0 : Int) (a1 : Int) (tr : Bool) (op : Bool) (cl : Bool) (en : Bool) (mo : Bool) (la0 : Int) (la1 : Int) (la2 : Int) (er : Int) (C : List (List Int)) (O : List (List Int)) (j : Nat) : List Prop :=
  [rel_s0 C j →
      0 ≤ Int.ofNat j ∧
        (Int.ofNat j).toNat < C.length ∧
          (Int.ofNat j).toNat < C.length ∧
            (rel_s1 C j → ((relJ l a0 a1 O C j).length + 1) * 176 ≤ 140737488355328 ∧ (relJ l a0 a1 O C j).length + 1 ≤ 9223372036854775807) ∧ (rel_s2 C j → (relJ l a0 a1 O C j).length ≤ 1000000),
    rel_s0 C j →
      (rel_s1 C j →
          ((relF l y a0 a1 tr op cl en mo la0 la1 la2 er C O).next j 0 ≤ C.length ∧ rel_s3 C O) ∧
            (relF l y a0 a1 tr op cl en mo la0 la1 la2 er C O).μ ((relF l y a0 a1 tr op cl en mo la0 la1 la2 er C O).next j 0) < (relF l y a0 a1 tr op cl en mo la0 la1 la2 er C O).μ j ∧
              (relF l y a0 a1 tr op cl en mo la0 la1 la2 er C O).fin ((relF l y a0 a1 tr op cl en mo la0 la1 la2 er C O).next j 0) = (relF l y a0 a1 tr op cl en mo la0 la1 la2 er C O).fin j ∧
                Int.ofNat ((relF l y a0 a1 tr op cl en mo la0 la1 la2 er C O).next j 0) = IntKind.i64.wrap (Int.ofNat j + 1) ∧
                  Int.ofNat C.length = Int.ofNat C.length ∧
                    a0 = a0 ∧ a1 = a1 ∧ relJ l a0 a1 O C ((relF l y a0 a1 tr op cl en mo la0 la1 la2 er C O).next j 0) = relJ l a0 a1 O C j ++ [cpRow (C.getD (Int.ofNat j).toNat [])]) ∧
        (rel_s2 C j →
          ((relF l y a0 a1 tr op cl en mo la0 la1 la2 er C O).next j 1 ≤ C.length ∧ rel_s3 C O) ∧
            (relF l y a0 a1 tr op cl en mo la0 la1 la2 er C O).μ ((relF l y a0 a1 tr op cl en mo la0 la1 la2 er C O).next j 1) < (relF l y a0 a1 tr op cl en mo la0 la1 la2 er C O).μ j ∧
              (relF l y a0 a1 tr op cl en mo la0 la1 la2 er C O).fin ((relF l y a0 a1 tr op cl en mo la0 la1 la2 er C O).next j 1) = (relF l y a0 a1 tr op cl en mo la0 la1 la2 er C O).fin j ∧
                Int.ofNat ((relF l y a0 a1 tr op cl en mo la0 la1 la2 er C O).next j 1) = IntKind.i64.wrap (Int.ofNat j + 1) ∧
                  Int.ofNat C.length = Int.ofNat C.length ∧
                    a0 = a0 ∧
                      a1 = a1 ∧
                        relJ l a0 a1 O C ((relF l y a0 a1 tr op cl en mo la0 la1 la2 er C O).next j 1) =
                          line_46 (ofRow (C.getD (Int.ofNat j).toNat [])) a0 a1
                            (flat_2 (xi l 8) ((C.getD (Int.ofNat j).toNat []).getD 2 0) ((C.getD (Int.ofNat j).toNat []).getD 3 0) ((C.getD (Int.ofNat j).toNat []).getD 4 0))
                            (flat_2 (xi l 8) ((C.getD (Int.ofNat j).toNat []).getD 5 0) ((C.getD (Int.ofNat j).toNat []).getD 6 0) ((C.getD (Int.ofNat j).toNat []).getD 7 0)) false (nrm l) a0 a1
                            (relJ l a0 a1 O C j)),
    decide (Int.ofNat j < Int.ofNat C.length) = false → a0 = a0 ∧ a1 = a1 ∧ relL l a0 a1 O C = relJ l a0 a1 O C j]
theorem rel_round (l y : List GC) (a0 a1 : Int) (tr op cl en mo : Bool) (la0 la1 la2 er : Int) (C O : List (List Int)) (j : Nat) (hNeeds : ∀ pN ∈ (rel_needs l y a0 a1 tr op cl en mo la0 la1 la2 er C O j), pN) : RoundOk (roundC (relF l y a0 a1 tr op cl en mo la0 la1 la2 er C O) (bodyOf Try.prog (sums K_join) L_cr 46 0) 69 j) :=
  RoundOk.of (ps := (rel_needs l y a0 a1 tr op cl en mo la0 la1 la2 er C O j)) (by kernel_rfl) (by kernel_rfl) hNeeds
theorem rel_rounds (l y : List GC) (a0 a1 : Int) (tr op cl en mo : Bool) (la0 la1 la2 er : Int) (C O : List (List Int)) : RoundsOk (relF l y a0 a1 tr op cl en mo la0 la1 la2 er C O) (bodyOf Try.prog (sums K_join) L_cr 46 0) 69 := by
  intro j hJ
  obtain ⟨h1, h2, h3⟩ : j ≤ C.length ∧ C.length ≤ 1000 ∧ O.length ≤ 900000 := hJ
  refine rel_round l y a0 a1 tr op cl en mo la0 la1 la2 er C O j ?_
  unfold rel_needs
  have hl := relJ_len l a0 a1 O C j
  have lt : rel_s0 C j → j < C.length := by unfold rel_s0; simp
  simp only [List.forall_mem_cons, List.not_mem_nil, false_implies, implies_true, and_true]
  refine ⟨fun h => ⟨by simp, lt h, lt h, fun _ => ⟨by omega, by omega⟩, fun _ => by omega⟩, fun h => ?_, fun h => ?_⟩
  · have hj := lt h
    have hs := relJ_succ l a0 a1 O C j hj
    have e6 : IntKind.i64.wrap (Int.ofNat j + 1) = Int.ofNat (j + 1) := wrI (by simp; omega) (by simp; omega)
    refine ⟨fun h1 => ⟨⟨hj, h2, h3⟩, by show C.length - (j + 1) < C.length - j; omega, trivial, e6.symm, trivial, trivial, trivial, ?_⟩, fun h1 => ⟨⟨hj, h2, h3⟩, by show C.length - (j + 1) < C.length - j; omega, trivial, e6.symm, trivial, trivial, trivial, ?_⟩⟩
    · show relJ l a0 a1 O C (j + 1) = _
      rw [hs]; unfold relS
      unfold rel_s1 at h1
      rw [show cmotion_0 ((C.getD j []).getD 0 0) = false by simpa using h1]; rfl
    · show relJ l a0 a1 O C (j + 1) = _
      rw [hs]; unfold relS
      unfold rel_s2 at h1
      rw [show cmotion_0 ((C.getD j []).getD 0 0) = true by simpa using h1]; rfl
  · have : j = C.length := by simp at h; omega
    rw [this]; exact ⟨trivial, trivial, (relJ_all ..).symm⟩
noncomputable def relLp : LoopS := fun env mem m => match SX.look mem 0, SX.look mem 1, SX.look mem 2 with
  | some (.blk _ cs), some (.row _ _ _ (.lst _ _ C)), some (.row _ _ _ (.lst _ _ O)) => (match takeC itemB cs with
    | some (l, r) => (match takeC itemB r with
      | some (y, [(_, .int _ a0), (_, .int _ a1), (_, .bool tr), _, (_, .bool op), (_, .bool cl), (_, .bool en), (_, .bool mo), (_, .int _ la0), (_, .int _ la1), (_, .int _ la2), _, (_, .int _ er)]) => famS (relF l y a0.val a1.val tr.val op.val cl.val en.val mo.val la0.val la1.val la2.val er.val C O) 69 (fun _ _ => some 0) env mem m
      | _ => none)
    | none => none)
  | _, _, _ => none
noncomputable def L_rel : FuncId → Nat → Option LoopS := addL L_cr 46 1 relLp
theorem known_relL : Known Try.prog (sums K_join) L_rel := by
  refine known_addL 0 known_join (by kernel_rfl) (codeOk_of fun env mem m x h => ?_)
  unfold relLp at h
  have hlen : (loopList Try.prog 46).length = 1 := by kernel_rfl
  split at h
  · split at h
    · split at h
      · exact ⟨_, fam_ok (bodyOf_ok plainN known_join (by omega)) (rel_rounds _ _ _ _ _ _ _ _ _ _ _ _ _ _ _), h⟩
      · cases h
    · cases h
  · cases h
noncomputable def release_tpl : Tpl := ⟨[.one (.ptr 0 0)], [(0, .blk 66 [(3, .int .i64), (4, .int .i64), (5, .int .i64), (6, .int .i64), (7, .int .i64), (8, .int .i64), (9, .int .i64), (10, .int .i64), (11, .int .i64), (12, .int .i64), (13, .int .i64), (14, .int .i64), (15, .int .i64), (16, .bool), (17, .int .i64), (18, .bool), (19, .int .i64), (20, .int .i64), (21, .int .i64), (22, .int .i64), (23, .int .i64), (24, .bool), (25, .int .i64), (26, .int .i64), (27, .int .i64), (28, .int .i64), (29, .int .i64), (30, .int .i64), (31, .int .i64), (32, .int .i64), (33, .int .i64), (34, .int .i64), (35, .int .i64), (36, .int .i64), (37, .int .i64), (38, .bool), (39, .int .i64), (40, .bool), (41, .int .i64), (42, .int .i64), (43, .int .i64), (44, .int .i64), (45, .int .i64), (46, .bool), (47, .int .i64), (48, .int .i64), (49, .bool), (50, .wh 1), (51, .bool), (52, .bool), (53, .bool), (54, .bool), (55, .int .i64), (56, .int .i64), (57, .int .i64), (58, .wh 2), (59, .int .i64)]), (1, .row false 32 22 60 [.int .i64, .int .i64, .int .i64, .int .i64, .int .i64, .int .i64, .int .i64, .int .i64, .int .i64, .int .i64, .int .i64, .int .i64, .int .i64, .bool, .int .i64, .bool, .int .i64, .int .i64, .int .i64, .int .i64, .int .i64, .bool]), (2, .row false 32 22 61 [.int .i64, .int .i64, .int .i64, .int .i64, .int .i64, .int .i64, .int .i64, .int .i64, .int .i64, .int .i64, .int .i64, .int .i64, .int .i64, .bool, .int .i64, .bool, .int .i64, .int .i64, .int .i64, .int .i64, .int .i64, .bool])], 62⟩
noncomputable def release_sp : List GK := [.v itemB, .v itemB, .i, .i, .b, .b, .b, .b, .b, .i, .i, .i, .i]
noncomputable def release_44 (l : List GC) (a0 : Int) (a1 : Int) (C : List (List Int)) (O : List (List Int)) : List (List Int) :=
  relL (nrm l) a0 a1 O C
noncomputable def release_needs (l : List GC) (a0 : Int) (a1 : Int) (C : List (List Int)) (O : List (List Int)) : List Prop :=
  [0 ≤ C.length ∧ C.length ≤ 1000 ∧ O.length ≤ 900000, Int.ofNat 0 = 0, Int.ofNat C.length = Int.ofNat C.length, a0 = a0, a1 = a1, relJ (nrm l) a0 a1 O C 0 = O]
theorem release_weak {l : List GC} {a0 : Int} {a1 : Int} {C : List (List Int)} {O : List (List Int)} (hW : ∀ q ∈ ([C.length ≤ 1000, O.length ≤ 900000] : List Prop), q) : ∀ q ∈ (release_needs l a0 a1 C O), q := by
  simp only [List.mem_cons, List.not_mem_nil, or_false, forall_eq_or_imp, forall_eq] at hW
  unfold release_needs
  simp only [List.forall_mem_cons, List.not_mem_nil, false_implies, implies_true, and_true]
  exact ⟨⟨Nat.zero_le _, hW⟩, rfl, trivial, trivial, trivial, rfl⟩
set_option maxRecDepth 1000000 in
theorem release_runs (l y : List GC) (a0 a1 : Int) (tr op cl en mo : Bool) (la0 la1 la2 er : Int) (C O : List (List Int)) (hNeeds : ∀ pN ∈ (release_needs l a0 a1 C O), pN) : Runs (runF (sums K_join) L_rel 46) (release_tpl.args (spread release_sp [.v l, .v y, .i a0, .i a1, .b tr, .b op, .b cl, .b en, .b mo, .i la0, .i la1, .i la2, .i er])) (release_tpl.memo (spread release_sp [.v l, .v y, .i a0, .i a1, .b tr, .b op, .b cl, .b en, .b mo, .i la0, .i la1, .i la2, .i er]) [C, O]) release_tpl.n (SV.tup [])
    ([(0,
      Obj.blk 66
        [(3, SC.int IntKind.i64 (SI.v (xi l 0))), (4, SC.int IntKind.i64 (SI.v (xi l 1))), (5, SC.int IntKind.i64 (SI.v (xi l 2))), (6, SC.int IntKind.i64 (SI.v (xi l 3))),
          (7, SC.int IntKind.i64 (SI.v (xi l 4))), (8, SC.int IntKind.i64 (SI.v (xi l 5))), (9, SC.int IntKind.i64 (SI.v (xi l 6))), (10, SC.int IntKind.i64 (SI.v (xi l 7))),
          (11, SC.int IntKind.i64 (SI.v (xi l 8))), (12, SC.int IntKind.i64 (SI.v (xi l 9))), (13, SC.int IntKind.i64 (SI.v (xi l 10))), (14, SC.int IntKind.i64 (SI.v (xi l 11))),
          (15, SC.int IntKind.i64 (SI.v (xi l 12))), (16, SC.bool (SB.v (xb l 13))), (17, SC.int IntKind.i64 (SI.v (xi l 14))), (18, SC.bool (SB.v (xb l 15))), (19, SC.int IntKind.i64 (SI.v (xi l 16))),
          (20, SC.int IntKind.i64 (SI.v (xi l 17))), (21, SC.int IntKind.i64 (SI.v (xi l 18))), (22, SC.int IntKind.i64 (SI.v (xi l 19))), (23, SC.int IntKind.i64 (SI.v (xi l 20))),
          (24, SC.bool (SB.v (xb l 21))), (25, SC.int IntKind.i64 (SI.v (xi y 0))), (26, SC.int IntKind.i64 (SI.v (xi y 1))), (27, SC.int IntKind.i64 (SI.v (xi y 2))),
          (28, SC.int IntKind.i64 (SI.v (xi y 3))), (29, SC.int IntKind.i64 (SI.v (xi y 4))), (30, SC.int IntKind.i64 (SI.v (xi y 5))), (31, SC.int IntKind.i64 (SI.v (xi y 6))),
          (32, SC.int IntKind.i64 (SI.v (xi y 7))), (33, SC.int IntKind.i64 (SI.v (xi y 8))), (34, SC.int IntKind.i64 (SI.v (xi y 9))), (35, SC.int IntKind.i64 (SI.v (xi y 10))),
          (36, SC.int IntKind.i64 (SI.v (xi y 11))), (37, SC.int IntKind.i64 (SI.v (xi y 12))), (38, SC.bool (SB.v (xb y 13))), (39, SC.int IntKind.i64 (SI.v (xi y 14))), (40, SC.bool (SB.v (xb y 15))),
          (41, SC.int IntKind.i64 (SI.v (xi y 16))), (42, SC.int IntKind.i64 (SI.v (xi y 17))), (43, SC.int IntKind.i64 (SI.v (xi y 18))), (44, SC.int IntKind.i64 (SI.v (xi y 19))),
          (45, SC.int IntKind.i64 (SI.v (xi y 20))), (46, SC.bool (SB.v (xb y 21))), (113, SC.int IntKind.i64 (SI.v a0)), (114, SC.int IntKind.i64 (SI.v a1)), (49, SC.bool (SB.v tr)), (197, SC.wh 195),
          (51, SC.bool (SB.v op)), (52, SC.bool (SB.v cl)), (53, SC.bool (SB.v en)), (54, SC.bool (SB.v mo)), (55, SC.int IntKind.i64 (SI.v la0)), (56, SC.int IntKind.i64 (SI.v la1)),
          (57, SC.int IntKind.i64 (SI.v la2)), (124, SC.wh 71), (59, SC.int IntKind.i64 (SI.v er))]),
    (195, Obj.row false 32 22 (RowC.lit 196 [])),
    (1,
      Obj.row false 32 22
        (RowC.lst 60
          [CK.int IntKind.i64, CK.int IntKind.i64, CK.int IntKind.i64, CK.int IntKind.i64, CK.int IntKind.i64, CK.int IntKind.i64, CK.int IntKind.i64, CK.int IntKind.i64, CK.int IntKind.i64,
            CK.int IntKind.i64, CK.int IntKind.i64, CK.int IntKind.i64, CK.int IntKind.i64, CK.bool, CK.int IntKind.i64, CK.bool, CK.int IntKind.i64, CK.int IntKind.i64, CK.int IntKind.i64,
            CK.int IntKind.i64, CK.int IntKind.i64, CK.bool]
          C)),
    (71,
      Obj.row false 32 22
        (RowC.lst 130
          [CK.int IntKind.i64, CK.int IntKind.i64, CK.int IntKind.i64, CK.int IntKind.i64, CK.int IntKind.i64, CK.int IntKind.i64, CK.int IntKind.i64, CK.int IntKind.i64, CK.int IntKind.i64,
            CK.int IntKind.i64, CK.int IntKind.i64, CK.int IntKind.i64, CK.int IntKind.i64, CK.bool, CK.int IntKind.i64, CK.bool, CK.int IntKind.i64, CK.int IntKind.i64, CK.int IntKind.i64,
            CK.int IntKind.i64, CK.int IntKind.i64, CK.bool]
          (release_44 l a0 a1 C O)))]) :=
  Runs.of1 (ps := (release_needs l a0 a1 C O)) (by kernel_rfl) hNeeds
noncomputable def release_out : List Gm → Lss → Option CRes
  | [.v l, .v y, .i a0, .i a1, .b tr, .b op, .b cl, .b en, .b mo, .i la0, .i la1, .i la2, .i er], [C, O] => some ⟨SV.tup [],
    [(0,
      Obj.blk 66
        [(3, SC.int IntKind.i64 (SI.v (xi l 0))), (4, SC.int IntKind.i64 (SI.v (xi l 1))), (5, SC.int IntKind.i64 (SI.v (xi l 2))), (6, SC.int IntKind.i64 (SI.v (xi l 3))),
          (7, SC.int IntKind.i64 (SI.v (xi l 4))), (8, SC.int IntKind.i64 (SI.v (xi l 5))), (9, SC.int IntKind.i64 (SI.v (xi l 6))), (10, SC.int IntKind.i64 (SI.v (xi l 7))),
          (11, SC.int IntKind.i64 (SI.v (xi l 8))), (12, SC.int IntKind.i64 (SI.v (xi l 9))), (13, SC.int IntKind.i64 (SI.v (xi l 10))), (14, SC.int IntKind.i64 (SI.v (xi l 11))),
          (15, SC.int IntKind.i64 (SI.v (xi l 12))), (16, SC.bool (SB.v (xb l 13))), (17, SC.int IntKind.i64 (SI.v (xi l 14))), (18, SC.bool (SB.v (xb l 15))), (19, SC.int IntKind.i64 (SI.v (xi l 16))),
          (20, SC.int IntKind.i64 (SI.v (xi l 17))), (21, SC.int IntKind.i64 (SI.v (xi l 18))), (22, SC.int IntKind.i64 (SI.v (xi l 19))), (23, SC.int IntKind.i64 (SI.v (xi l 20))),
          (24, SC.bool (SB.v (xb l 21))), (25, SC.int IntKind.i64 (SI.v (xi y 0))), (26, SC.int IntKind.i64 (SI.v (xi y 1))), (27, SC.int IntKind.i64 (SI.v (xi y 2))),
          (28, SC.int IntKind.i64 (SI.v (xi y 3))), (29, SC.int IntKind.i64 (SI.v (xi y 4))), (30, SC.int IntKind.i64 (SI.v (xi y 5))), (31, SC.int IntKind.i64 (SI.v (xi y 6))),
          (32, SC.int IntKind.i64 (SI.v (xi y 7))), (33, SC.int IntKind.i64 (SI.v (xi y 8))), (34, SC.int IntKind.i64 (SI.v (xi y 9))), (35, SC.int IntKind.i64 (SI.v (xi y 10))),
          (36, SC.int IntKind.i64 (SI.v (xi y 11))), (37, SC.int IntKind.i64 (SI.v (xi y 12))), (38, SC.bool (SB.v (xb y 13))), (39, SC.int IntKind.i64 (SI.v (xi y 14))), (40, SC.bool (SB.v (xb y 15))),
          (41, SC.int IntKind.i64 (SI.v (xi y 16))), (42, SC.int IntKind.i64 (SI.v (xi y 17))), (43, SC.int IntKind.i64 (SI.v (xi y 18))), (44, SC.int IntKind.i64 (SI.v (xi y 19))),
          (45, SC.int IntKind.i64 (SI.v (xi y 20))), (46, SC.bool (SB.v (xb y 21))), (113, SC.int IntKind.i64 (SI.v a0)), (114, SC.int IntKind.i64 (SI.v a1)), (49, SC.bool (SB.v tr)), (197, SC.wh 195),
          (51, SC.bool (SB.v op)), (52, SC.bool (SB.v cl)), (53, SC.bool (SB.v en)), (54, SC.bool (SB.v mo)), (55, SC.int IntKind.i64 (SI.v la0)), (56, SC.int IntKind.i64 (SI.v la1)),
          (57, SC.int IntKind.i64 (SI.v la2)), (124, SC.wh 71), (59, SC.int IntKind.i64 (SI.v er))]),
    (195, Obj.row false 32 22 (RowC.lit 196 [])),
    (1,
      Obj.row false 32 22
        (RowC.lst 60
          [CK.int IntKind.i64, CK.int IntKind.i64, CK.int IntKind.i64, CK.int IntKind.i64, CK.int IntKind.i64, CK.int IntKind.i64, CK.int IntKind.i64, CK.int IntKind.i64, CK.int IntKind.i64,
            CK.int IntKind.i64, CK.int IntKind.i64, CK.int IntKind.i64, CK.int IntKind.i64, CK.bool, CK.int IntKind.i64, CK.bool, CK.int IntKind.i64, CK.int IntKind.i64, CK.int IntKind.i64,
            CK.int IntKind.i64, CK.int IntKind.i64, CK.bool]
          C)),
    (71,
      Obj.row false 32 22
        (RowC.lst 130
          [CK.int IntKind.i64, CK.int IntKind.i64, CK.int IntKind.i64, CK.int IntKind.i64, CK.int IntKind.i64, CK.int IntKind.i64, CK.int IntKind.i64, CK.int IntKind.i64, CK.int IntKind.i64,
            CK.int IntKind.i64, CK.int IntKind.i64, CK.int IntKind.i64, CK.int IntKind.i64, CK.bool, CK.int IntKind.i64, CK.bool, CK.int IntKind.i64, CK.int IntKind.i64, CK.int IntKind.i64,
            CK.int IntKind.i64, CK.int IntKind.i64, CK.bool]
          (release_44 l a0 a1 C O)))],
    [C.length ≤ 1000, O.length ≤ 900000], [], 198⟩
  | _, _ => none
theorem release_ok : FOk Try.prog 46 (tplG release_sp release_tpl release_out) := by
  refine tplG_ok (runF_ok known_relL 46) fun ps ls r hr hn _ => ?_
  unfold release_out at hr
  split at hr
  · cases hr; exact ⟨_, release_runs _ _ _ _ _ _ _ _ _ _ _ _ _ _ _ (release_weak (by exact hn)), fun _ => rfl⟩
  · cases hr
noncomputable def K_release : List (Nat × Summ) := (46, tplG release_sp release_tpl release_out) :: K_join
theorem known_release : Known Try.prog (sums K_release) L_rel := known_cons known_relL release_ok
end Go.Proofs.Ytmbfbhimdkjkoaa
