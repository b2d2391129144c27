/-
  CUTTER: the law CutterPrefix. Conditions: none.
-/
import Derived.Test.YtmbfbhimdkjkoaaS1
set_option linter.all false
namespace Go.Proofs.Ytmbfbhimdkjkoaa
open Go.SX Go.RowKit
/-- Two filters, one of which stops at k. -/
structure PS where
  i : Nat
  s : St
  t : St
  R : List (List Int)
  Q : List (List Int)
  bad : Bool
noncomputable def pfA (X : List (List Int)) (a : PS) : PS := ⟨a.i + 1, pushS (ofRow (X.getD a.i [])) a.s, pushS (ofRow (X.getD a.i [])) a.t, a.R ++ pushO (ofRow (X.getD a.i [])) a.s, a.Q ++ pushO (ofRow (X.getD a.i [])) a.t, a.bad || pushE (ofRow (X.getD a.i [])) a.s != 0⟩
noncomputable def pfB (X : List (List Int)) (a : PS) : PS := ⟨a.i + 1, pushS (ofRow (X.getD a.i [])) a.s, a.t, a.R ++ pushO (ofRow (X.getD a.i [])) a.s, a.Q, a.bad || pushE (ofRow (X.getD a.i [])) a.s != 0⟩
noncomputable def pfN (X : List (List Int)) (k : Int) : Nat → PS → PS
  | 0, a => a
  | n + 1, a => pfN X k n (bif decide (Int.ofNat a.i < k) then pfA X a else pfB X a)
noncomputable def pfG (k : Nat) : Nat := 1000000100 + k
noncomputable def pfK (k : Nat) : Nat := 1000000200 + k
noncomputable def pfH (k : Nat) : Nat := 3700 + k
noncomputable def pfI (k : Nat) : Nat := 3800 + k
noncomputable def pfF (X : List (List Int)) (k : Int) : Fam PS PS where
  k := 600
  E a := [(12, ent 1000000000 (.one (I (Int.ofNat a.i)))), (11, ent 1000000001 (.one (B a.bad))), (10, ent 1000000002 (.one (.wh 3502))), (9, ent 1000000003 (.one (.wh 3501))), (8, ent 2369 (.one (.ptr 2301 0))), (7, ent 2368 (.one (.ptr 2232 0))), (6, ent 2229 (.one (I k))), (5, ent 2209 (.one (.wh 2203)))]
  M a := [(2232, .blk 66 (stCells pfG a.s 3510 3511)), rowI 3510 1000000010 a.s.C, rowI 3511 1000000011 [], (2301, .blk 66 (stCells pfK a.t 3520 3521)), rowI 3520 1000000012 a.t.C, rowI 3521 1000000013 [], rowI 3501 1000000014 a.R, rowI 3502 1000000015 a.Q, rowI 2203 2205 X]
  out t := .leaf (.exit 0) [(11, ent 3601 (.one (B t.bad))), (10, ent 3602 (.one (.wh 3502))), (9, ent 3603 (.one (.wh 3501))), (8, ent 2369 (.one (.ptr 2301 0))), (7, ent 2368 (.one (.ptr 2232 0))), (6, ent 2229 (.one (I k))), (5, ent 2209 (.one (.wh 2203)))] [(2232, .blk 66 (stCells pfH t.s 3510 3511)), rowI 3510 3610 t.s.C, rowI 3511 3611 [], (2301, .blk 66 (stCells pfI t.t 3520 3521)), rowI 3520 3612 t.t.C, rowI 3521 3613 [], rowI 3501 3614 t.R, rowI 3502 3615 t.Q, rowI 2203 2205 X]
  fin a := pfN X k (X.length - a.i) a
  next a i := match i with
    | 0 => pfA X a
    | _ => pfB X a
  J a := a.i ≤ X.length ∧ X.length ≤ 1000 ∧ a.s.C.length ≤ 8 ∧ a.t.C.length ≤ 8 ∧ a.R.length ≤ 11 * a.i ∧ a.Q.length ≤ 11 * a.i
  μ a := X.length - a.i

noncomputable def pf_s0 (X : List (List Int)) (a : PS) : Prop :=
  decide (Int.ofNat a.i < Int.ofNat X.length) = true
noncomputable def pf_s1 (X : List (List Int)) (a : PS) : List (List Int) :=
  push_1 (ofRow (X.getD (Int.ofNat a.i).toNat [])) (nrm a.s.l) (nrm a.s.y) a.s.a0 a.s.a1 a.s.tr a.s.op a.s.cl a.s.en a.s.mo a.s.la0 a.s.la1 a.s.la2 a.s.er a.s.C []
noncomputable def pf_s2 (X : List (List Int)) (a : PS) : List (List Int) :=
  push_1 (ofRow (X.getD (Int.ofNat a.i).toNat [])) (nrm a.t.l) (nrm a.t.y) a.t.a0 a.t.a1 a.t.tr a.t.op a.t.cl a.t.en a.t.mo a.t.la0 a.t.la1 a.t.la2 a.t.er a.t.C []
noncomputable def pf_s3 (X : List (List Int)) (a : PS) : Bool :=
  a.bad || push_0 (ofRow (X.getD (Int.ofNat a.i).toNat [])) (nrm a.s.l) (nrm a.s.y) a.s.a0 a.s.a1 a.s.tr a.s.op a.s.cl a.s.en a.s.mo a.s.la0 a.s.la1 a.s.la2 a.s.er a.s.C != 0
noncomputable def pf_s4 (X : List (List Int)) (a : PS) : Int :=
  push_2 (ofRow (X.getD (Int.ofNat a.i).toNat [])) (nrm a.s.l) (nrm a.s.y) a.s.a0 a.s.a1 a.s.tr a.s.op a.s.cl a.s.en a.s.mo a.s.la0 a.s.la1 a.s.la2 a.s.er
noncomputable def pf_s5 (X : List (List Int)) (a : PS) : Int :=
  push_3 (ofRow (X.getD (Int.ofNat a.i).toNat [])) (nrm a.s.l) (nrm a.s.y) a.s.a0 a.s.a1 a.s.tr a.s.op a.s.cl a.s.en a.s.mo a.s.la0 a.s.la1 a.s.la2 a.s.er
noncomputable def pf_s6 (X : List (List Int)) (a : PS) : Int :=
  push_4 (ofRow (X.getD (Int.ofNat a.i).toNat [])) (nrm a.s.l) (nrm a.s.y) a.s.a0 a.s.a1 a.s.tr a.s.op a.s.cl a.s.en a.s.mo a.s.la0 a.s.la1 a.s.la2 a.s.er
noncomputable def pf_s7 (X : List (List Int)) (a : PS) : Int :=
  push_5 (ofRow (X.getD (Int.ofNat a.i).toNat [])) (nrm a.s.l) (nrm a.s.y) a.s.a0 a.s.a1 a.s.tr a.s.op a.s.cl a.s.en a.s.mo a.s.la0 a.s.la1 a.s.la2 a.s.er
noncomputable def pf_s8 (X : List (List Int)) (a : PS) : Int :=
  push_6 (ofRow (X.getD (Int.ofNat a.i).toNat [])) (nrm a.s.l) (nrm a.s.y) a.s.a0 a.s.a1 a.s.tr a.s.op a.s.cl a.s.en a.s.mo a.s.la0 a.s.la1 a.s.la2 a.s.er
noncomputable def pf_s9 (X : List (List Int)) (a : PS) : Int :=
  push_7 (ofRow (X.getD (Int.ofNat a.i).toNat [])) (nrm a.s.l) (nrm a.s.y) a.s.a0 a.s.a1 a.s.tr a.s.op a.s.cl a.s.en a.s.mo a.s.la0 a.s.la1 a.s.la2 a.s.er
noncomputable def pf_s10 (X : List (List Int)) (a : PS) : Int :=
  push_8 (ofRow (X.getD (Int.ofNat a.i).toNat [])) (nrm a.s.l) (nrm a.s.y) a.s.a0 a.s.a1 a.s.tr a.s.op a.s.cl a.s.en a.s.mo a.s.la0 a.s.la1 a.s.la2 a.s.er
noncomputable def pf_s11 (X : List (List Int)) (a : PS) : Int :=
  push_9 (ofRow (X.getD (Int.ofNat a.i).toNat [])) (nrm a.s.l) (nrm a.s.y) a.s.a0 a.s.a1 a.s.tr a.s.op a.s.cl a.s.en a.s.mo a.s.la0 a.s.la1 a.s.la2 a.s.er
noncomputable def pf_s12 (X : List (List Int)) (a : PS) : Int :=
  push_10 (ofRow (X.getD (Int.ofNat a.i).toNat [])) (nrm a.s.l) (nrm a.s.y) a.s.a0 a.s.a1 a.s.tr a.s.op a.s.cl a.s.en a.s.mo a.s.la0 a.s.la1 a.s.la2 a.s.er
noncomputable def pf_s13 (X : List (List Int)) (a : PS) : Int :=
  push_11 (ofRow (X.getD (Int.ofNat a.i).toNat [])) (nrm a.s.l) (nrm a.s.y) a.s.a0 a.s.a1 a.s.tr a.s.op a.s.cl a.s.en a.s.mo a.s.la0 a.s.la1 a.s.la2 a.s.er
noncomputable def pf_s14 (X : List (List Int)) (a : PS) : Int :=
  push_12 (ofRow (X.getD (Int.ofNat a.i).toNat [])) (nrm a.s.l) (nrm a.s.y) a.s.a0 a.s.a1 a.s.tr a.s.op a.s.cl a.s.en a.s.mo a.s.la0 a.s.la1 a.s.la2 a.s.er
noncomputable def pf_s15 (X : List (List Int)) (a : PS) : Int :=
  push_13 (ofRow (X.getD (Int.ofNat a.i).toNat [])) (nrm a.s.l) (nrm a.s.y) a.s.a0 a.s.a1 a.s.tr a.s.op a.s.cl a.s.en a.s.mo a.s.la0 a.s.la1 a.s.la2 a.s.er
noncomputable def pf_s16 (X : List (List Int)) (a : PS) : Int :=
  push_14 (ofRow (X.getD (Int.ofNat a.i).toNat [])) (nrm a.s.l) (nrm a.s.y) a.s.a0 a.s.a1 a.s.tr a.s.op a.s.cl a.s.en a.s.mo a.s.la0 a.s.la1 a.s.la2 a.s.er
noncomputable def pf_s17 (X : List (List Int)) (a : PS) : Bool :=
  push_15 (ofRow (X.getD (Int.ofNat a.i).toNat [])) (nrm a.s.l) (nrm a.s.y) a.s.a0 a.s.a1 a.s.tr a.s.op a.s.cl a.s.en a.s.mo a.s.la0 a.s.la1 a.s.la2 a.s.er
noncomputable def pf_s18 (X : List (List Int)) (a : PS) : Int :=
  push_16 (ofRow (X.getD (Int.ofNat a.i).toNat [])) (nrm a.s.l) (nrm a.s.y) a.s.a0 a.s.a1 a.s.tr a.s.op a.s.cl a.s.en a.s.mo a.s.la0 a.s.la1 a.s.la2 a.s.er
noncomputable def pf_s19 (X : List (List Int)) (a : PS) : Bool :=
  push_17 (ofRow (X.getD (Int.ofNat a.i).toNat [])) (nrm a.s.l) (nrm a.s.y) a.s.a0 a.s.a1 a.s.tr a.s.op a.s.cl a.s.en a.s.mo a.s.la0 a.s.la1 a.s.la2 a.s.er
noncomputable def pf_s20 (X : List (List Int)) (a : PS) : Int :=
  push_18 (ofRow (X.getD (Int.ofNat a.i).toNat [])) (nrm a.s.l) (nrm a.s.y) a.s.a0 a.s.a1 a.s.tr a.s.op a.s.cl a.s.en a.s.mo a.s.la0 a.s.la1 a.s.la2 a.s.er
noncomputable def pf_s21 (X : List (List Int)) (a : PS) : Int :=
  push_19 (ofRow (X.getD (Int.ofNat a.i).toNat [])) (nrm a.s.l) (nrm a.s.y) a.s.a0 a.s.a1 a.s.tr a.s.op a.s.cl a.s.en a.s.mo a.s.la0 a.s.la1 a.s.la2 a.s.er
noncomputable def pf_s22 (X : List (List Int)) (a : PS) : Int :=
  push_20 (ofRow (X.getD (Int.ofNat a.i).toNat [])) (nrm a.s.l) (nrm a.s.y) a.s.a0 a.s.a1 a.s.tr a.s.op a.s.cl a.s.en a.s.mo a.s.la0 a.s.la1 a.s.la2 a.s.er
noncomputable def pf_s23 (X : List (List Int)) (a : PS) : Int :=
  push_21 (ofRow (X.getD (Int.ofNat a.i).toNat [])) (nrm a.s.l) (nrm a.s.y) a.s.a0 a.s.a1 a.s.tr a.s.op a.s.cl a.s.en a.s.mo a.s.la0 a.s.la1 a.s.la2 a.s.er
noncomputable def pf_s24 (X : List (List Int)) (a : PS) : Int :=
  push_22 (ofRow (X.getD (Int.ofNat a.i).toNat [])) (nrm a.s.l) (nrm a.s.y) a.s.a0 a.s.a1 a.s.tr a.s.op a.s.cl a.s.en a.s.mo a.s.la0 a.s.la1 a.s.la2 a.s.er
noncomputable def pf_s25 (X : List (List Int)) (a : PS) : Bool :=
  push_23 (ofRow (X.getD (Int.ofNat a.i).toNat [])) (nrm a.s.l) (nrm a.s.y) a.s.a0 a.s.a1 a.s.tr a.s.op a.s.cl a.s.en a.s.mo a.s.la0 a.s.la1 a.s.la2 a.s.er
noncomputable def pf_s26 (X : List (List Int)) (a : PS) : Int :=
  push_24 (ofRow (X.getD (Int.ofNat a.i).toNat [])) (nrm a.s.l) (nrm a.s.y) a.s.a0 a.s.a1 a.s.tr a.s.op a.s.cl a.s.en a.s.mo a.s.la0 a.s.la1 a.s.la2 a.s.er
noncomputable def pf_s27 (X : List (List Int)) (a : PS) : Int :=
  push_25 (ofRow (X.getD (Int.ofNat a.i).toNat [])) (nrm a.s.l) (nrm a.s.y) a.s.a0 a.s.a1 a.s.tr a.s.op a.s.cl a.s.en a.s.mo a.s.la0 a.s.la1 a.s.la2 a.s.er
noncomputable def pf_s28 (X : List (List Int)) (a : PS) : Int :=
  push_26 (ofRow (X.getD (Int.ofNat a.i).toNat [])) (nrm a.s.l) (nrm a.s.y) a.s.a0 a.s.a1 a.s.tr a.s.op a.s.cl a.s.en a.s.mo a.s.la0 a.s.la1 a.s.la2 a.s.er
noncomputable def pf_s29 (X : List (List Int)) (a : PS) : Int :=
  push_27 (ofRow (X.getD (Int.ofNat a.i).toNat [])) (nrm a.s.l) (nrm a.s.y) a.s.a0 a.s.a1 a.s.tr a.s.op a.s.cl a.s.en a.s.mo a.s.la0 a.s.la1 a.s.la2 a.s.er
noncomputable def pf_s30 (X : List (List Int)) (a : PS) : Int :=
  push_28 (ofRow (X.getD (Int.ofNat a.i).toNat [])) (nrm a.s.l) (nrm a.s.y) a.s.a0 a.s.a1 a.s.tr a.s.op a.s.cl a.s.en a.s.mo a.s.la0 a.s.la1 a.s.la2 a.s.er
noncomputable def pf_s31 (X : List (List Int)) (a : PS) : Int :=
  push_29 (ofRow (X.getD (Int.ofNat a.i).toNat [])) (nrm a.s.l) (nrm a.s.y) a.s.a0 a.s.a1 a.s.tr a.s.op a.s.cl a.s.en a.s.mo a.s.la0 a.s.la1 a.s.la2 a.s.er
noncomputable def pf_s32 (X : List (List Int)) (a : PS) : Int :=
  push_30 (ofRow (X.getD (Int.ofNat a.i).toNat [])) (nrm a.s.l) (nrm a.s.y) a.s.a0 a.s.a1 a.s.tr a.s.op a.s.cl a.s.en a.s.mo a.s.la0 a.s.la1 a.s.la2 a.s.er
noncomputable def pf_s33 (X : List (List Int)) (a : PS) : Int :=
  push_31 (ofRow (X.getD (Int.ofNat a.i).toNat [])) (nrm a.s.l) (nrm a.s.y) a.s.a0 a.s.a1 a.s.tr a.s.op a.s.cl a.s.en a.s.mo a.s.la0 a.s.la1 a.s.la2 a.s.er
noncomputable def pf_s34 (X : List (List Int)) (a : PS) : Int :=
  push_32 (ofRow (X.getD (Int.ofNat a.i).toNat [])) (nrm a.s.l) (nrm a.s.y) a.s.a0 a.s.a1 a.s.tr a.s.op a.s.cl a.s.en a.s.mo a.s.la0 a.s.la1 a.s.la2 a.s.er
noncomputable def pf_s35 (X : List (List Int)) (a : PS) : Int :=
  push_33 (ofRow (X.getD (Int.ofNat a.i).toNat [])) (nrm a.s.l) (nrm a.s.y) a.s.a0 a.s.a1 a.s.tr a.s.op a.s.cl a.s.en a.s.mo a.s.la0 a.s.la1 a.s.la2 a.s.er
noncomputable def pf_s36 (X : List (List Int)) (a : PS) : Int :=
  push_34 (ofRow (X.getD (Int.ofNat a.i).toNat [])) (nrm a.s.l) (nrm a.s.y) a.s.a0 a.s.a1 a.s.tr a.s.op a.s.cl a.s.en a.s.mo a.s.la0 a.s.la1 a.s.la2 a.s.er
noncomputable def pf_s37 (X : List (List Int)) (a : PS) : Int :=
  push_35 (ofRow (X.getD (Int.ofNat a.i).toNat [])) (nrm a.s.l) (nrm a.s.y) a.s.a0 a.s.a1 a.s.tr a.s.op a.s.cl a.s.en a.s.mo a.s.la0 a.s.la1 a.s.la2 a.s.er
noncomputable def pf_s38 (X : List (List Int)) (a : PS) : Int :=
  push_36 (ofRow (X.getD (Int.ofNat a.i).toNat [])) (nrm a.s.l) (nrm a.s.y) a.s.a0 a.s.a1 a.s.tr a.s.op a.s.cl a.s.en a.s.mo a.s.la0 a.s.la1 a.s.la2 a.s.er
noncomputable def pf_s39 (X : List (List Int)) (a : PS) : Bool :=
  push_37 (ofRow (X.getD (Int.ofNat a.i).toNat [])) (nrm a.s.l) (nrm a.s.y) a.s.a0 a.s.a1 a.s.tr a.s.op a.s.cl a.s.en a.s.mo a.s.la0 a.s.la1 a.s.la2 a.s.er
noncomputable def pf_s40 (X : List (List Int)) (a : PS) : Int :=
  push_38 (ofRow (X.getD (Int.ofNat a.i).toNat [])) (nrm a.s.l) (nrm a.s.y) a.s.a0 a.s.a1 a.s.tr a.s.op a.s.cl a.s.en a.s.mo a.s.la0 a.s.la1 a.s.la2 a.s.er
noncomputable def pf_s41 (X : List (List Int)) (a : PS) : Bool :=
  push_39 (ofRow (X.getD (Int.ofNat a.i).toNat [])) (nrm a.s.l) (nrm a.s.y) a.s.a0 a.s.a1 a.s.tr a.s.op a.s.cl a.s.en a.s.mo a.s.la0 a.s.la1 a.s.la2 a.s.er
noncomputable def pf_s42 (X : List (List Int)) (a : PS) : Int :=
  push_40 (ofRow (X.getD (Int.ofNat a.i).toNat [])) (nrm a.s.l) (nrm a.s.y) a.s.a0 a.s.a1 a.s.tr a.s.op a.s.cl a.s.en a.s.mo a.s.la0 a.s.la1 a.s.la2 a.s.er
noncomputable def pf_s43 (X : List (List Int)) (a : PS) : Int :=
  push_41 (ofRow (X.getD (Int.ofNat a.i).toNat [])) (nrm a.s.l) (nrm a.s.y) a.s.a0 a.s.a1 a.s.tr a.s.op a.s.cl a.s.en a.s.mo a.s.la0 a.s.la1 a.s.la2 a.s.er
noncomputable def pf_s44 (X : List (List Int)) (a : PS) : Int :=
  push_42 (ofRow (X.getD (Int.ofNat a.i).toNat [])) (nrm a.s.l) (nrm a.s.y) a.s.a0 a.s.a1 a.s.tr a.s.op a.s.cl a.s.en a.s.mo a.s.la0 a.s.la1 a.s.la2 a.s.er
noncomputable def pf_s45 (X : List (List Int)) (a : PS) : Int :=
  push_43 (ofRow (X.getD (Int.ofNat a.i).toNat [])) (nrm a.s.l) (nrm a.s.y) a.s.a0 a.s.a1 a.s.tr a.s.op a.s.cl a.s.en a.s.mo a.s.la0 a.s.la1 a.s.la2 a.s.er
noncomputable def pf_s46 (X : List (List Int)) (a : PS) : Int :=
  push_44 (ofRow (X.getD (Int.ofNat a.i).toNat [])) (nrm a.s.l) (nrm a.s.y) a.s.a0 a.s.a1 a.s.tr a.s.op a.s.cl a.s.en a.s.mo a.s.la0 a.s.la1 a.s.la2 a.s.er
noncomputable def pf_s47 (X : List (List Int)) (a : PS) : Bool :=
  push_45 (ofRow (X.getD (Int.ofNat a.i).toNat [])) (nrm a.s.l) (nrm a.s.y) a.s.a0 a.s.a1 a.s.tr a.s.op a.s.cl a.s.en a.s.mo a.s.la0 a.s.la1 a.s.la2 a.s.er
noncomputable def pf_s48 (X : List (List Int)) (a : PS) : Int :=
  push_46 (ofRow (X.getD (Int.ofNat a.i).toNat [])) (nrm a.s.l) (nrm a.s.y) a.s.a0 a.s.a1 a.s.tr a.s.op a.s.cl a.s.en a.s.mo a.s.la0 a.s.la1 a.s.la2 a.s.er
noncomputable def pf_s49 (X : List (List Int)) (a : PS) : Int :=
  push_47 (ofRow (X.getD (Int.ofNat a.i).toNat [])) (nrm a.s.l) (nrm a.s.y) a.s.a0 a.s.a1 a.s.tr a.s.op a.s.cl a.s.en a.s.mo a.s.la0 a.s.la1 a.s.la2 a.s.er
noncomputable def pf_s50 (X : List (List Int)) (a : PS) : Bool :=
  push_48 (ofRow (X.getD (Int.ofNat a.i).toNat [])) (nrm a.s.l) (nrm a.s.y) a.s.a0 a.s.a1 a.s.tr a.s.op a.s.cl a.s.en a.s.mo a.s.la0 a.s.la1 a.s.la2 a.s.er
noncomputable def pf_s51 (X : List (List Int)) (a : PS) : Bool :=
  push_49 (ofRow (X.getD (Int.ofNat a.i).toNat [])) (nrm a.s.l) (nrm a.s.y) a.s.a0 a.s.a1 a.s.tr a.s.op a.s.cl a.s.en a.s.mo a.s.la0 a.s.la1 a.s.la2 a.s.er
noncomputable def pf_s52 (X : List (List Int)) (a : PS) : Bool :=
  push_50 (ofRow (X.getD (Int.ofNat a.i).toNat [])) a.s.cl a.s.en a.s.mo a.s.la0 a.s.la1 a.s.la2 a.s.er
noncomputable def pf_s53 (X : List (List Int)) (a : PS) : Bool :=
  push_51 (ofRow (X.getD (Int.ofNat a.i).toNat [])) a.s.cl a.s.en a.s.mo a.s.la0 a.s.la1 a.s.la2 a.s.er
noncomputable def pf_s54 (X : List (List Int)) (a : PS) : Int :=
  push_52 (ofRow (X.getD (Int.ofNat a.i).toNat [])) a.s.cl a.s.en a.s.mo a.s.la0 a.s.la1 a.s.la2 a.s.er
noncomputable def pf_s55 (X : List (List Int)) (a : PS) : Int :=
  push_53 (ofRow (X.getD (Int.ofNat a.i).toNat [])) a.s.cl a.s.en a.s.mo a.s.la0 a.s.la1 a.s.la2 a.s.er
noncomputable def pf_s56 (X : List (List Int)) (a : PS) : Int :=
  push_54 (ofRow (X.getD (Int.ofNat a.i).toNat [])) a.s.cl a.s.en a.s.mo a.s.la0 a.s.la1 a.s.la2 a.s.er
noncomputable def pf_s57 (X : List (List Int)) (a : PS) : Int :=
  push_55 (ofRow (X.getD (Int.ofNat a.i).toNat [])) (nrm a.s.l) (nrm a.s.y) a.s.a0 a.s.a1 a.s.tr a.s.op a.s.cl a.s.en a.s.mo a.s.la0 a.s.la1 a.s.la2 a.s.er a.s.C
noncomputable def pf_s58 (X : List (List Int)) (a : PS) : List (List Int) :=
  push_56 (ofRow (X.getD (Int.ofNat a.i).toNat [])) (nrm a.s.l) (nrm a.s.y) a.s.a0 a.s.a1 a.s.tr a.s.op a.s.cl a.s.en a.s.mo a.s.la0 a.s.la1 a.s.la2 a.s.er a.s.C
noncomputable def pf_s59 (X : List (List Int)) (a : PS) : List (List Int) :=
  a.R ++ pf_s1 X a
noncomputable def pf_needs (X : List (List Int)) (k : Int) (a : PS) : List Prop :=
  [pf_s0 X a →
     0 ≤ Int.ofNat a.i ∧
     (Int.ofNat a.i).toNat < X.length ∧
     (Int.ofNat a.i).toNat < X.length ∧
     a.s.C.length ≤ 1000 ∧
     0 ≤ 800000 ∧
     (a.R.length + (pf_s1 X a).length) * 176 ≤ 140737488355328 ∧
     a.R.length + (pf_s1 X a).length ≤ 9223372036854775807 ∧
     (decide (Int.ofNat a.i < k) = true →
     0 ≤ Int.ofNat a.i ∧
     (Int.ofNat a.i).toNat < X.length ∧
     (Int.ofNat a.i).toNat < X.length ∧
     a.t.C.length ≤ 1000 ∧ 0 ≤ 800000 ∧ (a.Q.length + (pf_s2 X a).length) * 176 ≤ 140737488355328 ∧ a.Q.length + (pf_s2 X a).length ≤ 9223372036854775807),
    pf_s0 X a →
     (decide (Int.ofNat a.i < k) = true →
     (((pfF X k).next a 0).i ≤ X.length ∧
     X.length ≤ 1000 ∧
     ((pfF X k).next a 0).s.C.length ≤ 8 ∧
     ((pfF X k).next a 0).t.C.length ≤ 8 ∧ ((pfF X k).next a 0).R.length ≤ 11 * ((pfF X k).next a 0).i ∧ ((pfF X k).next a 0).Q.length ≤ 11 * ((pfF X k).next a 0).i) ∧
     (pfF X k).μ ((pfF X k).next a 0) < (pfF X k).μ a ∧
     (pfF X k).fin ((pfF X k).next a 0) = (pfF X k).fin a ∧
     Int.ofNat ((pfF X k).next a 0).i = IntKind.i64.wrap (Int.ofNat a.i + 1) ∧
     ((pfF X k).next a 0).bad = pf_s3 X a ∧
     xi ((pfF X k).next a 0).s.l 0 = pf_s4 X a ∧
     xi ((pfF X k).next a 0).s.l 1 = pf_s5 X a ∧
     xi ((pfF X k).next a 0).s.l 2 = pf_s6 X a ∧
     xi ((pfF X k).next a 0).s.l 3 = pf_s7 X a ∧
     xi ((pfF X k).next a 0).s.l 4 = pf_s8 X a ∧
     xi ((pfF X k).next a 0).s.l 5 = pf_s9 X a ∧
     xi ((pfF X k).next a 0).s.l 6 = pf_s10 X a ∧
     xi ((pfF X k).next a 0).s.l 7 = pf_s11 X a ∧
     xi ((pfF X k).next a 0).s.l 8 = pf_s12 X a ∧
     xi ((pfF X k).next a 0).s.l 9 = pf_s13 X a ∧
     xi ((pfF X k).next a 0).s.l 10 = pf_s14 X a ∧
     xi ((pfF X k).next a 0).s.l 11 = pf_s15 X a ∧
     xi ((pfF X k).next a 0).s.l 12 = pf_s16 X a ∧
     xb ((pfF X k).next a 0).s.l 13 = pf_s17 X a ∧
     xi ((pfF X k).next a 0).s.l 14 = pf_s18 X a ∧
     xb ((pfF X k).next a 0).s.l 15 = pf_s19 X a ∧
     xi ((pfF X k).next a 0).s.l 16 = pf_s20 X a ∧
     xi ((pfF X k).next a 0).s.l 17 = pf_s21 X a ∧
     xi ((pfF X k).next a 0).s.l 18 = pf_s22 X a ∧
     xi ((pfF X k).next a 0).s.l 19 = pf_s23 X a ∧
     xi ((pfF X k).next a 0).s.l 20 = pf_s24 X a ∧
     xb ((pfF X k).next a 0).s.l 21 = pf_s25 X a ∧
     xi ((pfF X k).next a 0).s.y 0 = pf_s26 X a ∧
     xi ((pfF X k).next a 0).s.y 1 = pf_s27 X a ∧
     xi ((pfF X k).next a 0).s.y 2 = pf_s28 X a ∧
     xi ((pfF X k).next a 0).s.y 3 = pf_s29 X a ∧
     xi ((pfF X k).next a 0).s.y 4 = pf_s30 X a ∧
     xi ((pfF X k).next a 0).s.y 5 = pf_s31 X a ∧
     xi ((pfF X k).next a 0).s.y 6 = pf_s32 X a ∧
     xi ((pfF X k).next a 0).s.y 7 = pf_s33 X a ∧
     xi ((pfF X k).next a 0).s.y 8 = pf_s34 X a ∧
     xi ((pfF X k).next a 0).s.y 9 = pf_s35 X a ∧
     xi ((pfF X k).next a 0).s.y 10 = pf_s36 X a ∧
     xi ((pfF X k).next a 0).s.y 11 = pf_s37 X a ∧
     xi ((pfF X k).next a 0).s.y 12 = pf_s38 X a ∧
     xb ((pfF X k).next a 0).s.y 13 = pf_s39 X a ∧
     xi ((pfF X k).next a 0).s.y 14 = pf_s40 X a ∧
     xb ((pfF X k).next a 0).s.y 15 = pf_s41 X a ∧
     xi ((pfF X k).next a 0).s.y 16 = pf_s42 X a ∧
     xi ((pfF X k).next a 0).s.y 17 = pf_s43 X a ∧
     xi ((pfF X k).next a 0).s.y 18 = pf_s44 X a ∧
     xi ((pfF X k).next a 0).s.y 19 = pf_s45 X a ∧
     xi ((pfF X k).next a 0).s.y 20 = pf_s46 X a ∧
     xb ((pfF X k).next a 0).s.y 21 = pf_s47 X a ∧
     ((pfF X k).next a 0).s.a0 = pf_s48 X a ∧
     ((pfF X k).next a 0).s.a1 = pf_s49 X a ∧
     ((pfF X k).next a 0).s.tr = pf_s50 X a ∧
     ((pfF X k).next a 0).s.op = pf_s51 X a ∧
     ((pfF X k).next a 0).s.cl = a.s.cl ∧
     ((pfF X k).next a 0).s.en = pf_s52 X a ∧
     ((pfF X k).next a 0).s.mo = pf_s53 X a ∧
     ((pfF X k).next a 0).s.la0 = pf_s54 X a ∧
     ((pfF X k).next a 0).s.la1 = pf_s55 X a ∧
     ((pfF X k).next a 0).s.la2 = pf_s56 X a ∧
     ((pfF X k).next a 0).s.er = pf_s57 X a ∧
     ((pfF X k).next a 0).s.C = pf_s58 X a ∧
     ([] : List (List Int)) = [] ∧
     xi ((pfF X k).next a 0).t.l 0 =
     push_2 (ofRow (X.getD (Int.ofNat a.i).toNat [])) (nrm a.t.l)
     (nrm a.t.y) a.t.a0 a.t.a1 a.t.tr a.t.op a.t.cl a.t.en a.t.mo
     a.t.la0 a.t.la1 a.t.la2 a.t.er ∧
     xi ((pfF X k).next a 0).t.l 1 =
     push_3 (ofRow (X.getD (Int.ofNat a.i).toNat [])) (nrm a.t.l)
     (nrm a.t.y) a.t.a0 a.t.a1 a.t.tr a.t.op a.t.cl a.t.en a.t.mo
     a.t.la0 a.t.la1 a.t.la2 a.t.er ∧
     xi ((pfF X k).next a 0).t.l 2 =
     push_4 (ofRow (X.getD (Int.ofNat a.i).toNat [])) (nrm a.t.l)
     (nrm a.t.y) a.t.a0 a.t.a1 a.t.tr a.t.op a.t.cl a.t.en
     a.t.mo a.t.la0 a.t.la1 a.t.la2 a.t.er ∧
     xi ((pfF X k).next a 0).t.l 3 =
     push_5 (ofRow (X.getD (Int.ofNat a.i).toNat []))
     (nrm a.t.l) (nrm a.t.y) a.t.a0 a.t.a1 a.t.tr a.t.op
     a.t.cl a.t.en a.t.mo a.t.la0 a.t.la1 a.t.la2 a.t.er ∧
     xi ((pfF X k).next a 0).t.l 4 =
     push_6 (ofRow (X.getD (Int.ofNat a.i).toNat []))
     (nrm a.t.l) (nrm a.t.y) a.t.a0 a.t.a1 a.t.tr a.t.op
     a.t.cl a.t.en a.t.mo a.t.la0 a.t.la1 a.t.la2 a.t.er ∧
     xi ((pfF X k).next a 0).t.l 5 =
     push_7 (ofRow (X.getD (Int.ofNat a.i).toNat []))
     (nrm a.t.l) (nrm a.t.y) a.t.a0 a.t.a1 a.t.tr a.t.op
     a.t.cl a.t.en a.t.mo a.t.la0 a.t.la1 a.t.la2
     a.t.er ∧
     xi ((pfF X k).next a 0).t.l 6 =
     push_8 (ofRow (X.getD (Int.ofNat a.i).toNat []))
     (nrm a.t.l) (nrm a.t.y) a.t.a0 a.t.a1 a.t.tr
     a.t.op a.t.cl a.t.en a.t.mo a.t.la0 a.t.la1
     a.t.la2 a.t.er ∧
     xi ((pfF X k).next a 0).t.l 7 =
     push_9 (ofRow (X.getD (Int.ofNat a.i).toNat []))
     (nrm a.t.l) (nrm a.t.y) a.t.a0 a.t.a1 a.t.tr
     a.t.op a.t.cl a.t.en a.t.mo a.t.la0 a.t.la1
     a.t.la2 a.t.er ∧
     xi ((pfF X k).next a 0).t.l 8 =
     push_10
     (ofRow (X.getD (Int.ofNat a.i).toNat []))
     (nrm a.t.l) (nrm a.t.y) a.t.a0 a.t.a1 a.t.tr
     a.t.op a.t.cl a.t.en a.t.mo a.t.la0 a.t.la1
     a.t.la2 a.t.er ∧
     xi ((pfF X k).next a 0).t.l 9 =
     push_11
     (ofRow (X.getD (Int.ofNat a.i).toNat []))
     (nrm a.t.l) (nrm a.t.y) a.t.a0 a.t.a1 a.t.tr
     a.t.op a.t.cl a.t.en a.t.mo a.t.la0 a.t.la1
     a.t.la2 a.t.er ∧
     xi ((pfF X k).next a 0).t.l 10 =
     push_12
     (ofRow (X.getD (Int.ofNat a.i).toNat []))
     (nrm a.t.l) (nrm a.t.y) a.t.a0 a.t.a1
     a.t.tr a.t.op a.t.cl a.t.en a.t.mo a.t.la0
     a.t.la1 a.t.la2 a.t.er ∧
     xi ((pfF X k).next a 0).t.l 11 =
     push_13
     (ofRow
     (X.getD (Int.ofNat a.i).toNat []))
     (nrm a.t.l) (nrm a.t.y) a.t.a0 a.t.a1
     a.t.tr a.t.op a.t.cl a.t.en a.t.mo
     a.t.la0 a.t.la1 a.t.la2 a.t.er ∧
     xi ((pfF X k).next a 0).t.l 12 =
     push_14
     (ofRow
     (X.getD (Int.ofNat a.i).toNat []))
     (nrm a.t.l) (nrm a.t.y) a.t.a0 a.t.a1
     a.t.tr a.t.op a.t.cl a.t.en a.t.mo
     a.t.la0 a.t.la1 a.t.la2 a.t.er ∧
     xb ((pfF X k).next a 0).t.l 13 =
     push_15
     (ofRow
     (X.getD (Int.ofNat a.i).toNat []))
     (nrm a.t.l) (nrm a.t.y) a.t.a0
     a.t.a1 a.t.tr a.t.op a.t.cl a.t.en
     a.t.mo a.t.la0 a.t.la1 a.t.la2
     a.t.er ∧
     xi ((pfF X k).next a 0).t.l 14 =
     push_16
     (ofRow
     (X.getD (Int.ofNat a.i).toNat
     []))
     (nrm a.t.l) (nrm a.t.y) a.t.a0
     a.t.a1 a.t.tr a.t.op a.t.cl a.t.en
     a.t.mo a.t.la0 a.t.la1 a.t.la2
     a.t.er ∧
     xb ((pfF X k).next a 0).t.l 15 =
     push_17
     (ofRow
     (X.getD (Int.ofNat a.i).toNat
     []))
     (nrm a.t.l) (nrm a.t.y) a.t.a0
     a.t.a1 a.t.tr a.t.op a.t.cl
     a.t.en a.t.mo a.t.la0 a.t.la1
     a.t.la2 a.t.er ∧
     xi ((pfF X k).next a 0).t.l 16 =
     push_18
     (ofRow
     (X.getD
     (Int.ofNat a.i).toNat []))
     (nrm a.t.l) (nrm a.t.y) a.t.a0
     a.t.a1 a.t.tr a.t.op a.t.cl
     a.t.en a.t.mo a.t.la0 a.t.la1
     a.t.la2 a.t.er ∧
     xi ((pfF X k).next a 0).t.l 17 =
     push_19
     (ofRow
     (X.getD
     (Int.ofNat a.i).toNat
     []))
     (nrm a.t.l) (nrm a.t.y)
     a.t.a0 a.t.a1 a.t.tr a.t.op
     a.t.cl a.t.en a.t.mo a.t.la0
     a.t.la1 a.t.la2 a.t.er ∧
     xi ((pfF X k).next a 0).t.l 18 =
     push_20
     (ofRow
     (X.getD
     (Int.ofNat a.i).toNat
     []))
     (nrm a.t.l) (nrm a.t.y)
     a.t.a0 a.t.a1 a.t.tr
     a.t.op a.t.cl a.t.en
     a.t.mo a.t.la0 a.t.la1
     a.t.la2 a.t.er ∧
     xi ((pfF X k).next a 0).t.l
     19 =
     push_21
     (ofRow
     (X.getD
     (Int.ofNat
     a.i).toNat
     []))
     (nrm a.t.l) (nrm a.t.y)
     a.t.a0 a.t.a1 a.t.tr
     a.t.op a.t.cl a.t.en
     a.t.mo a.t.la0 a.t.la1
     a.t.la2 a.t.er ∧
     xi ((pfF X k).next a 0).t.l
     20 =
     push_22
     (ofRow
     (X.getD
     (Int.ofNat
     a.i).toNat
     []))
     (nrm a.t.l)
     (nrm a.t.y) a.t.a0
     a.t.a1 a.t.tr a.t.op
     a.t.cl a.t.en a.t.mo
     a.t.la0 a.t.la1
     a.t.la2 a.t.er ∧
     xb
     ((pfF X k).next a
     0).t.l
     21 =
     push_23
     (ofRow
     (X.getD
     (Int.ofNat
     a.i).toNat
     []))
     (nrm a.t.l)
     (nrm a.t.y) a.t.a0
     a.t.a1 a.t.tr a.t.op
     a.t.cl a.t.en a.t.mo
     a.t.la0 a.t.la1
     a.t.la2 a.t.er ∧
     xi
     ((pfF X k).next a
     0).t.y
     0 =
     push_24
     (ofRow
     (X.getD
     (Int.ofNat
     a.i).toNat
     []))
     (nrm a.t.l)
     (nrm a.t.y) a.t.a0
     a.t.a1 a.t.tr
     a.t.op a.t.cl
     a.t.en a.t.mo
     a.t.la0 a.t.la1
     a.t.la2 a.t.er ∧
     xi
     ((pfF X k).next
     a 0).t.y
     1 =
     push_25
     (ofRow
     (X.getD
     (Int.ofNat
     a.i).toNat
     []))
     (nrm a.t.l)
     (nrm a.t.y)
     a.t.a0 a.t.a1
     a.t.tr a.t.op
     a.t.cl a.t.en
     a.t.mo a.t.la0
     a.t.la1 a.t.la2
     a.t.er ∧
     xi
     ((pfF X
     k).next
     a 0).t.y
     2 =
     push_26
     (ofRow
     (X.getD
     (Int.ofNat
     a.i).toNat
     []))
     (nrm a.t.l)
     (nrm a.t.y)
     a.t.a0 a.t.a1
     a.t.tr a.t.op
     a.t.cl a.t.en
     a.t.mo a.t.la0
     a.t.la1
     a.t.la2
     a.t.er ∧
     xi
     ((pfF X
     k).next
     a
     0).t.y
     3 =
     push_27
     (ofRow
     (X.getD
     (Int.ofNat
     a.i).toNat
     []))
     (nrm a.t.l)
     (nrm a.t.y)
     a.t.a0
     a.t.a1
     a.t.tr
     a.t.op
     a.t.cl
     a.t.en
     a.t.mo
     a.t.la0
     a.t.la1
     a.t.la2
     a.t.er ∧
     xi
     ((pfF X
     k).next
     a
     0).t.y
     4 =
     push_28
     (ofRow
     (X.getD
     (Int.ofNat
     a.i).toNat
     []))
     (nrm
     a.t.l)
     (nrm
     a.t.y)
     a.t.a0
     a.t.a1
     a.t.tr
     a.t.op
     a.t.cl
     a.t.en
     a.t.mo
     a.t.la0
     a.t.la1
     a.t.la2
     a.t.er ∧
     xi
     ((pfF X
     k).next
     a
     0).t.y
     5 =
     push_29
     (ofRow
     (X.getD
     (Int.ofNat
     a.i).toNat
     []))
     (nrm
     a.t.l)
     (nrm
     a.t.y)
     a.t.a0
     a.t.a1
     a.t.tr
     a.t.op
     a.t.cl
     a.t.en
     a.t.mo
     a.t.la0
     a.t.la1
     a.t.la2
     a.t.er ∧
     xi
     ((pfF
     X
     k).next
     a
     0).t.y
     6 =
     push_30
     (ofRow
     (X.getD
     (Int.ofNat
     a.i).toNat
     []))
     (nrm
     a.t.l)
     (nrm
     a.t.y)
     a.t.a0
     a.t.a1
     a.t.tr
     a.t.op
     a.t.cl
     a.t.en
     a.t.mo
     a.t.la0
     a.t.la1
     a.t.la2
     a.t.er ∧
     xi
     ((pfF
     X
     k).next
     a
     0).t.y
     7 =
     push_31
     (ofRow
     (X.getD
     (Int.ofNat
     a.i).toNat
     []))
     (nrm
     a.t.l)
     (nrm
     a.t.y)
     a.t.a0
     a.t.a1
     a.t.tr
     a.t.op
     a.t.cl
     a.t.en
     a.t.mo
     a.t.la0
     a.t.la1
     a.t.la2
     a.t.er ∧
     xi
     ((pfF
     X
     k).next
     a
     0).t.y
     8 =
     push_32
     (ofRow
     (X.getD
     (Int.ofNat
     a.i).toNat
     []))
     (nrm
     a.t.l)
     (nrm
     a.t.y)
     a.t.a0
     a.t.a1
     a.t.tr
     a.t.op
     a.t.cl
     a.t.en
     a.t.mo
     a.t.la0
     a.t.la1
     a.t.la2
     a.t.er ∧
     xi
     ((pfF
     X
     k).next
     a
     0).t.y
     9 =
     push_33
     (ofRow
     (X.getD
     (Int.ofNat
     a.i).toNat
     []))
     (nrm
     a.t.l)
     (nrm
     a.t.y)
     a.t.a0
     a.t.a1
     a.t.tr
     a.t.op
     a.t.cl
     a.t.en
     a.t.mo
     a.t.la0
     a.t.la1
     a.t.la2
     a.t.er ∧
     xi
     ((pfF
     X
     k).next
     a
     0).t.y
     10 =
     push_34
     (ofRow
     (X.getD
     (Int.ofNat
     a.i).toNat
     []))
     (nrm
     a.t.l)
     (nrm
     a.t.y)
     a.t.a0
     a.t.a1
     a.t.tr
     a.t.op
     a.t.cl
     a.t.en
     a.t.mo
     a.t.la0
     a.t.la1
     a.t.la2
     a.t.er ∧
     xi
     ((pfF
     X
     k).next
     a
     0).t.y
     11 =
     push_35
     (ofRow
     (X.getD
     (Int.ofNat
     a.i).toNat
     []))
     (nrm
     a.t.l)
     (nrm
     a.t.y)
     a.t.a0
     a.t.a1
     a.t.tr
     a.t.op
     a.t.cl
     a.t.en
     a.t.mo
     a.t.la0
     a.t.la1
     a.t.la2
     a.t.er ∧
     xi
     ((pfF
     X
     k).next
     a
     0).t.y
     12 =
     push_36
     (ofRow
     (X.getD
     (Int.ofNat
     a.i).toNat
     []))
     (nrm
     a.t.l)
     (nrm
     a.t.y)
     a.t.a0
     a.t.a1
     a.t.tr
     a.t.op
     a.t.cl
     a.t.en
     a.t.mo
     a.t.la0
     a.t.la1
     a.t.la2
     a.t.er ∧
     xb
     ((pfF
     X
     k).next
     a
     0).t.y
     13 =
     push_37
     (ofRow
     (X.getD
     (Int.ofNat
     a.i).toNat
     []))
     (nrm
     a.t.l)
     (nrm
     a.t.y)
     a.t.a0
     a.t.a1
     a.t.tr
     a.t.op
     a.t.cl
     a.t.en
     a.t.mo
     a.t.la0
     a.t.la1
     a.t.la2
     a.t.er ∧
     xi
     ((pfF
     X
     k).next
     a
     0).t.y
     14 =
     push_38
     (ofRow
     (X.getD
     (Int.ofNat
     a.i).toNat
     []))
     (nrm
     a.t.l)
     (nrm
     a.t.y)
     a.t.a0
     a.t.a1
     a.t.tr
     a.t.op
     a.t.cl
     a.t.en
     a.t.mo
     a.t.la0
     a.t.la1
     a.t.la2
     a.t.er ∧
     xb
     ((pfF
     X
     k).next
     a
     0).t.y
     15 =
     push_39
     (ofRow
     (X.getD
     (Int.ofNat
     a.i).toNat
     []))
     (nrm
     a.t.l)
     (nrm
     a.t.y)
     a.t.a0
     a.t.a1
     a.t.tr
     a.t.op
     a.t.cl
     a.t.en
     a.t.mo
     a.t.la0
     a.t.la1
     a.t.la2
     a.t.er ∧
     xi
     ((pfF
     X
     k).next
     a
     0).t.y
     16 =
     push_40
     (ofRow
     (X.getD
     (Int.ofNat
     a.i).toNat
     []))
     (nrm
     a.t.l)
     (nrm
     a.t.y)
     a.t.a0
     a.t.a1
     a.t.tr
     a.t.op
     a.t.cl
     a.t.en
     a.t.mo
     a.t.la0
     a.t.la1
     a.t.la2
     a.t.er ∧
     xi
     ((pfF
     X
     k).next
     a
     0).t.y
     17 =
     push_41
     (ofRow
     (X.getD
     (Int.ofNat
     a.i).toNat
     []))
     (nrm
     a.t.l)
     (nrm
     a.t.y)
     a.t.a0
     a.t.a1
     a.t.tr
     a.t.op
     a.t.cl
     a.t.en
     a.t.mo
     a.t.la0
     a.t.la1
     a.t.la2
     a.t.er ∧
     xi
     ((pfF
     X
     k).next
     a
     0).t.y
     18 =
     push_42
     (ofRow
     (X.getD
     (Int.ofNat
     a.i).toNat
     []))
     (nrm
     a.t.l)
     (nrm
     a.t.y)
     a.t.a0
     a.t.a1
     a.t.tr
     a.t.op
     a.t.cl
     a.t.en
     a.t.mo
     a.t.la0
     a.t.la1
     a.t.la2
     a.t.er ∧
     xi
     ((pfF
     X
     k).next
     a
     0).t.y
     19 =
     push_43
     (ofRow
     (X.getD
     (Int.ofNat
     a.i).toNat
     []))
     (nrm
     a.t.l)
     (nrm
     a.t.y)
     a.t.a0
     a.t.a1
     a.t.tr
     a.t.op
     a.t.cl
     a.t.en
     a.t.mo
     a.t.la0
     a.t.la1
     a.t.la2
     a.t.er ∧
     xi
     ((pfF
     X
     k).next
     a
     0).t.y
     20 =
     push_44
     (ofRow
     (X.getD
     (Int.ofNat
     a.i).toNat
     []))
     (nrm
     a.t.l)
     (nrm
     a.t.y)
     a.t.a0
     a.t.a1
     a.t.tr
     a.t.op
     a.t.cl
     a.t.en
     a.t.mo
     a.t.la0
     a.t.la1
     a.t.la2
     a.t.er ∧
     xb
     ((pfF
     X
     k).next
     a
     0).t.y
     21 =
     push_45
     (ofRow
     (X.getD
     (Int.ofNat
     a.i).toNat
     []))
     (nrm
     a.t.l)
     (nrm
     a.t.y)
     a.t.a0
     a.t.a1
     a.t.tr
     a.t.op
     a.t.cl
     a.t.en
     a.t.mo
     a.t.la0
     a.t.la1
     a.t.la2
     a.t.er ∧
     ((pfF
     X
     k).next
     a
     0).t.a0 =
     push_46
     (ofRow
     (X.getD
     (Int.ofNat
     a.i).toNat
     []))
     (nrm
     a.t.l)
     (nrm
     a.t.y)
     a.t.a0
     a.t.a1
     a.t.tr
     a.t.op
     a.t.cl
     a.t.en
     a.t.mo
     a.t.la0
     a.t.la1
     a.t.la2
     a.t.er ∧
     ((pfF
     X
     k).next
     a
     0).t.a1 =
     push_47
     (ofRow
     (X.getD
     (Int.ofNat
     a.i).toNat
     []))
     (nrm
     a.t.l)
     (nrm
     a.t.y)
     a.t.a0
     a.t.a1
     a.t.tr
     a.t.op
     a.t.cl
     a.t.en
     a.t.mo
     a.t.la0
     a.t.la1
     a.t.la2
     a.t.er ∧
     ((pfF
     X
     k).next
     a
     0).t.tr =
     push_48
     (ofRow
     (X.getD
     (Int.ofNat
     a.i).toNat
     []))
     (nrm
     a.t.l)
     (nrm
     a.t.y)
     a.t.a0
     a.t.a1
     a.t.tr
     a.t.op
     a.t.cl
     a.t.en
     a.t.mo
     a.t.la0
     a.t.la1
     a.t.la2
     a.t.er ∧
     ((pfF
     X
     k).next
     a
     0).t.op =
     push_49
     (ofRow
     (X.getD
     (Int.ofNat
     a.i).toNat
     []))
     (nrm
     a.t.l)
     (nrm
     a.t.y)
     a.t.a0
     a.t.a1
     a.t.tr
     a.t.op
     a.t.cl
     a.t.en
     a.t.mo
     a.t.la0
     a.t.la1
     a.t.la2
     a.t.er ∧
     ((pfF
     X
     k).next
     a
     0).t.cl =
     a.t.cl ∧
     ((pfF
     X
     k).next
     a
     0).t.en =
     push_50
     (ofRow
     (X.getD
     (Int.ofNat
     a.i).toNat
     []))
     a.t.cl
     a.t.en
     a.t.mo
     a.t.la0
     a.t.la1
     a.t.la2
     a.t.er ∧
     ((pfF
     X
     k).next
     a
     0).t.mo =
     push_51
     (ofRow
     (X.getD
     (Int.ofNat
     a.i).toNat
     []))
     a.t.cl
     a.t.en
     a.t.mo
     a.t.la0
     a.t.la1
     a.t.la2
     a.t.er ∧
     ((pfF
     X
     k).next
     a
     0).t.la0 =
     push_52
     (ofRow
     (X.getD
     (Int.ofNat
     a.i).toNat
     []))
     a.t.cl
     a.t.en
     a.t.mo
     a.t.la0
     a.t.la1
     a.t.la2
     a.t.er ∧
     ((pfF
     X
     k).next
     a
     0).t.la1 =
     push_53
     (ofRow
     (X.getD
     (Int.ofNat
     a.i).toNat
     []))
     a.t.cl
     a.t.en
     a.t.mo
     a.t.la0
     a.t.la1
     a.t.la2
     a.t.er ∧
     ((pfF
     X
     k).next
     a
     0).t.la2 =
     push_54
     (ofRow
     (X.getD
     (Int.ofNat
     a.i).toNat
     []))
     a.t.cl
     a.t.en
     a.t.mo
     a.t.la0
     a.t.la1
     a.t.la2
     a.t.er ∧
     ((pfF
     X
     k).next
     a
     0).t.er =
     push_55
     (ofRow
     (X.getD
     (Int.ofNat
     a.i).toNat
     []))
     (nrm
     a.t.l)
     (nrm
     a.t.y)
     a.t.a0
     a.t.a1
     a.t.tr
     a.t.op
     a.t.cl
     a.t.en
     a.t.mo
     a.t.la0
     a.t.la1
     a.t.la2
     a.t.er
     a.t.C ∧
     ((pfF
     X
     k).next
     a
     0).t.C =
     push_56
     (ofRow
     (X.getD
     (Int.ofNat
     a.i).toNat
     []))
     (nrm
     a.t.l)
     (nrm
     a.t.y)
     a.t.a0
     a.t.a1
     a.t.tr
     a.t.op
     a.t.cl
     a.t.en
     a.t.mo
     a.t.la0
     a.t.la1
     a.t.la2
     a.t.er
     a.t.C ∧
     ([] : List (List Int)) = [] ∧
     ((pfF
     X
     k).next
     a
     0).R =
     pf_s59
     X
     a ∧
     ((pfF
     X
     k).next
     a
     0).Q =
     a.Q ++
     pf_s2
     X
     a) ∧
     (decide (Int.ofNat a.i < k) = false →
     (((pfF X k).next a 1).i ≤ X.length ∧
     X.length ≤ 1000 ∧
     ((pfF X k).next a 1).s.C.length ≤ 8 ∧
     ((pfF X k).next a 1).t.C.length ≤ 8 ∧ ((pfF X k).next a 1).R.length ≤ 11 * ((pfF X k).next a 1).i ∧ ((pfF X k).next a 1).Q.length ≤ 11 * ((pfF X k).next a 1).i) ∧
     (pfF X k).μ ((pfF X k).next a 1) < (pfF X k).μ a ∧
     (pfF X k).fin ((pfF X k).next a 1) = (pfF X k).fin a ∧
     Int.ofNat ((pfF X k).next a 1).i = IntKind.i64.wrap (Int.ofNat a.i + 1) ∧
     ((pfF X k).next a 1).bad = pf_s3 X a ∧
     xi ((pfF X k).next a 1).s.l 0 = pf_s4 X a ∧
     xi ((pfF X k).next a 1).s.l 1 = pf_s5 X a ∧
     xi ((pfF X k).next a 1).s.l 2 = pf_s6 X a ∧
     xi ((pfF X k).next a 1).s.l 3 = pf_s7 X a ∧
     xi ((pfF X k).next a 1).s.l 4 = pf_s8 X a ∧
     xi ((pfF X k).next a 1).s.l 5 = pf_s9 X a ∧
     xi ((pfF X k).next a 1).s.l 6 = pf_s10 X a ∧
     xi ((pfF X k).next a 1).s.l 7 = pf_s11 X a ∧
     xi ((pfF X k).next a 1).s.l 8 = pf_s12 X a ∧
     xi ((pfF X k).next a 1).s.l 9 = pf_s13 X a ∧
     xi ((pfF X k).next a 1).s.l 10 = pf_s14 X a ∧
     xi ((pfF X k).next a 1).s.l 11 = pf_s15 X a ∧
     xi ((pfF X k).next a 1).s.l 12 = pf_s16 X a ∧
     xb ((pfF X k).next a 1).s.l 13 = pf_s17 X a ∧
     xi ((pfF X k).next a 1).s.l 14 = pf_s18 X a ∧
     xb ((pfF X k).next a 1).s.l 15 = pf_s19 X a ∧
     xi ((pfF X k).next a 1).s.l 16 = pf_s20 X a ∧
     xi ((pfF X k).next a 1).s.l 17 = pf_s21 X a ∧
     xi ((pfF X k).next a 1).s.l 18 = pf_s22 X a ∧
     xi ((pfF X k).next a 1).s.l 19 = pf_s23 X a ∧
     xi ((pfF X k).next a 1).s.l 20 = pf_s24 X a ∧
     xb ((pfF X k).next a 1).s.l 21 = pf_s25 X a ∧
     xi ((pfF X k).next a 1).s.y 0 = pf_s26 X a ∧
     xi ((pfF X k).next a 1).s.y 1 = pf_s27 X a ∧
     xi ((pfF X k).next a 1).s.y 2 = pf_s28 X a ∧
     xi ((pfF X k).next a 1).s.y 3 = pf_s29 X a ∧
     xi ((pfF X k).next a 1).s.y 4 = pf_s30 X a ∧
     xi ((pfF X k).next a 1).s.y 5 = pf_s31 X a ∧
     xi ((pfF X k).next a 1).s.y 6 = pf_s32 X a ∧
     xi ((pfF X k).next a 1).s.y 7 = pf_s33 X a ∧
     xi ((pfF X k).next a 1).s.y 8 = pf_s34 X a ∧
     xi ((pfF X k).next a 1).s.y 9 = pf_s35 X a ∧
     xi ((pfF X k).next a 1).s.y 10 = pf_s36 X a ∧
     xi ((pfF X k).next a 1).s.y 11 = pf_s37 X a ∧
     xi ((pfF X k).next a 1).s.y 12 = pf_s38 X a ∧
     xb ((pfF X k).next a 1).s.y 13 = pf_s39 X a ∧
     xi ((pfF X k).next a 1).s.y 14 = pf_s40 X a ∧
     xb ((pfF X k).next a 1).s.y 15 = pf_s41 X a ∧
     xi ((pfF X k).next a 1).s.y 16 = pf_s42 X a ∧
     xi ((pfF X k).next a 1).s.y 17 = pf_s43 X a ∧
     xi ((pfF X k).next a 1).s.y 18 = pf_s44 X a ∧
     xi ((pfF X k).next a 1).s.y 19 = pf_s45 X a ∧
     xi ((pfF X k).next a 1).s.y 20 = pf_s46 X a ∧
     xb ((pfF X k).next a 1).s.y 21 = pf_s47 X a ∧
     ((pfF X k).next a 1).s.a0 = pf_s48 X a ∧
     ((pfF X k).next a 1).s.a1 = pf_s49 X a ∧
     ((pfF X k).next a 1).s.tr = pf_s50 X a ∧
     ((pfF X k).next a 1).s.op = pf_s51 X a ∧
     ((pfF X k).next a 1).s.cl = a.s.cl ∧
     ((pfF X k).next a 1).s.en = pf_s52 X a ∧
     ((pfF X k).next a 1).s.mo = pf_s53 X a ∧
     ((pfF X k).next a 1).s.la0 = pf_s54 X a ∧
     ((pfF X k).next a 1).s.la1 = pf_s55 X a ∧
     ((pfF X k).next a 1).s.la2 = pf_s56 X a ∧
     ((pfF X k).next a 1).s.er = pf_s57 X a ∧
     ((pfF X k).next a 1).s.C = pf_s58 X a ∧
     ([] : List (List Int)) = [] ∧
     xi ((pfF X k).next a 1).t.l 0 = xi a.t.l 0 ∧
     xi ((pfF X k).next a 1).t.l 1 = xi a.t.l 1 ∧
     xi ((pfF X k).next a 1).t.l 2 = xi a.t.l 2 ∧
     xi ((pfF X k).next a 1).t.l 3 = xi a.t.l 3 ∧
     xi ((pfF X k).next a 1).t.l 4 = xi a.t.l 4 ∧
     xi ((pfF X k).next a 1).t.l 5 = xi a.t.l 5 ∧
     xi ((pfF X k).next a 1).t.l 6 = xi a.t.l 6 ∧
     xi ((pfF X k).next a 1).t.l 7 = xi a.t.l 7 ∧
     xi ((pfF X k).next a 1).t.l 8 = xi a.t.l 8 ∧
     xi ((pfF X k).next a 1).t.l 9 = xi a.t.l 9 ∧
     xi ((pfF X k).next a 1).t.l 10 = xi a.t.l 10 ∧
     xi ((pfF X k).next a 1).t.l 11 = xi a.t.l 11 ∧
     xi ((pfF X k).next a 1).t.l 12 =
     xi a.t.l 12 ∧
     xb ((pfF X k).next a 1).t.l 13 =
     xb a.t.l 13 ∧
     xi ((pfF X k).next a 1).t.l 14 =
     xi a.t.l 14 ∧
     xb ((pfF X k).next a 1).t.l 15 =
     xb a.t.l 15 ∧
     xi ((pfF X k).next a 1).t.l 16 =
     xi a.t.l 16 ∧
     xi ((pfF X k).next a 1).t.l 17 =
     xi a.t.l 17 ∧
     xi ((pfF X k).next a 1).t.l 18 =
     xi a.t.l 18 ∧
     xi ((pfF X k).next a 1).t.l
     19 =
     xi a.t.l 19 ∧
     xi ((pfF X k).next a 1).t.l
     20 =
     xi a.t.l 20 ∧
     xb
     ((pfF X k).next a
     1).t.l
     21 =
     xb a.t.l 21 ∧
     xi
     ((pfF X k).next a
     1).t.y
     0 =
     xi a.t.y 0 ∧
     xi
     ((pfF X k).next
     a 1).t.y
     1 =
     xi a.t.y 1 ∧
     xi
     ((pfF X
     k).next
     a 1).t.y
     2 =
     xi a.t.y 2 ∧
     xi
     ((pfF X
     k).next
     a
     1).t.y
     3 =
     xi a.t.y 3 ∧
     xi
     ((pfF X
     k).next
     a
     1).t.y
     4 =
     xi a.t.y 4 ∧
     xi
     ((pfF X
     k).next
     a
     1).t.y
     5 =
     xi a.t.y
     5 ∧
     xi
     ((pfF
     X
     k).next
     a
     1).t.y
     6 =
     xi a.t.y
     6 ∧
     xi
     ((pfF
     X
     k).next
     a
     1).t.y
     7 =
     xi
     a.t.y
     7 ∧
     xi
     ((pfF
     X
     k).next
     a
     1).t.y
     8 =
     xi
     a.t.y
     8 ∧
     xi
     ((pfF
     X
     k).next
     a
     1).t.y
     9 =
     xi
     a.t.y
     9 ∧
     xi
     ((pfF
     X
     k).next
     a
     1).t.y
     10 =
     xi
     a.t.y
     10 ∧
     xi
     ((pfF
     X
     k).next
     a
     1).t.y
     11 =
     xi
     a.t.y
     11 ∧
     xi
     ((pfF
     X
     k).next
     a
     1).t.y
     12 =
     xi
     a.t.y
     12 ∧
     xb
     ((pfF
     X
     k).next
     a
     1).t.y
     13 =
     xb
     a.t.y
     13 ∧
     xi
     ((pfF
     X
     k).next
     a
     1).t.y
     14 =
     xi
     a.t.y
     14 ∧
     xb
     ((pfF
     X
     k).next
     a
     1).t.y
     15 =
     xb
     a.t.y
     15 ∧
     xi
     ((pfF
     X
     k).next
     a
     1).t.y
     16 =
     xi
     a.t.y
     16 ∧
     xi
     ((pfF
     X
     k).next
     a
     1).t.y
     17 =
     xi
     a.t.y
     17 ∧
     xi
     ((pfF
     X
     k).next
     a
     1).t.y
     18 =
     xi
     a.t.y
     18 ∧
     xi
     ((pfF
     X
     k).next
     a
     1).t.y
     19 =
     xi
     a.t.y
     19 ∧
     xi
     ((pfF
     X
     k).next
     a
     1).t.y
     20 =
     xi
     a.t.y
     20 ∧
     xb
     ((pfF
     X
     k).next
     a
     1).t.y
     21 =
     xb
     a.t.y
     21 ∧
     ((pfF
     X
     k).next
     a
     1).t.a0 =
     a.t.a0 ∧
     ((pfF
     X
     k).next
     a
     1).t.a1 =
     a.t.a1 ∧
     ((pfF
     X
     k).next
     a
     1).t.tr =
     a.t.tr ∧
     ((pfF
     X
     k).next
     a
     1).t.op =
     a.t.op ∧
     ((pfF
     X
     k).next
     a
     1).t.cl =
     a.t.cl ∧
     ((pfF
     X
     k).next
     a
     1).t.en =
     a.t.en ∧
     ((pfF
     X
     k).next
     a
     1).t.mo =
     a.t.mo ∧
     ((pfF
     X
     k).next
     a
     1).t.la0 =
     a.t.la0 ∧
     ((pfF
     X
     k).next
     a
     1).t.la1 =
     a.t.la1 ∧
     ((pfF
     X
     k).next
     a
     1).t.la2 =
     a.t.la2 ∧
     ((pfF
     X
     k).next
     a
     1).t.er =
     a.t.er ∧
     ((pfF
     X
     k).next
     a
     1).t.C =
     a.t.C ∧
     ([] : List (List Int)) = [] ∧
     ((pfF
     X
     k).next
     a
     1).R =
     pf_s59
     X
     a ∧
     ((pfF
     X
     k).next
     a
     1).Q =
     a.Q),
    decide (Int.ofNat a.i < Int.ofNat X.length) = false →
     ((pfF X k).fin a).bad = a.bad ∧
     xi ((pfF X k).fin a).s.l 0 = xi a.s.l 0 ∧
     xi ((pfF X k).fin a).s.l 1 = xi a.s.l 1 ∧
     xi ((pfF X k).fin a).s.l 2 = xi a.s.l 2 ∧
     xi ((pfF X k).fin a).s.l 3 = xi a.s.l 3 ∧
     xi ((pfF X k).fin a).s.l 4 = xi a.s.l 4 ∧
     xi ((pfF X k).fin a).s.l 5 = xi a.s.l 5 ∧
     xi ((pfF X k).fin a).s.l 6 = xi a.s.l 6 ∧
     xi ((pfF X k).fin a).s.l 7 = xi a.s.l 7 ∧
     xi ((pfF X k).fin a).s.l 8 = xi a.s.l 8 ∧
     xi ((pfF X k).fin a).s.l 9 = xi a.s.l 9 ∧
     xi ((pfF X k).fin a).s.l 10 = xi a.s.l 10 ∧
     xi ((pfF X k).fin a).s.l 11 = xi a.s.l 11 ∧
     xi ((pfF X k).fin a).s.l 12 = xi a.s.l 12 ∧
     xb ((pfF X k).fin a).s.l 13 = xb a.s.l 13 ∧
     xi ((pfF X k).fin a).s.l 14 = xi a.s.l 14 ∧
     xb ((pfF X k).fin a).s.l 15 = xb a.s.l 15 ∧
     xi ((pfF X k).fin a).s.l 16 = xi a.s.l 16 ∧
     xi ((pfF X k).fin a).s.l 17 = xi a.s.l 17 ∧
     xi ((pfF X k).fin a).s.l 18 = xi a.s.l 18 ∧
     xi ((pfF X k).fin a).s.l 19 = xi a.s.l 19 ∧
     xi ((pfF X k).fin a).s.l 20 = xi a.s.l 20 ∧
     xb ((pfF X k).fin a).s.l 21 = xb a.s.l 21 ∧
     xi ((pfF X k).fin a).s.y 0 = xi a.s.y 0 ∧
     xi ((pfF X k).fin a).s.y 1 = xi a.s.y 1 ∧
     xi ((pfF X k).fin a).s.y 2 = xi a.s.y 2 ∧
     xi ((pfF X k).fin a).s.y 3 = xi a.s.y 3 ∧
     xi ((pfF X k).fin a).s.y 4 = xi a.s.y 4 ∧
     xi ((pfF X k).fin a).s.y 5 = xi a.s.y 5 ∧
     xi ((pfF X k).fin a).s.y 6 = xi a.s.y 6 ∧
     xi ((pfF X k).fin a).s.y 7 = xi a.s.y 7 ∧
     xi ((pfF X k).fin a).s.y 8 = xi a.s.y 8 ∧
     xi ((pfF X k).fin a).s.y 9 = xi a.s.y 9 ∧
     xi ((pfF X k).fin a).s.y 10 = xi a.s.y 10 ∧
     xi ((pfF X k).fin a).s.y 11 = xi a.s.y 11 ∧
     xi ((pfF X k).fin a).s.y 12 = xi a.s.y 12 ∧
     xb ((pfF X k).fin a).s.y 13 = xb a.s.y 13 ∧
     xi ((pfF X k).fin a).s.y 14 = xi a.s.y 14 ∧
     xb ((pfF X k).fin a).s.y 15 = xb a.s.y 15 ∧
     xi ((pfF X k).fin a).s.y 16 = xi a.s.y 16 ∧
     xi ((pfF X k).fin a).s.y 17 = xi a.s.y 17 ∧
     xi ((pfF X k).fin a).s.y 18 = xi a.s.y 18 ∧
     xi ((pfF X k).fin a).s.y 19 = xi a.s.y 19 ∧
     xi ((pfF X k).fin a).s.y 20 = xi a.s.y 20 ∧
     xb ((pfF X k).fin a).s.y 21 = xb a.s.y 21 ∧
     ((pfF X k).fin a).s.a0 = a.s.a0 ∧
     ((pfF X k).fin a).s.a1 = a.s.a1 ∧
     ((pfF X k).fin a).s.tr = a.s.tr ∧
     ((pfF X k).fin a).s.op = a.s.op ∧
     ((pfF X k).fin a).s.cl = a.s.cl ∧
     ((pfF X k).fin a).s.en = a.s.en ∧
     ((pfF X k).fin a).s.mo = a.s.mo ∧
     ((pfF X k).fin a).s.la0 = a.s.la0 ∧
     ((pfF X k).fin a).s.la1 = a.s.la1 ∧
     ((pfF X k).fin a).s.la2 = a.s.la2 ∧
     ((pfF X k).fin a).s.er = a.s.er ∧
     ((pfF X k).fin a).s.C = a.s.C ∧
     ([] : List (List Int)) = [] ∧
     xi ((pfF X k).fin a).t.l 0 = xi a.t.l 0 ∧
     xi ((pfF X k).fin a).t.l 1 = xi a.t.l 1 ∧
     xi ((pfF X k).fin a).t.l 2 = xi a.t.l 2 ∧
     xi ((pfF X k).fin a).t.l 3 = xi a.t.l 3 ∧
     xi ((pfF X k).fin a).t.l 4 = xi a.t.l 4 ∧
     xi ((pfF X k).fin a).t.l 5 = xi a.t.l 5 ∧
     xi ((pfF X k).fin a).t.l 6 = xi a.t.l 6 ∧
     xi ((pfF X k).fin a).t.l 7 = xi a.t.l 7 ∧
     xi ((pfF X k).fin a).t.l 8 = xi a.t.l 8 ∧
     xi ((pfF X k).fin a).t.l 9 = xi a.t.l 9 ∧
     xi ((pfF X k).fin a).t.l 10 = xi a.t.l 10 ∧
     xi ((pfF X k).fin a).t.l 11 = xi a.t.l 11 ∧
     xi ((pfF X k).fin a).t.l 12 = xi a.t.l 12 ∧
     xb ((pfF X k).fin a).t.l 13 = xb a.t.l 13 ∧
     xi ((pfF X k).fin a).t.l 14 = xi a.t.l 14 ∧
     xb ((pfF X k).fin a).t.l 15 = xb a.t.l 15 ∧
     xi ((pfF X k).fin a).t.l 16 = xi a.t.l 16 ∧
     xi ((pfF X k).fin a).t.l 17 = xi a.t.l 17 ∧
     xi ((pfF X k).fin a).t.l 18 = xi a.t.l 18 ∧
     xi ((pfF X k).fin a).t.l 19 =
     xi a.t.l 19 ∧
     xi ((pfF X k).fin a).t.l 20 =
     xi a.t.l 20 ∧
     xb ((pfF X k).fin a).t.l 21 =
     xb a.t.l 21 ∧
     xi ((pfF X k).fin a).t.y 0 =
     xi a.t.y 0 ∧
     xi ((pfF X k).fin a).t.y 1 =
     xi a.t.y 1 ∧
     xi ((pfF X k).fin a).t.y 2 =
     xi a.t.y 2 ∧
     xi ((pfF X k).fin a).t.y 3 =
     xi a.t.y 3 ∧
     xi ((pfF X k).fin a).t.y 4 =
     xi a.t.y 4 ∧
     xi ((pfF X k).fin a).t.y
     5 =
     xi a.t.y 5 ∧
     xi ((pfF X k).fin a).t.y
     6 =
     xi a.t.y 6 ∧
     xi
     ((pfF X k).fin
     a).t.y
     7 =
     xi a.t.y 7 ∧
     xi
     ((pfF X k).fin
     a).t.y
     8 =
     xi a.t.y 8 ∧
     xi
     ((pfF X
     k).fin
     a).t.y
     9 =
     xi a.t.y 9 ∧
     xi
     ((pfF X
     k).fin
     a).t.y
     10 =
     xi a.t.y
     10 ∧
     xi
     ((pfF X
     k).fin
     a).t.y
     11 =
     xi a.t.y
     11 ∧
     xi
     ((pfF
     X
     k).fin
     a).t.y
     12 =
     xi a.t.y
     12 ∧
     xb
     ((pfF
     X
     k).fin
     a).t.y
     13 =
     xb
     a.t.y
     13 ∧
     xi
     ((pfF
     X
     k).fin
     a).t.y
     14 =
     xi
     a.t.y
     14 ∧
     xb
     ((pfF
     X
     k).fin
     a).t.y
     15 =
     xb
     a.t.y
     15 ∧
     xi
     ((pfF
     X
     k).fin
     a).t.y
     16 =
     xi
     a.t.y
     16 ∧
     xi
     ((pfF
     X
     k).fin
     a).t.y
     17 =
     xi
     a.t.y
     17 ∧
     xi
     ((pfF
     X
     k).fin
     a).t.y
     18 =
     xi
     a.t.y
     18 ∧
     xi
     ((pfF
     X
     k).fin
     a).t.y
     19 =
     xi
     a.t.y
     19 ∧
     xi
     ((pfF
     X
     k).fin
     a).t.y
     20 =
     xi
     a.t.y
     20 ∧
     xb
     ((pfF
     X
     k).fin
     a).t.y
     21 =
     xb
     a.t.y
     21 ∧
     ((pfF
     X
     k).fin
     a).t.a0 =
     a.t.a0 ∧
     ((pfF
     X
     k).fin
     a).t.a1 =
     a.t.a1 ∧
     ((pfF
     X
     k).fin
     a).t.tr =
     a.t.tr ∧
     ((pfF
     X
     k).fin
     a).t.op =
     a.t.op ∧
     ((pfF
     X
     k).fin
     a).t.cl =
     a.t.cl ∧
     ((pfF
     X
     k).fin
     a).t.en =
     a.t.en ∧
     ((pfF
     X
     k).fin
     a).t.mo =
     a.t.mo ∧
     ((pfF
     X
     k).fin
     a).t.la0 =
     a.t.la0 ∧
     ((pfF
     X
     k).fin
     a).t.la1 =
     a.t.la1 ∧
     ((pfF
     X
     k).fin
     a).t.la2 =
     a.t.la2 ∧
     ((pfF
     X
     k).fin
     a).t.er =
     a.t.er ∧
     ((pfF
     X
     k).fin
     a).t.C =
     a.t.C ∧
     ([] : List (List Int)) = [] ∧
     ((pfF
     X
     k).fin
     a).R =
     a.R ∧
     ((pfF
     X
     k).fin
     a).Q =
     a.Q]
theorem pf_round (X : List (List Int)) (k : Int) (a : PS) (hNeeds : ∀ pN ∈ (pf_needs X k a), pN) : RoundOk (roundC (pfF X k) (bodyOf Try.prog (sums K_rsm) L_same 5 0) 3403 a) :=
  RoundOk.of (ps := (pf_needs X k a)) (by kernel_rfl) (by kernel_rfl) hNeeds
theorem pfN_step {X : List (List Int)} {k : Int} {a : PS} (h : a.i < X.length) : pfN X k (X.length - a.i) a = pfN X k (X.length - (a.i + 1)) (bif decide (Int.ofNat a.i < k) then pfA X a else pfB X a) := by
  have e : X.length - a.i = (X.length - (a.i + 1)) + 1 := by omega
  rw [e]; rfl
theorem pf_rounds (X : List (List Int)) (k : Int) : RoundsOk (pfF X k) (bodyOf Try.prog (sums K_rsm) L_same 5 0) 3403 := by
  intro a hJ
  obtain ⟨h1, h2, h3, h4, h5, h6⟩ : a.i ≤ X.length ∧ X.length ≤ 1000 ∧ a.s.C.length ≤ 8 ∧ a.t.C.length ≤ 8 ∧ a.R.length ≤ 11 * a.i ∧ a.Q.length ≤ 11 * a.i := hJ
  have hc := pushS_C (ofRow (X.getD a.i [])) a.s h3
  have hd := pushS_C (ofRow (X.getD a.i [])) a.t h4
  have ho := pushO_len (ofRow (X.getD a.i [])) a.s h3
  have hq := pushO_len (ofRow (X.getD a.i [])) a.t h4
  have e6 : IntKind.i64.wrap (Int.ofNat a.i + 1) = Int.ofNat (a.i + 1) := wrI (by simp; omega) (by simp; omega)
  refine pf_round X k a ?_
  unfold pf_needs
  simp only [List.forall_mem_cons, List.not_mem_nil, false_implies, implies_true, and_true]
  have lt : pf_s0 X a → a.i < X.length := fun h => by unfold pf_s0 at h; simp at h; omega
  have hR : (a.R ++ pushO (ofRow (X.getD a.i [])) a.s).length ≤ 11 * (a.i + 1) := by rw [List.length_append]; omega
  have hQ : (a.Q ++ pushO (ofRow (X.getD a.i [])) a.t).length ≤ 11 * (a.i + 1) := by rw [List.length_append]; omega
  have ho' : (pf_s1 X a).length ≤ 11 := ho
  have hq' : (pf_s2 X a).length ≤ 11 := hq
  refine ⟨fun h => ⟨by simp, lt h, lt h, by omega, by omega, by omega, by omega, fun _ => ⟨by simp, lt h, lt h, by omega, by omega, by omega, by omega⟩⟩, fun h => ⟨fun hb => ⟨⟨?_, h2, hc, hd, hR, hQ⟩, ?_, ?_, e6.symm, ?_⟩, fun hb => ⟨⟨?_, h2, hc, h4, hR, ?_⟩, ?_, ?_, e6.symm, ?_⟩⟩, fun h => ?_⟩
  · have := lt h
    show a.i + 1 ≤ _; omega
  · have := lt h
    show X.length - (a.i + 1) < X.length - a.i; omega
  · show pfN X k (X.length - (a.i + 1)) _ = pfN X k (X.length - a.i) a
    rw [pfN_step (lt h), hb]; rfl
  · repeat' first | refine ⟨by kernel_rfl, ?_⟩ | kernel_rfl | exact trivial | refine ⟨trivial, ?_⟩
  · have := lt h
    show a.i + 1 ≤ _; omega
  · show a.Q.length ≤ 11 * (a.i + 1); omega
  · have := lt h
    show X.length - (a.i + 1) < X.length - a.i; omega
  · show pfN X k (X.length - (a.i + 1)) _ = pfN X k (X.length - a.i) a
    rw [pfN_step (lt h), hb]; rfl
  · repeat' first | refine ⟨by kernel_rfl, ?_⟩ | kernel_rfl | exact trivial | refine ⟨trivial, ?_⟩
  · have hi : a.i = X.length := by simp at h; omega
    have e : (pfF X k).fin a = a := by
      show pfN X k (X.length - a.i) a = _
      rw [hi, Nat.sub_self]; rfl
    rw [e]
    repeat' first | refine ⟨by kernel_rfl, ?_⟩ | kernel_rfl | exact trivial | refine ⟨trivial, ?_⟩
noncomputable def pfLp : LoopS := fun env mem m => match SX.look env 6, SX.look mem 2203 with
  | some ⟨_, _, _, .one (.int _ k)⟩, some (.row _ _ _ (.lst _ _ X)) => famS (pfF X k.val) 3403 (fun _ _ => some ⟨0, St0, St0, [], [], false⟩) env mem m
  | _, _ => none
noncomputable def L_pf : FuncId → Nat → Option LoopS := addL L_same 5 11 pfLp
theorem known_pfL : Known Try.prog (sums K_rsm) L_pf := by
  refine known_addL 0 known_rsm (by kernel_rfl) (codeOk_of fun env mem m x h => ?_)
  unfold pfLp at h
  have hlen : (loopList Try.prog 5).length = 1 := by kernel_rfl
  split at h
  · exact ⟨_, fam_ok (bodyOf_ok plainN known_rsm (by omega)) (pf_rounds _ _), h⟩
  · cases h
/-- What holds in front of each round. -/
structure PfI (k : Int) (a : PS) : Prop where
  more : ∃ M, a.R = a.Q ++ M ∧ (Int.ofNat a.i ≤ k → M = [] ∧ a.s = a.t)
  bad : a.bad = true → a.s.er ≠ 0
  cs : a.s.C.length ≤ 8
  ct : a.t.C.length ≤ 8
  ql : a.Q.length ≤ 11 * a.i
theorem er_stays (x : List GC) (s : St) (h : s.er ≠ 0) : (pushS x s).er ≠ 0 := by
  rw [← pushE_er, pushE_stays x s h]; exact h
theorem pfN_inv (X : List (List Int)) (k : Int) : ∀ (n : Nat) (a : PS), PfI k a → PfI k (pfN X k n a) ∧ (pfN X k n a).i = a.i + n
  | 0, a, h => ⟨h, rfl⟩
  | n + 1, a, h => by
    obtain ⟨⟨M, hM, hk⟩, hb, hc, hd, hq⟩ := h
    have hbad : (a.bad || pushE (ofRow (X.getD a.i [])) a.s != 0) = true → (pushS (ofRow (X.getD a.i [])) a.s).er ≠ 0 := fun h => by
      rcases Bool.or_eq_true_iff.1 h with h | h
      · exact er_stays _ _ (hb h)
      · rw [← pushE_er]; simpa using h
    have hc' := pushS_C (ofRow (X.getD a.i [])) a.s hc
    have hd' := pushS_C (ofRow (X.getD a.i [])) a.t hd
    have hl := pushO_len (ofRow (X.getD a.i [])) a.t hd
    unfold pfN
    cases hx : decide (Int.ofNat a.i < k)
    · rw [cond_false]
      have hx' : ¬ Int.ofNat a.i < k := of_decide_eq_false hx
      have := pfN_inv X k n (pfB X a) ⟨⟨M ++ pushO (ofRow (X.getD a.i [])) a.s, by show a.R ++ _ = a.Q ++ _; rw [hM, List.append_assoc], fun h => by
        have h' : Int.ofNat (a.i + 1) ≤ k := h
        exact absurd (show Int.ofNat a.i < k by simp at h' ⊢; omega) hx'⟩, hbad, hc', hd, by show a.Q.length ≤ 11 * (a.i + 1); omega⟩
      exact ⟨this.1, by rw [this.2]; show a.i + 1 + n = _; omega⟩
    · rw [cond_true]
      have hx' : Int.ofNat a.i < k := of_decide_eq_true hx
      obtain ⟨rfl, hst⟩ := hk (Int.le_of_lt hx')
      have := pfN_inv X k n (pfA X a) ⟨⟨[], by show a.R ++ _ = (a.Q ++ _) ++ []; rw [hM, hst, List.append_nil, List.append_nil], fun _ => ⟨rfl, by show pushS _ a.s = pushS _ a.t; rw [hst]⟩⟩, hbad, hc', hd', by show (a.Q ++ _).length ≤ 11 * (a.i + 1); rw [List.length_append]; omega⟩
      exact ⟨this.1, by rw [this.2]; show a.i + 1 + n = _; omega⟩
theorem pf_all (w : Int) (L : List (List Int)) : PfI (mod_0 w (IntKind.i64.wrap (Int.ofNat (contL 0 L).length + 1))) ((pfF (contL 0 L) (mod_0 w (IntKind.i64.wrap (Int.ofNat (contL 0 L).length + 1)))).fin (PS.mk 0 St0 St0 [] [] false)) ∧
    ((pfF (contL 0 L) (mod_0 w (IntKind.i64.wrap (Int.ofNat (contL 0 L).length + 1)))).fin (PS.mk 0 St0 St0 [] [] false)).i = 0 + ((contL 0 L).length - 0) :=
  pfN_inv _ _ _ _ ⟨⟨[], rfl, fun _ => ⟨rfl, rfl⟩⟩, (fun h => by cases h), Nat.zero_le _, Nat.zero_le _, Nat.zero_le _⟩
noncomputable def lawP_tpl : Tpl := ⟨[.one (.wh 0), .one (.int .i64)], [(0, .row true 3 1 1 [.int .i64])], 2⟩
noncomputable def lawP_s0 (w : Int) (L : List (List Int)) : Int :=
  Int.ofNat ((pfF (contL 0 L) (mod_0 w (IntKind.i64.wrap (Int.ofNat (contL 0 L).length + 1)))).fin (PS.mk 0 St0 St0 [] [] false)).Q.length
noncomputable def lawP_s1 (w : Int) (L : List (List Int)) : Int :=
  Int.ofNat ((pfF (contL 0 L) (mod_0 w (IntKind.i64.wrap (Int.ofNat (contL 0 L).length + 1)))).fin (PS.mk 0 St0 St0 [] [] false)).R.length
noncomputable def lawP_s2 (w : Int) (L : List (List Int)) : Int :=
  pending_0 ((pfF (contL 0 L) (mod_0 w (IntKind.i64.wrap (Int.ofNat (contL 0 L).length + 1)))).fin (PS.mk 0 St0 St0 [] [] false)).t.op
   ((pfF (contL 0 L) (mod_0 w (IntKind.i64.wrap (Int.ofNat (contL 0 L).length + 1)))).fin (PS.mk 0 St0 St0 [] [] false)).t.er
   ((pfF (contL 0 L) (mod_0 w (IntKind.i64.wrap (Int.ofNat (contL 0 L).length + 1)))).fin (PS.mk 0 St0 St0 [] [] false)).t.C
noncomputable def lawP_0 (w : Int) (L : List (List Int)) : Bool :=
  bif !light_0 L then true
  else
   bif false then false
   else
   decide (lawP_s0 w L ≤ lawP_s1 w L) && decide (lawP_s2 w L ≤ 9) &&
   (!((pfF (contL 0 L) (mod_0 w (IntKind.i64.wrap (Int.ofNat (contL 0 L).length + 1)))).fin (PS.mk 0 St0 St0 [] [] false)).bad ||
   pending_0 ((pfF (contL 0 L) (mod_0 w (IntKind.i64.wrap (Int.ofNat (contL 0 L).length + 1)))).fin (PS.mk 0 St0 St0 [] [] false)).s.op
   ((pfF (contL 0 L) (mod_0 w (IntKind.i64.wrap (Int.ofNat (contL 0 L).length + 1)))).fin (PS.mk 0 St0 St0 [] [] false)).s.er
   ((pfF (contL 0 L) (mod_0 w (IntKind.i64.wrap (Int.ofNat (contL 0 L).length + 1)))).fin (PS.mk 0 St0 St0 [] [] false)).s.C ==
   0)
noncomputable def lawP_s3 (L : List (List Int)) : Int :=
  IntKind.i64.wrap (Int.ofNat (contL 0 L).length + 1)
noncomputable def lawP_s4 (w : Int) (L : List (List Int)) : List (List Int) :=
  ((pfF (contL 0 L) (mod_0 w (lawP_s3 L))).fin (PS.mk 0 St0 St0 [] [] false)).Q
noncomputable def lawP_s5 (w : Int) (L : List (List Int)) : List (List Int) :=
  ((pfF (contL 0 L) (mod_0 w (lawP_s3 L))).fin (PS.mk 0 St0 St0 [] [] false)).R
noncomputable def lawP_s6 (w : Int) (L : List (List Int)) : Prop :=
  decide (Int.ofNat (lawP_s4 w L).length ≤ Int.ofNat (lawP_s5 w L).length) = true
noncomputable def lawP_needs (w : Int) (L : List (List Int)) : List Prop :=
  [(!light_0 L) = false →
   Int.ofNat 0 ≤ 0 ∧
   L.length ≤ 1000000 ∧
   lawP_s3 L ≠ 0 ∧
   (false = false →
   (0 ≤ (contL 0 L).length ∧ (contL 0 L).length ≤ 1000 ∧ 0 ≤ 8 ∧ 0 ≤ 8 ∧ 0 ≤ 0 ∧ 0 ≤ 0) ∧
   Int.ofNat 0 = 0 ∧
   false = false ∧
   Int.ofNat 0 = 0 ∧
   Int.ofNat 0 = 0 ∧
   Int.ofNat 0 = 0 ∧
   Int.ofNat 0 = 0 ∧
   Int.ofNat 0 = 0 ∧
   Int.ofNat 0 = 0 ∧
   Int.ofNat 0 = 0 ∧
   Int.ofNat 0 = 0 ∧
   Int.ofNat 0 = 0 ∧
   Int.ofNat 0 = 0 ∧
   Int.ofNat 0 = 0 ∧
   Int.ofNat 0 = 0 ∧
   Int.ofNat 0 = 0 ∧
   false = false ∧
   Int.ofNat 0 = 0 ∧
   false = false ∧
   Int.ofNat 0 = 0 ∧
   Int.ofNat 0 = 0 ∧
   Int.ofNat 0 = 0 ∧
   Int.ofNat 0 = 0 ∧
   Int.ofNat 0 = 0 ∧
   false = false ∧
   Int.ofNat 0 = 0 ∧
   Int.ofNat 0 = 0 ∧
   Int.ofNat 0 = 0 ∧
   Int.ofNat 0 = 0 ∧
   Int.ofNat 0 = 0 ∧
   Int.ofNat 0 = 0 ∧
   Int.ofNat 0 = 0 ∧
   Int.ofNat 0 = 0 ∧
   Int.ofNat 0 = 0 ∧
   Int.ofNat 0 = 0 ∧
   Int.ofNat 0 = 0 ∧
   Int.ofNat 0 = 0 ∧
   Int.ofNat 0 = 0 ∧
   false = false ∧
   Int.ofNat 0 = 0 ∧
   false = false ∧
   Int.ofNat 0 = 0 ∧
   Int.ofNat 0 = 0 ∧
   Int.ofNat 0 = 0 ∧
   Int.ofNat 0 = 0 ∧
   Int.ofNat 0 = 0 ∧
   false = false ∧
   Int.ofNat 0 = 0 ∧
   Int.ofNat 0 = 0 ∧
   false = false ∧
   false = false ∧
   false = false ∧
   false = false ∧
   false = false ∧
   Int.ofNat 0 = 0 ∧
   Int.ofNat 0 = 0 ∧
   Int.ofNat 0 = 0 ∧
   Int.ofNat 0 = 0 ∧
   (PS.mk 0 St0 St0 [] [] false).s.C = [] ∧
   ([] : List (List Int)) = [] ∧
   Int.ofNat 0 = 0 ∧
   Int.ofNat 0 = 0 ∧
   Int.ofNat 0 = 0 ∧
   Int.ofNat 0 = 0 ∧
   Int.ofNat 0 = 0 ∧
   Int.ofNat 0 = 0 ∧
   Int.ofNat 0 = 0 ∧
   Int.ofNat 0 = 0 ∧
   Int.ofNat 0 = 0 ∧
   Int.ofNat 0 = 0 ∧
   Int.ofNat 0 = 0 ∧
   Int.ofNat 0 = 0 ∧
   Int.ofNat 0 = 0 ∧
   false = false ∧
   Int.ofNat 0 = 0 ∧
   false = false ∧
   Int.ofNat 0 = 0 ∧
   Int.ofNat 0 = 0 ∧
   Int.ofNat 0 = 0 ∧
   Int.ofNat 0 = 0 ∧
   Int.ofNat 0 = 0 ∧
   false = false ∧
   Int.ofNat 0 = 0 ∧
   Int.ofNat 0 = 0 ∧
   Int.ofNat 0 = 0 ∧
   Int.ofNat 0 = 0 ∧
   Int.ofNat 0 =
   0 ∧
   Int.ofNat 0 =
   0 ∧
   Int.ofNat
   0 =
   0 ∧
   Int.ofNat
   0 =
   0 ∧
   Int.ofNat
   0 =
   0 ∧
   Int.ofNat
   0 =
   0 ∧
   Int.ofNat
   0 =
   0 ∧
   Int.ofNat
   0 =
   0 ∧
   Int.ofNat
   0 =
   0 ∧
   false =
   false ∧
   Int.ofNat
   0 =
   0 ∧
   false =
   false ∧
   Int.ofNat
   0 =
   0 ∧
   Int.ofNat
   0 =
   0 ∧
   Int.ofNat
   0 =
   0 ∧
   Int.ofNat
   0 =
   0 ∧
   Int.ofNat
   0 =
   0 ∧
   false =
   false ∧
   Int.ofNat
   0 =
   0 ∧
   Int.ofNat
   0 =
   0 ∧
   false =
   false ∧
   false =
   false ∧
   false =
   false ∧
   false =
   false ∧
   false =
   false ∧
   Int.ofNat
   0 =
   0 ∧
   Int.ofNat
   0 =
   0 ∧
   Int.ofNat
   0 =
   0 ∧
   Int.ofNat
   0 =
   0 ∧
   (PS.mk
   0
   St0
   St0
   []
   []
   false).t.C =
   [] ∧
   ([] : List (List Int)) = [] ∧
   (PS.mk
   0
   St0
   St0
   []
   []
   false).R =
   [] ∧
   (PS.mk
   0
   St0
   St0
   []
   []
   false).Q =
   [] ∧
   (lawP_s6
   w
   L →
   0 ≤
   Int.ofNat
   (lawP_s4
   w
   L).length) ∧
   (lawP_s6
   w
   L →
   0 ≤
   (Int.ofNat
   (lawP_s4
   w
   L).length).toNat) ∧
   (lawP_s6
   w
   L →
   (Int.ofNat
   (lawP_s4
   w
   L).length).toNat ≤
   (lawP_s5
   w
   L).length) ∧
   (lawP_s6
   w
   L →
   (Int.ofNat
   (lawP_s4
   w
   L).length).toNat -
   0 =
   (lawP_s4
   w
   L).length) ∧
   (lawP_s6
   w
   L →
   (lawP_s4
   w
   L).length ≤
   1000000) ∧
   (lawP_s6
   w
   L →
   List.take
   (lawP_s4
   w
   L).length
   (lawP_s5
   w
   L) =
   lawP_s4
   w
   L))]
theorem lawP_0_eq (w : Int) (L : List (List Int)) : (lawP_0 w L) = true := by
  obtain ⟨⟨⟨M, hM, _⟩, hb, _, hd, _⟩, _⟩ := pf_all w L
  unfold lawP_0
  cases !light_0 L
  · rw [cond_false, cond_false]
    have h1 : decide (lawP_s0 w L ≤ lawP_s1 w L) = true := by
      unfold lawP_s0 lawP_s1
      rw [hM, List.length_append]
      exact decide_eq_true (Int.ofNat_le.2 (Nat.le_add_right _ _))
    have h2 : decide (lawP_s2 w L ≤ 9) = true := by
      unfold lawP_s2 pending_0
      refine decide_eq_true ?_
      generalize ((pfF (contL 0 L) (mod_0 w (IntKind.i64.wrap (Int.ofNat (contL 0 L).length + 1)))).fin (PS.mk 0 St0 St0 [] [] false)).t = t at hd ⊢
      cases (t.er != 0 || !t.op)
      · rw [cond_false, wrI (by simp; omega) (by simp; omega)]; simp; omega
      · show (0 : Int) ≤ 9; decide
    rw [h1, h2]
    cases hbad : ((pfF (contL 0 L) (mod_0 w (IntKind.i64.wrap (Int.ofNat (contL 0 L).length + 1)))).fin (PS.mk 0 St0 St0 [] [] false)).bad
    · rfl
    · unfold pending_0
      rw [show (((pfF (contL 0 L) (mod_0 w (IntKind.i64.wrap (Int.ofNat (contL 0 L).length + 1)))).fin (PS.mk 0 St0 St0 [] [] false)).s.er != 0) = true from by simpa using hb hbad]
      rfl
  · rfl
theorem lawP_need {w : Int} {L : List (List Int)} : ∀ q ∈ (lawP_needs w L), q := by
  unfold lawP_needs
  simp only [List.forall_mem_cons, List.not_mem_nil, false_implies, implies_true, and_true]
  intro hl
  have hl' := light_len (L := L) (by simpa using hl)
  have hx := contL_len 0 L
  have e3 : lawP_s3 L = ((contL 0 L).length : Int) + 1 := by unfold lawP_s3; exact wrI (by simp; omega) (by simp; omega)
  have h3 : lawP_s3 L ≠ 0 := by omega
  obtain ⟨⟨⟨M, hM, _⟩, _, _, _, hq⟩, hi⟩ := pf_all w L
  have hM' : lawP_s5 w L = lawP_s4 w L ++ M := hM
  have hq' : (lawP_s4 w L).length ≤ 11 * (0 + ((contL 0 L).length - 0)) := by rw [← hi]; exact hq
  have h4 : (Int.ofNat (lawP_s4 w L).length).toNat = (lawP_s4 w L).length := rfl
  refine ⟨by decide, by omega, h3, fun _ => ⟨⟨Nat.zero_le _, by omega, by omega, by omega, by omega, by omega⟩, ?_⟩⟩
  repeat' first | refine ⟨by kernel_rfl, ?_⟩ | refine ⟨fun _ => Int.natCast_nonneg _, fun _ => Nat.zero_le _, fun _ => by rw [h4, hM', List.length_append]; omega, fun _ => rfl, fun _ => by omega, fun _ => by rw [hM']; exact List.take_left⟩ | kernel_rfl | exact trivial | refine ⟨trivial, ?_⟩
set_option maxRecDepth 1000000 in
theorem lawP_runs (w : Int) (L : List (List Int)) (hNeeds : ∀ pN ∈ (lawP_needs w L), pN) : Runs (runF (sums K_rsm) L_pf 5) (lawP_tpl.args [.i w]) (lawP_tpl.memo [.i w] [L]) lawP_tpl.n (SV.one (SC.bool (SB.v (lawP_0 w L))))
    ([]) :=
  Runs.of1 (ps := (lawP_needs w L)) (by kernel_rfl) hNeeds
noncomputable def lawP_out : List Pm → Lss → Option CRes
  | [.i w], [L] => some ⟨SV.one (SC.bool (SB.v (lawP_0 w L))),
    [],
    [], [], 4355⟩
  | _, _ => none
theorem lawP_ok : FOk Try.prog 5 (tplS lawP_tpl lawP_out) := by
  refine tplS_ok (runF_ok known_pfL 5) fun ps ls r hr hn _ => ?_
  unfold lawP_out at hr
  split at hr
  · cases hr; exact ⟨_, lawP_runs _ _ (fun p hp => lawP_need p hp), fun _ => by simp only [SV.den, SC.den, SB.val, lawP_0_eq]⟩
  · cases hr
noncomputable def K_lawP : List (Nat × Summ) := (5, tplS lawP_tpl lawP_out) :: K_rsm
theorem known_lawP : Known Try.prog (sums K_lawP) L_pf := known_cons known_pfL lawP_ok
end Go.Proofs.Ytmbfbhimdkjkoaa
