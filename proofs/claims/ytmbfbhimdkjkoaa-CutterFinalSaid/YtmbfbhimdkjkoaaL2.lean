/-
  CUTTER: the law CutterFinal. Conditions: none.
-/
import Derived.Test.YtmbfbhimdkjkoaaL1
import Derived.Test.YtmbfbhimdkjkoaaE1
set_option linter.all false
namespace Go.Proofs.Ytmbfbhimdkjkoaa
open Go.SX Go.RowKit
structure FT where
  bad : Bool
  s : St
/-- Is something else told than one error and nothing? -/
noncomputable def fgB (e : Int) (x : List GC) (s : St) : Bool := pushE x s != e || Int.ofNat (pushO x s).length != 0
noncomputable def fgN (X : List (List Int)) (e : Int) : Nat → AS → FT
  | 0, a => ⟨false, a.s⟩
  | k + 1, a => bif fgB e (ofRow (X.getD a.i [])) a.s then ⟨true, pushS (ofRow (X.getD a.i [])) a.s⟩
    else fgN X e k ⟨a.i + 1, pushS (ofRow (X.getD a.i [])) a.s, []⟩
noncomputable def fgG (k : Nat) : Nat := 1000000100 + k
noncomputable def fgH (k : Nat) : Nat := 106700 + k
noncomputable def fgF (X : List (List Int)) (k e : Int) : Fam AS FT where
  k := 300
  E a := [(11, ent 1000000000 (.one (I (Int.ofNat a.i)))), (10, ent 106588 (.one (I e))), (7, ent 2298 (.one (.ptr 2231 0))), (6, ent 2228 (.one (I k))), (5, ent 2209 (.one (.wh 2203)))]
  M a := [(2231, .blk 66 (stCells fgG a.s 106800 106801)), rowI 106800 1000000200 a.s.C, rowI 106801 1000000201 [], rowI 2203 2205 X]
  out t := .ite t.bad (.leaf .ret [(4, ent 106802 (.one (.bool (.c false))))] [])
    (.leaf (.exit 2) [(10, ent 106588 (.one (I e))), (7, ent 2298 (.one (.ptr 2231 0))), (6, ent 2228 (.one (I k))), (5, ent 2209 (.one (.wh 2203)))] [(2231, .blk 66 (stCells fgH t.s 106800 106801)), rowI 106800 106803 t.s.C, rowI 106801 106804 [], rowI 2203 2205 X])
  fin a := fgN X e (X.length - a.i) a
  next a _ := ⟨a.i + 1, pushS (ofRow (X.getD a.i [])) a.s, []⟩
  J a := a.i ≤ X.length ∧ X.length ≤ 1000 ∧ a.s.C.length ≤ 8
  μ a := X.length - a.i
noncomputable def fg_s0 (X : List (List Int)) (a : AS) : Prop :=
  decide (Int.ofNat a.i < Int.ofNat X.length) = true
noncomputable def fg_needs (X : List (List Int)) (k : Int) (e : Int) (a : AS) : List Prop :=
  [fg_s0 X a → 0 ≤ Int.ofNat a.i ∧ (Int.ofNat a.i).toNat < X.length ∧ (Int.ofNat a.i).toNat < X.length ∧ a.s.C.length ≤ 1000 ∧ 0 ≤ 800000,
    fg_s0 X a →
     ((push_0 (ofRow (X.getD (Int.ofNat a.i).toNat [])) (nrm a.s.l) (nrm a.s.y) a.s.a0 a.s.a1 a.s.tr a.s.op a.s.cl a.s.en a.s.mo a.s.la0 a.s.la1 a.s.la2 a.s.er a.s.C != e ||
     Int.ofNat (push_1 (ofRow (X.getD (Int.ofNat a.i).toNat [])) (nrm a.s.l) (nrm a.s.y) a.s.a0 a.s.a1 a.s.tr a.s.op a.s.cl a.s.en a.s.mo a.s.la0 a.s.la1 a.s.la2 a.s.er a.s.C []).length != 0) =
     true →
     ((fgF X k e).fin a).bad = false → False) ∧
     ((push_0 (ofRow (X.getD (Int.ofNat a.i).toNat [])) (nrm a.s.l) (nrm a.s.y) a.s.a0 a.s.a1 a.s.tr a.s.op a.s.cl a.s.en a.s.mo a.s.la0 a.s.la1 a.s.la2 a.s.er a.s.C != e ||
     Int.ofNat (push_1 (ofRow (X.getD (Int.ofNat a.i).toNat [])) (nrm a.s.l) (nrm a.s.y) a.s.a0 a.s.a1 a.s.tr a.s.op a.s.cl a.s.en a.s.mo a.s.la0 a.s.la1 a.s.la2 a.s.er a.s.C []).length != 0) =
     false →
     (((fgF X k e).next a 1).i ≤ X.length ∧ X.length ≤ 1000 ∧ ((fgF X k e).next a 1).s.C.length ≤ 8) ∧
     (fgF X k e).μ ((fgF X k e).next a 1) < (fgF X k e).μ a ∧
     (fgF X k e).fin ((fgF X k e).next a 1) = (fgF X k e).fin a ∧
     Int.ofNat ((fgF X k e).next a 1).i = IntKind.i64.wrap (Int.ofNat a.i + 1) ∧
     xi ((fgF X k e).next a 1).s.l 0 =
     push_2 (ofRow (X.getD (Int.ofNat a.i).toNat [])) (nrm a.s.l) (nrm a.s.y) a.s.a0 a.s.a1 a.s.tr a.s.op a.s.cl a.s.en a.s.mo a.s.la0 a.s.la1 a.s.la2 a.s.er ∧
     xi ((fgF X k e).next a 1).s.l 1 =
     push_3 (ofRow (X.getD (Int.ofNat a.i).toNat [])) (nrm a.s.l) (nrm a.s.y) a.s.a0 a.s.a1 a.s.tr a.s.op a.s.cl a.s.en a.s.mo a.s.la0 a.s.la1 a.s.la2 a.s.er ∧
     xi ((fgF X k e).next a 1).s.l 2 =
     push_4 (ofRow (X.getD (Int.ofNat a.i).toNat [])) (nrm a.s.l) (nrm a.s.y) a.s.a0 a.s.a1 a.s.tr a.s.op a.s.cl a.s.en a.s.mo a.s.la0 a.s.la1 a.s.la2 a.s.er ∧
     xi ((fgF X k e).next a 1).s.l 3 =
     push_5 (ofRow (X.getD (Int.ofNat a.i).toNat [])) (nrm a.s.l) (nrm a.s.y) a.s.a0 a.s.a1 a.s.tr a.s.op a.s.cl a.s.en a.s.mo a.s.la0 a.s.la1 a.s.la2 a.s.er ∧
     xi ((fgF X k e).next a 1).s.l 4 =
     push_6 (ofRow (X.getD (Int.ofNat a.i).toNat [])) (nrm a.s.l) (nrm a.s.y) a.s.a0 a.s.a1 a.s.tr a.s.op a.s.cl a.s.en a.s.mo a.s.la0 a.s.la1 a.s.la2 a.s.er ∧
     xi ((fgF X k e).next a 1).s.l 5 =
     push_7 (ofRow (X.getD (Int.ofNat a.i).toNat [])) (nrm a.s.l) (nrm a.s.y) a.s.a0 a.s.a1 a.s.tr a.s.op a.s.cl a.s.en a.s.mo a.s.la0 a.s.la1 a.s.la2 a.s.er ∧
     xi ((fgF X k e).next a 1).s.l 6 =
     push_8 (ofRow (X.getD (Int.ofNat a.i).toNat [])) (nrm a.s.l) (nrm a.s.y) a.s.a0 a.s.a1 a.s.tr a.s.op a.s.cl a.s.en a.s.mo a.s.la0 a.s.la1 a.s.la2 a.s.er ∧
     xi ((fgF X k e).next a 1).s.l 7 =
     push_9 (ofRow (X.getD (Int.ofNat a.i).toNat [])) (nrm a.s.l) (nrm a.s.y) a.s.a0 a.s.a1 a.s.tr a.s.op a.s.cl a.s.en a.s.mo a.s.la0 a.s.la1 a.s.la2 a.s.er ∧
     xi ((fgF X k e).next a 1).s.l 8 =
     push_10 (ofRow (X.getD (Int.ofNat a.i).toNat [])) (nrm a.s.l) (nrm a.s.y) a.s.a0 a.s.a1 a.s.tr a.s.op a.s.cl a.s.en a.s.mo a.s.la0 a.s.la1 a.s.la2 a.s.er ∧
     xi ((fgF X k e).next a 1).s.l 9 =
     push_11 (ofRow (X.getD (Int.ofNat a.i).toNat [])) (nrm a.s.l) (nrm a.s.y) a.s.a0 a.s.a1 a.s.tr a.s.op a.s.cl a.s.en a.s.mo a.s.la0 a.s.la1 a.s.la2 a.s.er ∧
     xi ((fgF X k e).next a 1).s.l 10 =
     push_12 (ofRow (X.getD (Int.ofNat a.i).toNat [])) (nrm a.s.l) (nrm a.s.y) a.s.a0 a.s.a1 a.s.tr a.s.op a.s.cl a.s.en a.s.mo a.s.la0 a.s.la1 a.s.la2 a.s.er ∧
     xi ((fgF X k e).next a 1).s.l 11 =
     push_13 (ofRow (X.getD (Int.ofNat a.i).toNat [])) (nrm a.s.l) (nrm a.s.y) a.s.a0 a.s.a1 a.s.tr a.s.op a.s.cl a.s.en a.s.mo a.s.la0 a.s.la1 a.s.la2 a.s.er ∧
     xi ((fgF X k e).next a 1).s.l 12 =
     push_14 (ofRow (X.getD (Int.ofNat a.i).toNat [])) (nrm a.s.l) (nrm a.s.y) a.s.a0 a.s.a1 a.s.tr a.s.op a.s.cl a.s.en a.s.mo a.s.la0 a.s.la1 a.s.la2 a.s.er ∧
     xb ((fgF X k e).next a 1).s.l 13 =
     push_15 (ofRow (X.getD (Int.ofNat a.i).toNat [])) (nrm a.s.l) (nrm a.s.y) a.s.a0 a.s.a1 a.s.tr a.s.op a.s.cl a.s.en a.s.mo a.s.la0 a.s.la1 a.s.la2
     a.s.er ∧
     xi ((fgF X k e).next a 1).s.l 14 =
     push_16 (ofRow (X.getD (Int.ofNat a.i).toNat [])) (nrm a.s.l) (nrm a.s.y) a.s.a0 a.s.a1 a.s.tr a.s.op a.s.cl a.s.en a.s.mo a.s.la0 a.s.la1 a.s.la2
     a.s.er ∧
     xb ((fgF X k e).next a 1).s.l 15 =
     push_17 (ofRow (X.getD (Int.ofNat a.i).toNat [])) (nrm a.s.l) (nrm a.s.y) a.s.a0 a.s.a1 a.s.tr a.s.op a.s.cl a.s.en a.s.mo a.s.la0 a.s.la1 a.s.la2
     a.s.er ∧
     xi ((fgF X k e).next a 1).s.l 16 =
     push_18 (ofRow (X.getD (Int.ofNat a.i).toNat [])) (nrm a.s.l) (nrm a.s.y) a.s.a0 a.s.a1 a.s.tr a.s.op a.s.cl a.s.en a.s.mo a.s.la0 a.s.la1 a.s.la2
     a.s.er ∧
     xi ((fgF X k e).next a 1).s.l 17 =
     push_19 (ofRow (X.getD (Int.ofNat a.i).toNat [])) (nrm a.s.l) (nrm a.s.y) a.s.a0 a.s.a1 a.s.tr a.s.op a.s.cl a.s.en a.s.mo a.s.la0 a.s.la1 a.s.la2
     a.s.er ∧
     xi ((fgF X k e).next a 1).s.l 18 =
     push_20 (ofRow (X.getD (Int.ofNat a.i).toNat [])) (nrm a.s.l) (nrm a.s.y) a.s.a0 a.s.a1 a.s.tr a.s.op a.s.cl a.s.en a.s.mo a.s.la0 a.s.la1
     a.s.la2 a.s.er ∧
     xi ((fgF X k e).next a 1).s.l 19 =
     push_21 (ofRow (X.getD (Int.ofNat a.i).toNat [])) (nrm a.s.l) (nrm a.s.y) a.s.a0 a.s.a1 a.s.tr a.s.op a.s.cl a.s.en a.s.mo a.s.la0 a.s.la1
     a.s.la2 a.s.er ∧
     xi ((fgF X k e).next a 1).s.l 20 =
     push_22 (ofRow (X.getD (Int.ofNat a.i).toNat [])) (nrm a.s.l) (nrm a.s.y) a.s.a0 a.s.a1 a.s.tr a.s.op a.s.cl a.s.en a.s.mo a.s.la0 a.s.la1
     a.s.la2 a.s.er ∧
     xb ((fgF X k e).next a 1).s.l 21 =
     push_23 (ofRow (X.getD (Int.ofNat a.i).toNat [])) (nrm a.s.l) (nrm a.s.y) a.s.a0 a.s.a1 a.s.tr a.s.op a.s.cl a.s.en a.s.mo a.s.la0 a.s.la1
     a.s.la2 a.s.er ∧
     xi ((fgF X k e).next a 1).s.y 0 =
     push_24 (ofRow (X.getD (Int.ofNat a.i).toNat [])) (nrm a.s.l) (nrm a.s.y) a.s.a0 a.s.a1 a.s.tr a.s.op a.s.cl a.s.en a.s.mo a.s.la0
     a.s.la1 a.s.la2 a.s.er ∧
     xi ((fgF X k e).next a 1).s.y 1 =
     push_25 (ofRow (X.getD (Int.ofNat a.i).toNat [])) (nrm a.s.l) (nrm a.s.y) a.s.a0 a.s.a1 a.s.tr a.s.op a.s.cl a.s.en a.s.mo a.s.la0
     a.s.la1 a.s.la2 a.s.er ∧
     xi ((fgF X k e).next a 1).s.y 2 =
     push_26 (ofRow (X.getD (Int.ofNat a.i).toNat [])) (nrm a.s.l) (nrm a.s.y) a.s.a0 a.s.a1 a.s.tr a.s.op a.s.cl a.s.en a.s.mo a.s.la0
     a.s.la1 a.s.la2 a.s.er ∧
     xi ((fgF X k e).next a 1).s.y 3 =
     push_27 (ofRow (X.getD (Int.ofNat a.i).toNat [])) (nrm a.s.l) (nrm a.s.y) a.s.a0 a.s.a1 a.s.tr a.s.op a.s.cl a.s.en a.s.mo a.s.la0
     a.s.la1 a.s.la2 a.s.er ∧
     xi ((fgF X k e).next a 1).s.y 4 =
     push_28 (ofRow (X.getD (Int.ofNat a.i).toNat [])) (nrm a.s.l) (nrm a.s.y) a.s.a0 a.s.a1 a.s.tr a.s.op a.s.cl a.s.en a.s.mo
     a.s.la0 a.s.la1 a.s.la2 a.s.er ∧
     xi ((fgF X k e).next a 1).s.y 5 =
     push_29 (ofRow (X.getD (Int.ofNat a.i).toNat [])) (nrm a.s.l) (nrm a.s.y) a.s.a0 a.s.a1 a.s.tr a.s.op a.s.cl a.s.en a.s.mo
     a.s.la0 a.s.la1 a.s.la2 a.s.er ∧
     xi ((fgF X k e).next a 1).s.y 6 =
     push_30 (ofRow (X.getD (Int.ofNat a.i).toNat [])) (nrm a.s.l) (nrm a.s.y) a.s.a0 a.s.a1 a.s.tr a.s.op a.s.cl a.s.en a.s.mo
     a.s.la0 a.s.la1 a.s.la2 a.s.er ∧
     xi ((fgF X k e).next a 1).s.y 7 =
     push_31 (ofRow (X.getD (Int.ofNat a.i).toNat [])) (nrm a.s.l) (nrm a.s.y) a.s.a0 a.s.a1 a.s.tr a.s.op a.s.cl a.s.en a.s.mo
     a.s.la0 a.s.la1 a.s.la2 a.s.er ∧
     xi ((fgF X k e).next a 1).s.y 8 =
     push_32 (ofRow (X.getD (Int.ofNat a.i).toNat [])) (nrm a.s.l) (nrm a.s.y) a.s.a0 a.s.a1 a.s.tr a.s.op a.s.cl a.s.en
     a.s.mo a.s.la0 a.s.la1 a.s.la2 a.s.er ∧
     xi ((fgF X k e).next a 1).s.y 9 =
     push_33 (ofRow (X.getD (Int.ofNat a.i).toNat [])) (nrm a.s.l) (nrm a.s.y) a.s.a0 a.s.a1 a.s.tr a.s.op a.s.cl a.s.en
     a.s.mo a.s.la0 a.s.la1 a.s.la2 a.s.er ∧
     xi ((fgF X k e).next a 1).s.y 10 =
     push_34 (ofRow (X.getD (Int.ofNat a.i).toNat [])) (nrm a.s.l) (nrm a.s.y) a.s.a0 a.s.a1 a.s.tr a.s.op a.s.cl a.s.en
     a.s.mo a.s.la0 a.s.la1 a.s.la2 a.s.er ∧
     xi ((fgF X k e).next a 1).s.y 11 =
     push_35 (ofRow (X.getD (Int.ofNat a.i).toNat [])) (nrm a.s.l) (nrm a.s.y) a.s.a0 a.s.a1 a.s.tr a.s.op a.s.cl
     a.s.en a.s.mo a.s.la0 a.s.la1 a.s.la2 a.s.er ∧
     xi ((fgF X k e).next a 1).s.y 12 =
     push_36 (ofRow (X.getD (Int.ofNat a.i).toNat [])) (nrm a.s.l) (nrm a.s.y) a.s.a0 a.s.a1 a.s.tr a.s.op a.s.cl
     a.s.en a.s.mo a.s.la0 a.s.la1 a.s.la2 a.s.er ∧
     xb ((fgF X k e).next a 1).s.y 13 =
     push_37 (ofRow (X.getD (Int.ofNat a.i).toNat [])) (nrm a.s.l) (nrm a.s.y) a.s.a0 a.s.a1 a.s.tr a.s.op a.s.cl
     a.s.en a.s.mo a.s.la0 a.s.la1 a.s.la2 a.s.er ∧
     xi ((fgF X k e).next a 1).s.y 14 =
     push_38 (ofRow (X.getD (Int.ofNat a.i).toNat [])) (nrm a.s.l) (nrm a.s.y) a.s.a0 a.s.a1 a.s.tr a.s.op a.s.cl
     a.s.en a.s.mo a.s.la0 a.s.la1 a.s.la2 a.s.er ∧
     xb ((fgF X k e).next a 1).s.y 15 =
     push_39 (ofRow (X.getD (Int.ofNat a.i).toNat [])) (nrm a.s.l) (nrm a.s.y) a.s.a0 a.s.a1 a.s.tr a.s.op
     a.s.cl a.s.en a.s.mo a.s.la0 a.s.la1 a.s.la2 a.s.er ∧
     xi ((fgF X k e).next a 1).s.y 16 =
     push_40 (ofRow (X.getD (Int.ofNat a.i).toNat [])) (nrm a.s.l) (nrm a.s.y) a.s.a0 a.s.a1 a.s.tr a.s.op
     a.s.cl a.s.en a.s.mo a.s.la0 a.s.la1 a.s.la2 a.s.er ∧
     xi ((fgF X k e).next a 1).s.y 17 =
     push_41 (ofRow (X.getD (Int.ofNat a.i).toNat [])) (nrm a.s.l) (nrm a.s.y) a.s.a0 a.s.a1 a.s.tr a.s.op
     a.s.cl a.s.en a.s.mo a.s.la0 a.s.la1 a.s.la2 a.s.er ∧
     xi ((fgF X k e).next a 1).s.y 18 =
     push_42 (ofRow (X.getD (Int.ofNat a.i).toNat [])) (nrm a.s.l) (nrm a.s.y) a.s.a0 a.s.a1 a.s.tr
     a.s.op a.s.cl a.s.en a.s.mo a.s.la0 a.s.la1 a.s.la2 a.s.er ∧
     xi ((fgF X k e).next a 1).s.y 19 =
     push_43 (ofRow (X.getD (Int.ofNat a.i).toNat [])) (nrm a.s.l) (nrm a.s.y) a.s.a0 a.s.a1 a.s.tr
     a.s.op a.s.cl a.s.en a.s.mo a.s.la0 a.s.la1 a.s.la2 a.s.er ∧
     xi ((fgF X k e).next a 1).s.y 20 =
     push_44 (ofRow (X.getD (Int.ofNat a.i).toNat [])) (nrm a.s.l) (nrm a.s.y) a.s.a0 a.s.a1 a.s.tr
     a.s.op a.s.cl a.s.en a.s.mo a.s.la0 a.s.la1 a.s.la2 a.s.er ∧
     xb ((fgF X k e).next a 1).s.y 21 =
     push_45 (ofRow (X.getD (Int.ofNat a.i).toNat [])) (nrm a.s.l) (nrm a.s.y) a.s.a0 a.s.a1 a.s.tr
     a.s.op a.s.cl a.s.en a.s.mo a.s.la0 a.s.la1 a.s.la2 a.s.er ∧
     ((fgF X k e).next a 1).s.a0 =
     push_46 (ofRow (X.getD (Int.ofNat a.i).toNat [])) (nrm a.s.l) (nrm a.s.y) a.s.a0 a.s.a1
     a.s.tr a.s.op a.s.cl a.s.en a.s.mo a.s.la0 a.s.la1 a.s.la2 a.s.er ∧
     ((fgF X k e).next a 1).s.a1 =
     push_47 (ofRow (X.getD (Int.ofNat a.i).toNat [])) (nrm a.s.l) (nrm a.s.y) a.s.a0 a.s.a1
     a.s.tr a.s.op a.s.cl a.s.en a.s.mo a.s.la0 a.s.la1 a.s.la2 a.s.er ∧
     ((fgF X k e).next a 1).s.tr =
     push_48 (ofRow (X.getD (Int.ofNat a.i).toNat [])) (nrm a.s.l) (nrm a.s.y) a.s.a0 a.s.a1
     a.s.tr a.s.op a.s.cl a.s.en a.s.mo a.s.la0 a.s.la1 a.s.la2 a.s.er ∧
     ((fgF X k e).next a 1).s.op =
     push_49 (ofRow (X.getD (Int.ofNat a.i).toNat [])) (nrm a.s.l) (nrm a.s.y) a.s.a0
     a.s.a1 a.s.tr a.s.op a.s.cl a.s.en a.s.mo a.s.la0 a.s.la1 a.s.la2 a.s.er ∧
     ((fgF X k e).next a 1).s.cl = a.s.cl ∧
     ((fgF X k e).next a 1).s.en =
     push_50 (ofRow (X.getD (Int.ofNat a.i).toNat [])) a.s.cl a.s.en a.s.mo a.s.la0
     a.s.la1 a.s.la2 a.s.er ∧
     ((fgF X k e).next a 1).s.mo =
     push_51 (ofRow (X.getD (Int.ofNat a.i).toNat [])) a.s.cl a.s.en a.s.mo a.s.la0
     a.s.la1 a.s.la2 a.s.er ∧
     ((fgF X k e).next a 1).s.la0 =
     push_52 (ofRow (X.getD (Int.ofNat a.i).toNat [])) a.s.cl a.s.en a.s.mo a.s.la0
     a.s.la1 a.s.la2 a.s.er ∧
     ((fgF X k e).next a 1).s.la1 =
     push_53 (ofRow (X.getD (Int.ofNat a.i).toNat [])) a.s.cl a.s.en a.s.mo
     a.s.la0 a.s.la1 a.s.la2 a.s.er ∧
     ((fgF X k e).next a 1).s.la2 =
     push_54 (ofRow (X.getD (Int.ofNat a.i).toNat [])) a.s.cl a.s.en a.s.mo
     a.s.la0 a.s.la1 a.s.la2 a.s.er ∧
     ((fgF X k e).next a 1).s.er =
     push_55 (ofRow (X.getD (Int.ofNat a.i).toNat [])) (nrm a.s.l)
     (nrm a.s.y) a.s.a0 a.s.a1 a.s.tr a.s.op a.s.cl a.s.en a.s.mo a.s.la0
     a.s.la1 a.s.la2 a.s.er a.s.C ∧
     ((fgF X k e).next a 1).s.C =
     push_56 (ofRow (X.getD (Int.ofNat a.i).toNat [])) (nrm a.s.l)
     (nrm a.s.y) a.s.a0 a.s.a1 a.s.tr a.s.op a.s.cl a.s.en a.s.mo a.s.la0
     a.s.la1 a.s.la2 a.s.er a.s.C ∧
     ([] : List (List Int)) = []),
    decide (Int.ofNat a.i < Int.ofNat X.length) = false →
     (((fgF X k e).fin a).bad = true → False) ∧
     (((fgF X k e).fin a).bad = false →
     xi ((fgF X k e).fin a).s.l 0 = xi a.s.l 0 ∧
     xi ((fgF X k e).fin a).s.l 1 = xi a.s.l 1 ∧
     xi ((fgF X k e).fin a).s.l 2 = xi a.s.l 2 ∧
     xi ((fgF X k e).fin a).s.l 3 = xi a.s.l 3 ∧
     xi ((fgF X k e).fin a).s.l 4 = xi a.s.l 4 ∧
     xi ((fgF X k e).fin a).s.l 5 = xi a.s.l 5 ∧
     xi ((fgF X k e).fin a).s.l 6 = xi a.s.l 6 ∧
     xi ((fgF X k e).fin a).s.l 7 = xi a.s.l 7 ∧
     xi ((fgF X k e).fin a).s.l 8 = xi a.s.l 8 ∧
     xi ((fgF X k e).fin a).s.l 9 = xi a.s.l 9 ∧
     xi ((fgF X k e).fin a).s.l 10 = xi a.s.l 10 ∧
     xi ((fgF X k e).fin a).s.l 11 = xi a.s.l 11 ∧
     xi ((fgF X k e).fin a).s.l 12 = xi a.s.l 12 ∧
     xb ((fgF X k e).fin a).s.l 13 = xb a.s.l 13 ∧
     xi ((fgF X k e).fin a).s.l 14 = xi a.s.l 14 ∧
     xb ((fgF X k e).fin a).s.l 15 = xb a.s.l 15 ∧
     xi ((fgF X k e).fin a).s.l 16 = xi a.s.l 16 ∧
     xi ((fgF X k e).fin a).s.l 17 = xi a.s.l 17 ∧
     xi ((fgF X k e).fin a).s.l 18 = xi a.s.l 18 ∧
     xi ((fgF X k e).fin a).s.l 19 = xi a.s.l 19 ∧
     xi ((fgF X k e).fin a).s.l 20 = xi a.s.l 20 ∧
     xb ((fgF X k e).fin a).s.l 21 = xb a.s.l 21 ∧
     xi ((fgF X k e).fin a).s.y 0 = xi a.s.y 0 ∧
     xi ((fgF X k e).fin a).s.y 1 = xi a.s.y 1 ∧
     xi ((fgF X k e).fin a).s.y 2 = xi a.s.y 2 ∧
     xi ((fgF X k e).fin a).s.y 3 = xi a.s.y 3 ∧
     xi ((fgF X k e).fin a).s.y 4 = xi a.s.y 4 ∧
     xi ((fgF X k e).fin a).s.y 5 = xi a.s.y 5 ∧
     xi ((fgF X k e).fin a).s.y 6 = xi a.s.y 6 ∧
     xi ((fgF X k e).fin a).s.y 7 = xi a.s.y 7 ∧
     xi ((fgF X k e).fin a).s.y 8 = xi a.s.y 8 ∧
     xi ((fgF X k e).fin a).s.y 9 = xi a.s.y 9 ∧
     xi ((fgF X k e).fin a).s.y 10 = xi a.s.y 10 ∧
     xi ((fgF X k e).fin a).s.y 11 = xi a.s.y 11 ∧
     xi ((fgF X k e).fin a).s.y 12 = xi a.s.y 12 ∧
     xb ((fgF X k e).fin a).s.y 13 = xb a.s.y 13 ∧
     xi ((fgF X k e).fin a).s.y 14 = xi a.s.y 14 ∧
     xb ((fgF X k e).fin a).s.y 15 = xb a.s.y 15 ∧
     xi ((fgF X k e).fin a).s.y 16 = xi a.s.y 16 ∧
     xi ((fgF X k e).fin a).s.y 17 = xi a.s.y 17 ∧
     xi ((fgF X k e).fin a).s.y 18 = xi a.s.y 18 ∧
     xi ((fgF X k e).fin a).s.y 19 = xi a.s.y 19 ∧
     xi ((fgF X k e).fin a).s.y 20 = xi a.s.y 20 ∧
     xb ((fgF X k e).fin a).s.y 21 = xb a.s.y 21 ∧
     ((fgF X k e).fin a).s.a0 = a.s.a0 ∧
     ((fgF X k e).fin a).s.a1 = a.s.a1 ∧
     ((fgF X k e).fin a).s.tr = a.s.tr ∧
     ((fgF X k e).fin a).s.op = a.s.op ∧
     ((fgF X k e).fin a).s.cl = a.s.cl ∧
     ((fgF X k e).fin a).s.en = a.s.en ∧
     ((fgF X k e).fin a).s.mo = a.s.mo ∧
     ((fgF X k e).fin a).s.la0 = a.s.la0 ∧
     ((fgF X k e).fin a).s.la1 = a.s.la1 ∧
     ((fgF X k e).fin a).s.la2 = a.s.la2 ∧
     ((fgF X k e).fin a).s.er = a.s.er ∧ ((fgF X k e).fin a).s.C = a.s.C ∧ ([] : List (List Int)) = [])]
theorem fg_round (X : List (List Int)) (k e : Int) (a : AS) (hNeeds : ∀ pN ∈ (fg_needs X k e a), pN) : RoundOk (roundC (fgF X k e) (bodyOf Try.prog (sums K_awake) L_fi 6 1) 106683 a) :=
  RoundOk.of (ps := (fg_needs X k e a)) (by kernel_rfl) (by kernel_rfl) hNeeds
theorem fgN_step {X : List (List Int)} {e : Int} {a : AS} (h : a.i < X.length) : fgN X e (X.length - a.i) a = bif fgB e (ofRow (X.getD a.i [])) a.s then ⟨true, pushS (ofRow (X.getD a.i [])) a.s⟩
    else fgN X e (X.length - (a.i + 1)) ⟨a.i + 1, pushS (ofRow (X.getD a.i [])) a.s, []⟩ := by
  have e : X.length - a.i = (X.length - (a.i + 1)) + 1 := by omega
  rw [e]; rfl
theorem fg_rounds (X : List (List Int)) (k e : Int) : RoundsOk (fgF X k e) (bodyOf Try.prog (sums K_awake) L_fi 6 1) 106683 := by
  intro a hJ
  obtain ⟨h1, h2, h3⟩ : a.i ≤ X.length ∧ X.length ≤ 1000 ∧ a.s.C.length ≤ 8 := hJ
  have hc := pushS_C (ofRow (X.getD a.i [])) a.s h3
  have e6 : IntKind.i64.wrap (Int.ofNat a.i + 1) = Int.ofNat (a.i + 1) := wrI (by simp; omega) (by simp; omega)
  refine fg_round X k e a ?_
  unfold fg_needs
  simp only [List.forall_mem_cons, List.not_mem_nil, false_implies, implies_true, and_true]
  have lt : fg_s0 X a → a.i < X.length := fun h => by unfold fg_s0 at h; simp at h; omega
  have e0 (h : a.i < X.length) (hb : fgB e (ofRow (X.getD a.i [])) a.s = true) : (fgF X k e).fin a = ⟨true, pushS (ofRow (X.getD a.i [])) a.s⟩ := by
    show fgN X e (X.length - a.i) a = _
    rw [fgN_step h, hb]; rfl
  refine ⟨fun h => ⟨by simp, lt h, lt h, by omega, by omega⟩, fun h => ⟨fun hb hf => ?_, fun hb => ⟨⟨?_, h2, hc⟩, ?_, ?_, e6.symm, ?_⟩⟩, fun h => ?_⟩
  · rw [e0 (lt h) hb] at hf; cases hf
  · have := lt h
    show a.i + 1 ≤ _; omega
  · have := lt h
    show X.length - (a.i + 1) < X.length - a.i; omega
  · show fgN X e (X.length - (a.i + 1)) _ = fgN X e (X.length - a.i) a
    have hb' : fgB e (ofRow (X.getD a.i [])) a.s = false := hb
    rw [fgN_step (lt h), hb']; rfl
  · repeat' first | refine ⟨by kernel_rfl, ?_⟩ | kernel_rfl | exact trivial | refine ⟨trivial, ?_⟩
  · have hi : a.i = X.length := by unfold fg_s0 at h; simp at h; omega
    have e : (fgF X k e).fin a = ⟨false, a.s⟩ := by
      show fgN X e (X.length - a.i) a = _
      rw [hi, Nat.sub_self]; rfl
    rw [e]
    refine ⟨fun h => (by cases h), fun _ => ?_⟩
    repeat' first | refine ⟨by kernel_rfl, ?_⟩ | kernel_rfl | exact trivial | refine ⟨trivial, ?_⟩
/-- The filter behind the item that is not valid. -/
noncomputable def fiS (X : List (List Int)) (k : Int) : St := pushS zeroG (frN X (k.toNat - 0) ⟨0, St0, []⟩).s
noncomputable def fgLp : LoopS := fun env mem m => match SX.look env 6, SX.look env 10, SX.look mem 2203 with
  | some ⟨_, _, _, .one (.int _ k)⟩, some ⟨_, _, _, .one (.int _ e)⟩, some (.row _ _ _ (.lst _ _ X)) => famS (fgF X k.val e.val) 106683 (fun _ _ => some ⟨k.val.toNat, fiS X k.val, []⟩) env mem m
  | _, _, _ => none
noncomputable def L_fg : FuncId → Nat → Option LoopS := addL L_fi 6 16 fgLp
theorem known_fgL : Known Try.prog (sums K_awake) L_fg := by
  refine known_addL 1 known_fiL (by kernel_rfl) (codeOk_of fun env mem m x h => ?_)
  unfold fgLp at h
  have hlen : (loopList Try.prog 6).length = 2 := by kernel_rfl
  split at h
  · exact ⟨_, fam_ok (bodyOf_ok plainN known_fiL (by omega)) (fg_rounds _ _ _), h⟩
  · cases h
theorem fgN_good (X : List (List Int)) (e : Int) (he : e ≠ 0) : ∀ (k : Nat) (a : AS), a.s.er = e → (fgN X e k a).bad = false ∧ (fgN X e k a).s.er = e
  | 0, a, h => ⟨rfl, h⟩
  | k + 1, a, h => by
    have h1 := pushE_stays (ofRow (X.getD a.i [])) a.s (by rw [h]; exact he)
    have h2 := pushO_stays (ofRow (X.getD a.i [])) a.s (by rw [h]; exact he)
    have hb : fgB e (ofRow (X.getD a.i [])) a.s = false := by
      unfold fgB
      rw [h1, h2, h]; simp
    unfold fgN
    rw [hb, cond_false]
    exact fgN_good X e he k _ (by show (pushS _ _).er = e; rw [← pushE_er, h1, h])
theorem frN_C (X : List (List Int)) : ∀ (k : Nat) (a : AS), a.s.C.length ≤ 8 → (frN X k a).s.C.length ≤ 8
  | 0, a, h => h
  | k + 1, a, h => frN_C X k _ (pushS_C _ _ h)
theorem fgN_C (X : List (List Int)) (e : Int) : ∀ (k : Nat) (a : AS), a.s.C.length ≤ 8 → (fgN X e k a).s.C.length ≤ 8
  | 0, a, h => h
  | k + 1, a, h => by
    unfold fgN
    cases fgB e (ofRow (X.getD a.i [])) a.s
    · exact fgN_C X e k _ (pushS_C _ _ h)
    · exact pushS_C _ _ h
theorem zero_pend (op : Bool) (er : Int) (C : List (List Int)) (h : er ≠ 0) : pending_0 op er C = 0 := by
  unfold pending_0
  rw [show (er != 0) = true from by simpa using h]; rfl
noncomputable def lawF_tpl : Tpl := ⟨[.one (.wh 0), .one (.int .i64)], [(0, .row true 3 1 1 [.int .i64])], 2⟩
noncomputable def lawF_s0 (w : Int) (L : List (List Int)) : List GC :=
  nrm ((fiF (contL 0 L) (mod_0 w (Int.ofNat (contL 0 L).length))).fin (AS.mk 0 St0 [])).s.l
noncomputable def lawF_s1 (w : Int) (L : List (List Int)) : List GC :=
  nrm ((fiF (contL 0 L) (mod_0 w (Int.ofNat (contL 0 L).length))).fin (AS.mk 0 St0 [])).s.y
noncomputable def lawF_s2 (w : Int) (L : List (List Int)) : Int :=
  ((fiF (contL 0 L) (mod_0 w (Int.ofNat (contL 0 L).length))).fin (AS.mk 0 St0 [])).s.a0
noncomputable def lawF_s3 (w : Int) (L : List (List Int)) : Int :=
  ((fiF (contL 0 L) (mod_0 w (Int.ofNat (contL 0 L).length))).fin (AS.mk 0 St0 [])).s.a1
noncomputable def lawF_s4 (w : Int) (L : List (List Int)) : Bool :=
  ((fiF (contL 0 L) (mod_0 w (Int.ofNat (contL 0 L).length))).fin (AS.mk 0 St0 [])).s.tr
noncomputable def lawF_s5 (w : Int) (L : List (List Int)) : Bool :=
  ((fiF (contL 0 L) (mod_0 w (Int.ofNat (contL 0 L).length))).fin (AS.mk 0 St0 [])).s.op
noncomputable def lawF_s6 (w : Int) (L : List (List Int)) : Bool :=
  ((fiF (contL 0 L) (mod_0 w (Int.ofNat (contL 0 L).length))).fin (AS.mk 0 St0 [])).s.cl
noncomputable def lawF_s7 (w : Int) (L : List (List Int)) : Bool :=
  ((fiF (contL 0 L) (mod_0 w (Int.ofNat (contL 0 L).length))).fin (AS.mk 0 St0 [])).s.en
noncomputable def lawF_s8 (w : Int) (L : List (List Int)) : Bool :=
  ((fiF (contL 0 L) (mod_0 w (Int.ofNat (contL 0 L).length))).fin (AS.mk 0 St0 [])).s.mo
noncomputable def lawF_s9 (w : Int) (L : List (List Int)) : Int :=
  ((fiF (contL 0 L) (mod_0 w (Int.ofNat (contL 0 L).length))).fin (AS.mk 0 St0 [])).s.la0
noncomputable def lawF_s10 (w : Int) (L : List (List Int)) : Int :=
  ((fiF (contL 0 L) (mod_0 w (Int.ofNat (contL 0 L).length))).fin (AS.mk 0 St0 [])).s.la1
noncomputable def lawF_s11 (w : Int) (L : List (List Int)) : Int :=
  ((fiF (contL 0 L) (mod_0 w (Int.ofNat (contL 0 L).length))).fin (AS.mk 0 St0 [])).s.la2
noncomputable def lawF_s12 (w : Int) (L : List (List Int)) : Int :=
  ((fiF (contL 0 L) (mod_0 w (Int.ofNat (contL 0 L).length))).fin (AS.mk 0 St0 [])).s.er
noncomputable def lawF_s13 (w : Int) (L : List (List Int)) : List (List Int) :=
  ((fiF (contL 0 L) (mod_0 w (Int.ofNat (contL 0 L).length))).fin (AS.mk 0 St0 [])).s.C
noncomputable def lawF_s14 (w : Int) (L : List (List Int)) : Int :=
  push_0 [GC.i 0, GC.i 0, GC.i 0, GC.i 0, GC.i 0, GC.i 0, GC.i 0, GC.i 0, GC.i 0, GC.i 0, GC.i 0, GC.i 0, GC.i 0, GC.b false, GC.i 0, GC.b false, GC.i 0, GC.i 0, GC.i 0, GC.i 0, GC.i 0, GC.b false]
   (lawF_s0 w L) (lawF_s1 w L) (lawF_s2 w L) (lawF_s3 w L) (lawF_s4 w L) (lawF_s5 w L) (lawF_s6 w L) (lawF_s7 w L) (lawF_s8 w L) (lawF_s9 w L) (lawF_s10 w L) (lawF_s11 w L) (lawF_s12 w L)
   (lawF_s13 w L)
noncomputable def lawF_s15 (w : Int) (L : List (List Int)) : Bool :=
  ((fgF (contL 0 L) (mod_0 w (Int.ofNat (contL 0 L).length)) (lawF_s14 w L)).fin
   (AS.mk (mod_0 w (Int.ofNat (contL 0 L).length)).toNat (fiS (contL 0 L) (mod_0 w (Int.ofNat (contL 0 L).length))) [])).s.op
noncomputable def lawF_s16 (w : Int) (L : List (List Int)) : Bool :=
  ((fgF (contL 0 L) (mod_0 w (Int.ofNat (contL 0 L).length)) (lawF_s14 w L)).fin
   (AS.mk (mod_0 w (Int.ofNat (contL 0 L).length)).toNat (fiS (contL 0 L) (mod_0 w (Int.ofNat (contL 0 L).length))) [])).s.cl
noncomputable def lawF_s17 (w : Int) (L : List (List Int)) : Int :=
  ((fgF (contL 0 L) (mod_0 w (Int.ofNat (contL 0 L).length)) (lawF_s14 w L)).fin
   (AS.mk (mod_0 w (Int.ofNat (contL 0 L).length)).toNat (fiS (contL 0 L) (mod_0 w (Int.ofNat (contL 0 L).length))) [])).s.er
noncomputable def lawF_0 (w : Int) (L : List (List Int)) : Bool :=
  bif !light_0 L then true
  else
   bif false then false
   else
   bif
   lawF_s14 w L == 0 ||
   pending_0
   (push_49
   [GC.i 0, GC.i 0, GC.i 0, GC.i 0, GC.i 0, GC.i 0, GC.i 0, GC.i 0, GC.i 0, GC.i 0, GC.i 0, GC.i 0, GC.i 0, GC.b false, GC.i 0, GC.b false, GC.i 0, GC.i 0, GC.i 0, GC.i 0, GC.i 0,
   GC.b false]
   (lawF_s0 w L) (lawF_s1 w L) (lawF_s2 w L) (lawF_s3 w L) (lawF_s4 w L) (lawF_s5 w L) (lawF_s6 w L) (lawF_s7 w L) (lawF_s8 w L) (lawF_s9 w L) (lawF_s10 w L) (lawF_s11 w L)
   (lawF_s12 w L))
   (push_55
   [GC.i 0, GC.i 0, GC.i 0, GC.i 0, GC.i 0, GC.i 0, GC.i 0, GC.i 0, GC.i 0, GC.i 0, GC.i 0, GC.i 0, GC.i 0, GC.b false, GC.i 0, GC.b false, GC.i 0, GC.i 0, GC.i 0, GC.i 0, GC.i 0,
   GC.b false]
   (lawF_s0 w L) (lawF_s1 w L) (lawF_s2 w L) (lawF_s3 w L) (lawF_s4 w L) (lawF_s5 w L) (lawF_s6 w L) (lawF_s7 w L) (lawF_s8 w L) (lawF_s9 w L) (lawF_s10 w L) (lawF_s11 w L) (lawF_s12 w L)
   (lawF_s13 w L))
   (push_56
   [GC.i 0, GC.i 0, GC.i 0, GC.i 0, GC.i 0, GC.i 0, GC.i 0, GC.i 0, GC.i 0, GC.i 0, GC.i 0, GC.i 0, GC.i 0, GC.b false, GC.i 0, GC.b false, GC.i 0, GC.i 0, GC.i 0, GC.i 0, GC.i 0,
   GC.b false]
   (lawF_s0 w L) (lawF_s1 w L) (lawF_s2 w L) (lawF_s3 w L) (lawF_s4 w L) (lawF_s5 w L) (lawF_s6 w L) (lawF_s7 w L) (lawF_s8 w L) (lawF_s9 w L) (lawF_s10 w L) (lawF_s11 w L) (lawF_s12 w L)
   (lawF_s13 w L)) !=
   0 then
   false
   else
   bif
   ((fgF (contL 0 L) (mod_0 w (Int.ofNat (contL 0 L).length)) (lawF_s14 w L)).fin
   (AS.mk (mod_0 w (Int.ofNat (contL 0 L).length)).toNat (fiS (contL 0 L) (mod_0 w (Int.ofNat (contL 0 L).length))) [])).bad then
   false
   else close_0 (lawF_s15 w L) (lawF_s16 w L) (lawF_s17 w L) == lawF_s14 w L && Int.ofNat (close_46 (lawF_s15 w L) (lawF_s16 w L) (lawF_s17 w L) []).length == 0
noncomputable def lawF_s18 (w : Int) (L : List (List Int)) : Bool :=
  push_49 [GC.i 0, GC.i 0, GC.i 0, GC.i 0, GC.i 0, GC.i 0, GC.i 0, GC.i 0, GC.i 0, GC.i 0, GC.i 0, GC.i 0, GC.i 0, GC.b false, GC.i 0, GC.b false, GC.i 0, GC.i 0, GC.i 0, GC.i 0, GC.i 0, GC.b false]
   (lawF_s0 w L) (lawF_s1 w L) (lawF_s2 w L) (lawF_s3 w L) (lawF_s4 w L) (lawF_s5 w L) (lawF_s6 w L) (lawF_s7 w L) (lawF_s8 w L) (lawF_s9 w L) (lawF_s10 w L) (lawF_s11 w L) (lawF_s12 w L)
noncomputable def lawF_s19 (w : Int) (L : List (List Int)) : Int :=
  push_55 [GC.i 0, GC.i 0, GC.i 0, GC.i 0, GC.i 0, GC.i 0, GC.i 0, GC.i 0, GC.i 0, GC.i 0, GC.i 0, GC.i 0, GC.i 0, GC.b false, GC.i 0, GC.b false, GC.i 0, GC.i 0, GC.i 0, GC.i 0, GC.i 0, GC.b false]
   (lawF_s0 w L) (lawF_s1 w L) (lawF_s2 w L) (lawF_s3 w L) (lawF_s4 w L) (lawF_s5 w L) (lawF_s6 w L) (lawF_s7 w L) (lawF_s8 w L) (lawF_s9 w L) (lawF_s10 w L) (lawF_s11 w L) (lawF_s12 w L)
   (lawF_s13 w L)
noncomputable def lawF_s20 (w : Int) (L : List (List Int)) : List (List Int) :=
  push_56 [GC.i 0, GC.i 0, GC.i 0, GC.i 0, GC.i 0, GC.i 0, GC.i 0, GC.i 0, GC.i 0, GC.i 0, GC.i 0, GC.i 0, GC.i 0, GC.b false, GC.i 0, GC.b false, GC.i 0, GC.i 0, GC.i 0, GC.i 0, GC.i 0, GC.b false]
   (lawF_s0 w L) (lawF_s1 w L) (lawF_s2 w L) (lawF_s3 w L) (lawF_s4 w L) (lawF_s5 w L) (lawF_s6 w L) (lawF_s7 w L) (lawF_s8 w L) (lawF_s9 w L) (lawF_s10 w L) (lawF_s11 w L) (lawF_s12 w L)
   (lawF_s13 w L)
noncomputable def lawF_s21 (w : Int) (L : List (List Int)) : List (List Int) :=
  (AS.mk (mod_0 w (Int.ofNat (contL 0 L).length)).toNat (fiS (contL 0 L) (mod_0 w (Int.ofNat (contL 0 L).length))) []).s.C
noncomputable def lawF_s22 (w : Int) (L : List (List Int)) : List GC :=
  (AS.mk (mod_0 w (Int.ofNat (contL 0 L).length)).toNat (fiS (contL 0 L) (mod_0 w (Int.ofNat (contL 0 L).length))) []).s.l
noncomputable def lawF_s23 (w : Int) (L : List (List Int)) : List GC :=
  (AS.mk (mod_0 w (Int.ofNat (contL 0 L).length)).toNat (fiS (contL 0 L) (mod_0 w (Int.ofNat (contL 0 L).length))) []).s.y
noncomputable def lawF_needs (w : Int) (L : List (List Int)) : List Prop :=
  [(!light_0 L) = false →
   Int.ofNat 0 ≤ 0 ∧
   L.length ≤ 1000000 ∧
   Int.ofNat (contL 0 L).length ≠ 0 ∧
   (false = false →
   (0 ≤ mod_0 w (Int.ofNat (contL 0 L).length) ∧
   0 ≤ (mod_0 w (Int.ofNat (contL 0 L).length)).toNat ∧ (mod_0 w (Int.ofNat (contL 0 L).length)).toNat ≤ (contL 0 L).length ∧ (contL 0 L).length ≤ 1000 ∧ 0 ≤ 8) ∧
   Int.ofNat 0 = 0 ∧
   Int.ofNat 0 = 0 ∧
   Int.ofNat 0 = 0 ∧
   Int.ofNat 0 = 0 ∧
   Int.ofNat 0 = 0 ∧
   Int.ofNat 0 = 0 ∧
   Int.ofNat 0 = 0 ∧
   Int.ofNat 0 = 0 ∧
   Int.ofNat 0 = 0 ∧
   Int.ofNat 0 = 0 ∧
   Int.ofNat 0 = 0 ∧
   Int.ofNat 0 = 0 ∧
   Int.ofNat 0 = 0 ∧
   Int.ofNat 0 = 0 ∧
   false = false ∧
   Int.ofNat 0 = 0 ∧
   false = false ∧
   Int.ofNat 0 = 0 ∧
   Int.ofNat 0 = 0 ∧
   Int.ofNat 0 = 0 ∧
   Int.ofNat 0 = 0 ∧
   Int.ofNat 0 = 0 ∧
   false = false ∧
   Int.ofNat 0 = 0 ∧
   Int.ofNat 0 = 0 ∧
   Int.ofNat 0 = 0 ∧
   Int.ofNat 0 = 0 ∧
   Int.ofNat 0 = 0 ∧
   Int.ofNat 0 = 0 ∧
   Int.ofNat 0 = 0 ∧
   Int.ofNat 0 = 0 ∧
   Int.ofNat 0 = 0 ∧
   Int.ofNat 0 = 0 ∧
   Int.ofNat 0 = 0 ∧
   Int.ofNat 0 = 0 ∧
   Int.ofNat 0 = 0 ∧
   false = false ∧
   Int.ofNat 0 = 0 ∧
   false = false ∧
   Int.ofNat 0 = 0 ∧
   Int.ofNat 0 = 0 ∧
   Int.ofNat 0 = 0 ∧
   Int.ofNat 0 = 0 ∧
   Int.ofNat 0 = 0 ∧
   false = false ∧
   Int.ofNat 0 = 0 ∧
   Int.ofNat 0 = 0 ∧
   false = false ∧
   false = false ∧
   false = false ∧
   false = false ∧
   false = false ∧
   Int.ofNat 0 = 0 ∧
   Int.ofNat 0 = 0 ∧
   Int.ofNat 0 = 0 ∧
   Int.ofNat 0 = 0 ∧
   (AS.mk 0 St0 []).s.C = [] ∧
   ([] : List (List Int)) = [] ∧
   (lawF_s13 w L).length ≤ 1000 ∧
   0 ≤ 800000 ∧
   ((push_0
   [GC.i 0, GC.i 0, GC.i 0, GC.i 0, GC.i 0, GC.i 0, GC.i 0,
   GC.i 0, GC.i 0, GC.i 0, GC.i 0, GC.i 0, GC.i 0,
   GC.b false, GC.i 0, GC.b false, GC.i 0, GC.i 0,
   GC.i 0, GC.i 0, GC.i 0, GC.b false]
   (lawF_s0 w L) (lawF_s1 w L) (lawF_s2 w L) (lawF_s3 w L)
   (lawF_s4 w L) (lawF_s5 w L) (lawF_s6 w L) (lawF_s7 w L)
   (lawF_s8 w L) (lawF_s9 w L) (lawF_s10 w L)
   (lawF_s11 w L) (lawF_s12 w L) (lawF_s13 w L) ==
   0 ||
   pending_0 (lawF_s18 w L) (lawF_s19 w L) (lawF_s20 w L) !=
   0) =
   false →
   ((AS.mk (mod_0 w (Int.ofNat (contL 0 L).length)).toNat
   (fiS (contL 0 L)
   (mod_0 w (Int.ofNat (contL 0 L).length)))
   []).i ≤
   (contL 0 L).length ∧
   (contL 0 L).length ≤ 1000 ∧ (lawF_s21 w L).length ≤ 8) ∧
   Int.ofNat
   (AS.mk (mod_0 w (Int.ofNat (contL 0 L).length)).toNat
   (fiS (contL 0 L)
   (mod_0 w (Int.ofNat (contL 0 L).length)))
   []).i =
   mod_0 w (Int.ofNat (contL 0 L).length) ∧
   xi (lawF_s22 w L) 0 =
   push_2
   [GC.i 0, GC.i 0, GC.i 0, GC.i 0, GC.i 0, GC.i 0,
   GC.i 0, GC.i 0, GC.i 0, GC.i 0, GC.i 0, GC.i 0,
   GC.i 0, GC.b false, GC.i 0, GC.b false, GC.i 0,
   GC.i 0, GC.i 0, GC.i 0, GC.i 0, GC.b false]
   (lawF_s0 w L) (lawF_s1 w L) (lawF_s2 w L)
   (lawF_s3 w L) (lawF_s4 w L) (lawF_s5 w L)
   (lawF_s6 w L) (lawF_s7 w L) (lawF_s8 w L)
   (lawF_s9 w L) (lawF_s10 w L) (lawF_s11 w L)
   (lawF_s12 w L) ∧
   xi (lawF_s22 w L) 1 =
   push_3
   [GC.i 0, GC.i 0, GC.i 0, GC.i 0, GC.i 0, GC.i 0,
   GC.i 0, GC.i 0, GC.i 0, GC.i 0, GC.i 0, GC.i 0,
   GC.i 0, GC.b false, GC.i 0, GC.b false, GC.i 0,
   GC.i 0, GC.i 0, GC.i 0, GC.i 0, GC.b false]
   (lawF_s0 w L) (lawF_s1 w L) (lawF_s2 w L)
   (lawF_s3 w L) (lawF_s4 w L) (lawF_s5 w L)
   (lawF_s6 w L) (lawF_s7 w L) (lawF_s8 w L)
   (lawF_s9 w L) (lawF_s10 w L) (lawF_s11 w L)
   (lawF_s12 w L) ∧
   xi (lawF_s22 w L) 2 =
   push_4
   [GC.i 0, GC.i 0, GC.i 0, GC.i 0, GC.i 0, GC.i 0,
   GC.i 0, GC.i 0, GC.i 0, GC.i 0, GC.i 0, GC.i 0,
   GC.i 0, GC.b false, GC.i 0, GC.b false, GC.i 0,
   GC.i 0, GC.i 0, GC.i 0, GC.i 0, GC.b false]
   (lawF_s0 w L) (lawF_s1 w L) (lawF_s2 w L)
   (lawF_s3 w L) (lawF_s4 w L) (lawF_s5 w L)
   (lawF_s6 w L) (lawF_s7 w L) (lawF_s8 w L)
   (lawF_s9 w L) (lawF_s10 w L) (lawF_s11 w L)
   (lawF_s12 w L) ∧
   xi (lawF_s22 w L) 3 =
   push_5
   [GC.i 0, GC.i 0, GC.i 0, GC.i 0, GC.i 0, GC.i 0,
   GC.i 0, GC.i 0, GC.i 0, GC.i 0, GC.i 0,
   GC.i 0, GC.i 0, GC.b false, GC.i 0,
   GC.b false, GC.i 0, GC.i 0, GC.i 0, GC.i 0,
   GC.i 0, GC.b false]
   (lawF_s0 w L) (lawF_s1 w L) (lawF_s2 w L)
   (lawF_s3 w L) (lawF_s4 w L) (lawF_s5 w L)
   (lawF_s6 w L) (lawF_s7 w L) (lawF_s8 w L)
   (lawF_s9 w L) (lawF_s10 w L) (lawF_s11 w L)
   (lawF_s12 w L) ∧
   xi (lawF_s22 w L) 4 =
   push_6
   [GC.i 0, GC.i 0, GC.i 0, GC.i 0, GC.i 0,
   GC.i 0, GC.i 0, GC.i 0, GC.i 0, GC.i 0,
   GC.i 0, GC.i 0, GC.i 0, GC.b false, GC.i 0,
   GC.b false, GC.i 0, GC.i 0, GC.i 0, GC.i 0,
   GC.i 0, GC.b false]
   (lawF_s0 w L) (lawF_s1 w L) (lawF_s2 w L)
   (lawF_s3 w L) (lawF_s4 w L) (lawF_s5 w L)
   (lawF_s6 w L) (lawF_s7 w L) (lawF_s8 w L)
   (lawF_s9 w L) (lawF_s10 w L) (lawF_s11 w L)
   (lawF_s12 w L) ∧
   xi (lawF_s22 w L) 5 =
   push_7
   [GC.i 0, GC.i 0, GC.i 0, GC.i 0, GC.i 0,
   GC.i 0, GC.i 0, GC.i 0, GC.i 0, GC.i 0,
   GC.i 0, GC.i 0, GC.i 0, GC.b false,
   GC.i 0, GC.b false, GC.i 0, GC.i 0,
   GC.i 0, GC.i 0, GC.i 0, GC.b false]
   (lawF_s0 w L) (lawF_s1 w L) (lawF_s2 w L)
   (lawF_s3 w L) (lawF_s4 w L) (lawF_s5 w L)
   (lawF_s6 w L) (lawF_s7 w L) (lawF_s8 w L)
   (lawF_s9 w L) (lawF_s10 w L) (lawF_s11 w L)
   (lawF_s12 w L) ∧
   xi (lawF_s22 w L) 6 =
   push_8
   [GC.i 0, GC.i 0, GC.i 0, GC.i 0, GC.i 0,
   GC.i 0, GC.i 0, GC.i 0, GC.i 0, GC.i 0,
   GC.i 0, GC.i 0, GC.i 0, GC.b false,
   GC.i 0, GC.b false, GC.i 0, GC.i 0,
   GC.i 0, GC.i 0, GC.i 0, GC.b false]
   (lawF_s0 w L) (lawF_s1 w L) (lawF_s2 w L)
   (lawF_s3 w L) (lawF_s4 w L) (lawF_s5 w L)
   (lawF_s6 w L) (lawF_s7 w L) (lawF_s8 w L)
   (lawF_s9 w L) (lawF_s10 w L)
   (lawF_s11 w L) (lawF_s12 w L) ∧
   xi (lawF_s22 w L) 7 =
   push_9
   [GC.i 0, GC.i 0, GC.i 0, GC.i 0, GC.i 0,
   GC.i 0, GC.i 0, GC.i 0, GC.i 0,
   GC.i 0, GC.i 0, GC.i 0, GC.i 0,
   GC.b false, GC.i 0, GC.b false,
   GC.i 0, GC.i 0, GC.i 0, GC.i 0,
   GC.i 0, GC.b false]
   (lawF_s0 w L) (lawF_s1 w L)
   (lawF_s2 w L) (lawF_s3 w L)
   (lawF_s4 w L) (lawF_s5 w L)
   (lawF_s6 w L) (lawF_s7 w L)
   (lawF_s8 w L) (lawF_s9 w L)
   (lawF_s10 w L) (lawF_s11 w L)
   (lawF_s12 w L) ∧
   xi (lawF_s22 w L) 8 =
   push_10
   [GC.i 0, GC.i 0, GC.i 0, GC.i 0,
   GC.i 0, GC.i 0, GC.i 0, GC.i 0,
   GC.i 0, GC.i 0, GC.i 0, GC.i 0,
   GC.i 0, GC.b false, GC.i 0,
   GC.b false, GC.i 0, GC.i 0, GC.i 0,
   GC.i 0, GC.i 0, GC.b false]
   (lawF_s0 w L) (lawF_s1 w L)
   (lawF_s2 w L) (lawF_s3 w L)
   (lawF_s4 w L) (lawF_s5 w L)
   (lawF_s6 w L) (lawF_s7 w L)
   (lawF_s8 w L) (lawF_s9 w L)
   (lawF_s10 w L) (lawF_s11 w L)
   (lawF_s12 w L) ∧
   xi (lawF_s22 w L) 9 =
   push_11
   [GC.i 0, GC.i 0, GC.i 0, GC.i 0,
   GC.i 0, GC.i 0, GC.i 0, GC.i 0,
   GC.i 0, GC.i 0, GC.i 0, GC.i 0,
   GC.i 0, GC.b false, GC.i 0,
   GC.b false, GC.i 0, GC.i 0,
   GC.i 0, GC.i 0, GC.i 0,
   GC.b false]
   (lawF_s0 w L) (lawF_s1 w L)
   (lawF_s2 w L) (lawF_s3 w L)
   (lawF_s4 w L) (lawF_s5 w L)
   (lawF_s6 w L) (lawF_s7 w L)
   (lawF_s8 w L) (lawF_s9 w L)
   (lawF_s10 w L) (lawF_s11 w L)
   (lawF_s12 w L) ∧
   xi (lawF_s22 w L) 10 =
   push_12
   [GC.i 0, GC.i 0, GC.i 0, GC.i 0,
   GC.i 0, GC.i 0, GC.i 0, GC.i 0,
   GC.i 0, GC.i 0, GC.i 0, GC.i 0,
   GC.i 0, GC.b false, GC.i 0,
   GC.b false, GC.i 0, GC.i 0,
   GC.i 0, GC.i 0, GC.i 0,
   GC.b false]
   (lawF_s0 w L) (lawF_s1 w L)
   (lawF_s2 w L) (lawF_s3 w L)
   (lawF_s4 w L) (lawF_s5 w L)
   (lawF_s6 w L) (lawF_s7 w L)
   (lawF_s8 w L) (lawF_s9 w L)
   (lawF_s10 w L) (lawF_s11 w L)
   (lawF_s12 w L) ∧
   xi (lawF_s22 w L) 11 =
   push_13
   [GC.i 0, GC.i 0, GC.i 0, GC.i 0,
   GC.i 0, GC.i 0, GC.i 0,
   GC.i 0, GC.i 0, GC.i 0,
   GC.i 0, GC.i 0, GC.i 0,
   GC.b false, GC.i 0,
   GC.b false, GC.i 0, GC.i 0,
   GC.i 0, GC.i 0, GC.i 0,
   GC.b false]
   (lawF_s0 w L) (lawF_s1 w L)
   (lawF_s2 w L) (lawF_s3 w L)
   (lawF_s4 w L) (lawF_s5 w L)
   (lawF_s6 w L) (lawF_s7 w L)
   (lawF_s8 w L) (lawF_s9 w L)
   (lawF_s10 w L) (lawF_s11 w L)
   (lawF_s12 w L) ∧
   xi (lawF_s22 w L) 12 =
   push_14
   [GC.i 0, GC.i 0, GC.i 0,
   GC.i 0, GC.i 0, GC.i 0,
   GC.i 0, GC.i 0, GC.i 0,
   GC.i 0, GC.i 0, GC.i 0,
   GC.i 0, GC.b false, GC.i 0,
   GC.b false, GC.i 0, GC.i 0,
   GC.i 0, GC.i 0, GC.i 0,
   GC.b false]
   (lawF_s0 w L) (lawF_s1 w L)
   (lawF_s2 w L) (lawF_s3 w L)
   (lawF_s4 w L) (lawF_s5 w L)
   (lawF_s6 w L) (lawF_s7 w L)
   (lawF_s8 w L) (lawF_s9 w L)
   (lawF_s10 w L) (lawF_s11 w L)
   (lawF_s12 w L) ∧
   xb (lawF_s22 w L) 13 =
   push_15
   [GC.i 0, GC.i 0, GC.i 0,
   GC.i 0, GC.i 0, GC.i 0,
   GC.i 0, GC.i 0, GC.i 0,
   GC.i 0, GC.i 0, GC.i 0,
   GC.i 0, GC.b false,
   GC.i 0, GC.b false,
   GC.i 0, GC.i 0, GC.i 0,
   GC.i 0, GC.i 0,
   GC.b false]
   (lawF_s0 w L) (lawF_s1 w L)
   (lawF_s2 w L) (lawF_s3 w L)
   (lawF_s4 w L) (lawF_s5 w L)
   (lawF_s6 w L) (lawF_s7 w L)
   (lawF_s8 w L) (lawF_s9 w L)
   (lawF_s10 w L)
   (lawF_s11 w L)
   (lawF_s12 w L) ∧
   xi (lawF_s22 w L) 14 =
   push_16
   [GC.i 0, GC.i 0, GC.i 0,
   GC.i 0, GC.i 0, GC.i 0,
   GC.i 0, GC.i 0, GC.i 0,
   GC.i 0, GC.i 0, GC.i 0,
   GC.i 0, GC.b false,
   GC.i 0, GC.b false,
   GC.i 0, GC.i 0, GC.i 0,
   GC.i 0, GC.i 0,
   GC.b false]
   (lawF_s0 w L)
   (lawF_s1 w L)
   (lawF_s2 w L)
   (lawF_s3 w L)
   (lawF_s4 w L)
   (lawF_s5 w L)
   (lawF_s6 w L)
   (lawF_s7 w L)
   (lawF_s8 w L)
   (lawF_s9 w L)
   (lawF_s10 w L)
   (lawF_s11 w L)
   (lawF_s12 w L) ∧
   xb (lawF_s22 w L) 15 =
   push_17
   [GC.i 0, GC.i 0, GC.i 0,
   GC.i 0, GC.i 0,
   GC.i 0, GC.i 0,
   GC.i 0, GC.i 0,
   GC.i 0, GC.i 0,
   GC.i 0, GC.i 0,
   GC.b false, GC.i 0,
   GC.b false, GC.i 0,
   GC.i 0, GC.i 0,
   GC.i 0, GC.i 0,
   GC.b false]
   (lawF_s0 w L)
   (lawF_s1 w L)
   (lawF_s2 w L)
   (lawF_s3 w L)
   (lawF_s4 w L)
   (lawF_s5 w L)
   (lawF_s6 w L)
   (lawF_s7 w L)
   (lawF_s8 w L)
   (lawF_s9 w L)
   (lawF_s10 w L)
   (lawF_s11 w L)
   (lawF_s12 w L) ∧
   xi (lawF_s22 w L) 16 =
   push_18
   [GC.i 0, GC.i 0,
   GC.i 0, GC.i 0,
   GC.i 0, GC.i 0,
   GC.i 0, GC.i 0,
   GC.i 0, GC.i 0,
   GC.i 0, GC.i 0,
   GC.i 0, GC.b false,
   GC.i 0, GC.b false,
   GC.i 0, GC.i 0,
   GC.i 0, GC.i 0,
   GC.i 0, GC.b false]
   (lawF_s0 w L)
   (lawF_s1 w L)
   (lawF_s2 w L)
   (lawF_s3 w L)
   (lawF_s4 w L)
   (lawF_s5 w L)
   (lawF_s6 w L)
   (lawF_s7 w L)
   (lawF_s8 w L)
   (lawF_s9 w L)
   (lawF_s10 w L)
   (lawF_s11 w L)
   (lawF_s12 w L) ∧
   xi (lawF_s22 w L) 17 =
   push_19
   [GC.i 0, GC.i 0,
   GC.i 0, GC.i 0,
   GC.i 0, GC.i 0,
   GC.i 0, GC.i 0,
   GC.i 0, GC.i 0,
   GC.i 0, GC.i 0,
   GC.i 0,
   GC.b false,
   GC.i 0,
   GC.b false,
   GC.i 0, GC.i 0,
   GC.i 0, GC.i 0,
   GC.i 0,
   GC.b false]
   (lawF_s0 w L)
   (lawF_s1 w L)
   (lawF_s2 w L)
   (lawF_s3 w L)
   (lawF_s4 w L)
   (lawF_s5 w L)
   (lawF_s6 w L)
   (lawF_s7 w L)
   (lawF_s8 w L)
   (lawF_s9 w L)
   (lawF_s10 w L)
   (lawF_s11 w L)
   (lawF_s12 w L) ∧
   xi (lawF_s22 w L) 18 =
   push_20
   [GC.i 0, GC.i 0,
   GC.i 0, GC.i 0,
   GC.i 0, GC.i 0,
   GC.i 0, GC.i 0,
   GC.i 0, GC.i 0,
   GC.i 0, GC.i 0,
   GC.i 0,
   GC.b false,
   GC.i 0,
   GC.b false,
   GC.i 0, GC.i 0,
   GC.i 0, GC.i 0,
   GC.i 0,
   GC.b false]
   (lawF_s0 w L)
   (lawF_s1 w L)
   (lawF_s2 w L)
   (lawF_s3 w L)
   (lawF_s4 w L)
   (lawF_s5 w L)
   (lawF_s6 w L)
   (lawF_s7 w L)
   (lawF_s8 w L)
   (lawF_s9 w L)
   (lawF_s10 w L)
   (lawF_s11 w L)
   (lawF_s12 w L) ∧
   xi (lawF_s22 w L) 19 =
   push_21
   [GC.i 0, GC.i 0,
   GC.i 0,
   GC.i 0,
   GC.i 0,
   GC.i 0,
   GC.i 0,
   GC.i 0,
   GC.i 0,
   GC.i 0,
   GC.i 0,
   GC.i 0,
   GC.i 0,
   GC.b false,
   GC.i 0,
   GC.b false,
   GC.i 0,
   GC.i 0,
   GC.i 0,
   GC.i 0,
   GC.i 0,
   GC.b false]
   (lawF_s0 w L)
   (lawF_s1 w L)
   (lawF_s2 w L)
   (lawF_s3 w L)
   (lawF_s4 w L)
   (lawF_s5 w L)
   (lawF_s6 w L)
   (lawF_s7 w L)
   (lawF_s8 w L)
   (lawF_s9 w L)
   (lawF_s10 w L)
   (lawF_s11 w L)
   (lawF_s12 w L) ∧
   xi (lawF_s22 w L)
   20 =
   push_22
   [GC.i 0,
   GC.i 0,
   GC.i 0,
   GC.i 0,
   GC.i 0,
   GC.i 0,
   GC.i 0,
   GC.i 0,
   GC.i 0,
   GC.i 0,
   GC.i 0,
   GC.i 0,
   GC.i 0,
   GC.b false,
   GC.i 0,
   GC.b false,
   GC.i 0,
   GC.i 0,
   GC.i 0,
   GC.i 0,
   GC.i 0,
   GC.b false]
   (lawF_s0 w L)
   (lawF_s1 w L)
   (lawF_s2 w L)
   (lawF_s3 w L)
   (lawF_s4 w L)
   (lawF_s5 w L)
   (lawF_s6 w L)
   (lawF_s7 w L)
   (lawF_s8 w L)
   (lawF_s9 w L)
   (lawF_s10 w L)
   (lawF_s11 w L)
   (lawF_s12 w
   L) ∧
   xb (lawF_s22 w L)
   21 =
   push_23
   [GC.i 0,
   GC.i 0,
   GC.i 0,
   GC.i 0,
   GC.i 0,
   GC.i 0,
   GC.i 0,
   GC.i 0,
   GC.i 0,
   GC.i 0,
   GC.i 0,
   GC.i 0,
   GC.i 0,
   GC.b
   false,
   GC.i 0,
   GC.b
   false,
   GC.i 0,
   GC.i 0,
   GC.i 0,
   GC.i 0,
   GC.i 0,
   GC.b
   false]
   (lawF_s0 w
   L)
   (lawF_s1 w
   L)
   (lawF_s2 w
   L)
   (lawF_s3 w
   L)
   (lawF_s4 w
   L)
   (lawF_s5 w
   L)
   (lawF_s6 w
   L)
   (lawF_s7 w
   L)
   (lawF_s8 w
   L)
   (lawF_s9 w
   L)
   (lawF_s10 w
   L)
   (lawF_s11 w
   L)
   (lawF_s12 w
   L) ∧
   xi
   (lawF_s23
   w L)
   0 =
   push_24
   [GC.i 0,
   GC.i 0,
   GC.i 0,
   GC.i 0,
   GC.i 0,
   GC.i 0,
   GC.i 0,
   GC.i 0,
   GC.i 0,
   GC.i 0,
   GC.i 0,
   GC.i 0,
   GC.i 0,
   GC.b
   false,
   GC.i 0,
   GC.b
   false,
   GC.i 0,
   GC.i 0,
   GC.i 0,
   GC.i 0,
   GC.i 0,
   GC.b
   false]
   (lawF_s0 w
   L)
   (lawF_s1 w
   L)
   (lawF_s2 w
   L)
   (lawF_s3 w
   L)
   (lawF_s4 w
   L)
   (lawF_s5 w
   L)
   (lawF_s6 w
   L)
   (lawF_s7 w
   L)
   (lawF_s8 w
   L)
   (lawF_s9 w
   L)
   (lawF_s10
   w L)
   (lawF_s11
   w L)
   (lawF_s12
   w L) ∧
   xi
   (lawF_s23
   w L)
   1 =
   push_25
   [GC.i 0,
   GC.i
   0,
   GC.i
   0,
   GC.i
   0,
   GC.i
   0,
   GC.i
   0,
   GC.i
   0,
   GC.i
   0,
   GC.i
   0,
   GC.i
   0,
   GC.i
   0,
   GC.i
   0,
   GC.i
   0,
   GC.b
   false,
   GC.i
   0,
   GC.b
   false,
   GC.i
   0,
   GC.i
   0,
   GC.i
   0,
   GC.i
   0,
   GC.i
   0,
   GC.b
   false]
   (lawF_s0
   w L)
   (lawF_s1
   w L)
   (lawF_s2
   w L)
   (lawF_s3
   w L)
   (lawF_s4
   w L)
   (lawF_s5
   w L)
   (lawF_s6
   w L)
   (lawF_s7
   w L)
   (lawF_s8
   w L)
   (lawF_s9
   w L)
   (lawF_s10
   w L)
   (lawF_s11
   w L)
   (lawF_s12
   w L) ∧
   xi
   (lawF_s23
   w L)
   2 =
   push_26
   [GC.i
   0,
   GC.i
   0,
   GC.i
   0,
   GC.i
   0,
   GC.i
   0,
   GC.i
   0,
   GC.i
   0,
   GC.i
   0,
   GC.i
   0,
   GC.i
   0,
   GC.i
   0,
   GC.i
   0,
   GC.i
   0,
   GC.b
   false,
   GC.i
   0,
   GC.b
   false,
   GC.i
   0,
   GC.i
   0,
   GC.i
   0,
   GC.i
   0,
   GC.i
   0,
   GC.b
   false]
   (lawF_s0
   w L)
   (lawF_s1
   w L)
   (lawF_s2
   w L)
   (lawF_s3
   w L)
   (lawF_s4
   w L)
   (lawF_s5
   w L)
   (lawF_s6
   w L)
   (lawF_s7
   w L)
   (lawF_s8
   w L)
   (lawF_s9
   w L)
   (lawF_s10
   w L)
   (lawF_s11
   w L)
   (lawF_s12
   w
   L) ∧
   xi
   (lawF_s23
   w
   L)
   3 =
   push_27
   [GC.i
   0,
   GC.i
   0,
   GC.i
   0,
   GC.i
   0,
   GC.i
   0,
   GC.i
   0,
   GC.i
   0,
   GC.i
   0,
   GC.i
   0,
   GC.i
   0,
   GC.i
   0,
   GC.i
   0,
   GC.i
   0,
   GC.b
   false,
   GC.i
   0,
   GC.b
   false,
   GC.i
   0,
   GC.i
   0,
   GC.i
   0,
   GC.i
   0,
   GC.i
   0,
   GC.b
   false]
   (lawF_s0
   w
   L)
   (lawF_s1
   w
   L)
   (lawF_s2
   w
   L)
   (lawF_s3
   w
   L)
   (lawF_s4
   w
   L)
   (lawF_s5
   w
   L)
   (lawF_s6
   w
   L)
   (lawF_s7
   w
   L)
   (lawF_s8
   w
   L)
   (lawF_s9
   w
   L)
   (lawF_s10
   w
   L)
   (lawF_s11
   w
   L)
   (lawF_s12
   w
   L) ∧
   xi
   (lawF_s23
   w
   L)
   4 =
   push_28
   [GC.i
   0,
   GC.i
   0,
   GC.i
   0,
   GC.i
   0,
   GC.i
   0,
   GC.i
   0,
   GC.i
   0,
   GC.i
   0,
   GC.i
   0,
   GC.i
   0,
   GC.i
   0,
   GC.i
   0,
   GC.i
   0,
   GC.b
   false,
   GC.i
   0,
   GC.b
   false,
   GC.i
   0,
   GC.i
   0,
   GC.i
   0,
   GC.i
   0,
   GC.i
   0,
   GC.b
   false]
   (lawF_s0
   w
   L)
   (lawF_s1
   w
   L)
   (lawF_s2
   w
   L)
   (lawF_s3
   w
   L)
   (lawF_s4
   w
   L)
   (lawF_s5
   w
   L)
   (lawF_s6
   w
   L)
   (lawF_s7
   w
   L)
   (lawF_s8
   w
   L)
   (lawF_s9
   w
   L)
   (lawF_s10
   w
   L)
   (lawF_s11
   w
   L)
   (lawF_s12
   w
   L) ∧
   xi
   (lawF_s23
   w
   L)
   5 =
   push_29
   [GC.i
   0,
   GC.i
   0,
   GC.i
   0,
   GC.i
   0,
   GC.i
   0,
   GC.i
   0,
   GC.i
   0,
   GC.i
   0,
   GC.i
   0,
   GC.i
   0,
   GC.i
   0,
   GC.i
   0,
   GC.i
   0,
   GC.b
   false,
   GC.i
   0,
   GC.b
   false,
   GC.i
   0,
   GC.i
   0,
   GC.i
   0,
   GC.i
   0,
   GC.i
   0,
   GC.b
   false]
   (lawF_s0
   w
   L)
   (lawF_s1
   w
   L)
   (lawF_s2
   w
   L)
   (lawF_s3
   w
   L)
   (lawF_s4
   w
   L)
   (lawF_s5
   w
   L)
   (lawF_s6
   w
   L)
   (lawF_s7
   w
   L)
   (lawF_s8
   w
   L)
   (lawF_s9
   w
   L)
   (lawF_s10
   w
   L)
   (lawF_s11
   w
   L)
   (lawF_s12
   w
   L) ∧
   xi
   (lawF_s23
   w
   L)
   6 =
   push_30
   [GC.i
   0,
   GC.i
   0,
   GC.i
   0,
   GC.i
   0,
   GC.i
   0,
   GC.i
   0,
   GC.i
   0,
   GC.i
   0,
   GC.i
   0,
   GC.i
   0,
   GC.i
   0,
   GC.i
   0,
   GC.i
   0,
   GC.b
   false,
   GC.i
   0,
   GC.b
   false,
   GC.i
   0,
   GC.i
   0,
   GC.i
   0,
   GC.i
   0,
   GC.i
   0,
   GC.b
   false]
   (lawF_s0
   w
   L)
   (lawF_s1
   w
   L)
   (lawF_s2
   w
   L)
   (lawF_s3
   w
   L)
   (lawF_s4
   w
   L)
   (lawF_s5
   w
   L)
   (lawF_s6
   w
   L)
   (lawF_s7
   w
   L)
   (lawF_s8
   w
   L)
   (lawF_s9
   w
   L)
   (lawF_s10
   w
   L)
   (lawF_s11
   w
   L)
   (lawF_s12
   w
   L) ∧
   xi
   (lawF_s23
   w
   L)
   7 =
   push_31
   [GC.i
   0,
   GC.i
   0,
   GC.i
   0,
   GC.i
   0,
   GC.i
   0,
   GC.i
   0,
   GC.i
   0,
   GC.i
   0,
   GC.i
   0,
   GC.i
   0,
   GC.i
   0,
   GC.i
   0,
   GC.i
   0,
   GC.b
   false,
   GC.i
   0,
   GC.b
   false,
   GC.i
   0,
   GC.i
   0,
   GC.i
   0,
   GC.i
   0,
   GC.i
   0,
   GC.b
   false]
   (lawF_s0
   w
   L)
   (lawF_s1
   w
   L)
   (lawF_s2
   w
   L)
   (lawF_s3
   w
   L)
   (lawF_s4
   w
   L)
   (lawF_s5
   w
   L)
   (lawF_s6
   w
   L)
   (lawF_s7
   w
   L)
   (lawF_s8
   w
   L)
   (lawF_s9
   w
   L)
   (lawF_s10
   w
   L)
   (lawF_s11
   w
   L)
   (lawF_s12
   w
   L) ∧
   xi
   (lawF_s23
   w
   L)
   8 =
   push_32
   [GC.i
   0,
   GC.i
   0,
   GC.i
   0,
   GC.i
   0,
   GC.i
   0,
   GC.i
   0,
   GC.i
   0,
   GC.i
   0,
   GC.i
   0,
   GC.i
   0,
   GC.i
   0,
   GC.i
   0,
   GC.i
   0,
   GC.b
   false,
   GC.i
   0,
   GC.b
   false,
   GC.i
   0,
   GC.i
   0,
   GC.i
   0,
   GC.i
   0,
   GC.i
   0,
   GC.b
   false]
   (lawF_s0
   w
   L)
   (lawF_s1
   w
   L)
   (lawF_s2
   w
   L)
   (lawF_s3
   w
   L)
   (lawF_s4
   w
   L)
   (lawF_s5
   w
   L)
   (lawF_s6
   w
   L)
   (lawF_s7
   w
   L)
   (lawF_s8
   w
   L)
   (lawF_s9
   w
   L)
   (lawF_s10
   w
   L)
   (lawF_s11
   w
   L)
   (lawF_s12
   w
   L) ∧
   xi
   (lawF_s23
   w
   L)
   9 =
   push_33
   [GC.i
   0,
   GC.i
   0,
   GC.i
   0,
   GC.i
   0,
   GC.i
   0,
   GC.i
   0,
   GC.i
   0,
   GC.i
   0,
   GC.i
   0,
   GC.i
   0,
   GC.i
   0,
   GC.i
   0,
   GC.i
   0,
   GC.b
   false,
   GC.i
   0,
   GC.b
   false,
   GC.i
   0,
   GC.i
   0,
   GC.i
   0,
   GC.i
   0,
   GC.i
   0,
   GC.b
   false]
   (lawF_s0
   w
   L)
   (lawF_s1
   w
   L)
   (lawF_s2
   w
   L)
   (lawF_s3
   w
   L)
   (lawF_s4
   w
   L)
   (lawF_s5
   w
   L)
   (lawF_s6
   w
   L)
   (lawF_s7
   w
   L)
   (lawF_s8
   w
   L)
   (lawF_s9
   w
   L)
   (lawF_s10
   w
   L)
   (lawF_s11
   w
   L)
   (lawF_s12
   w
   L) ∧
   xi
   (lawF_s23
   w
   L)
   10 =
   push_34
   [GC.i
   0,
   GC.i
   0,
   GC.i
   0,
   GC.i
   0,
   GC.i
   0,
   GC.i
   0,
   GC.i
   0,
   GC.i
   0,
   GC.i
   0,
   GC.i
   0,
   GC.i
   0,
   GC.i
   0,
   GC.i
   0,
   GC.b
   false,
   GC.i
   0,
   GC.b
   false,
   GC.i
   0,
   GC.i
   0,
   GC.i
   0,
   GC.i
   0,
   GC.i
   0,
   GC.b
   false]
   (lawF_s0
   w
   L)
   (lawF_s1
   w
   L)
   (lawF_s2
   w
   L)
   (lawF_s3
   w
   L)
   (lawF_s4
   w
   L)
   (lawF_s5
   w
   L)
   (lawF_s6
   w
   L)
   (lawF_s7
   w
   L)
   (lawF_s8
   w
   L)
   (lawF_s9
   w
   L)
   (lawF_s10
   w
   L)
   (lawF_s11
   w
   L)
   (lawF_s12
   w
   L) ∧
   xi
   (lawF_s23
   w
   L)
   11 =
   push_35
   [GC.i
   0,
   GC.i
   0,
   GC.i
   0,
   GC.i
   0,
   GC.i
   0,
   GC.i
   0,
   GC.i
   0,
   GC.i
   0,
   GC.i
   0,
   GC.i
   0,
   GC.i
   0,
   GC.i
   0,
   GC.i
   0,
   GC.b
   false,
   GC.i
   0,
   GC.b
   false,
   GC.i
   0,
   GC.i
   0,
   GC.i
   0,
   GC.i
   0,
   GC.i
   0,
   GC.b
   false]
   (lawF_s0
   w
   L)
   (lawF_s1
   w
   L)
   (lawF_s2
   w
   L)
   (lawF_s3
   w
   L)
   (lawF_s4
   w
   L)
   (lawF_s5
   w
   L)
   (lawF_s6
   w
   L)
   (lawF_s7
   w
   L)
   (lawF_s8
   w
   L)
   (lawF_s9
   w
   L)
   (lawF_s10
   w
   L)
   (lawF_s11
   w
   L)
   (lawF_s12
   w
   L) ∧
   xi
   (lawF_s23
   w
   L)
   12 =
   push_36
   [GC.i
   0,
   GC.i
   0,
   GC.i
   0,
   GC.i
   0,
   GC.i
   0,
   GC.i
   0,
   GC.i
   0,
   GC.i
   0,
   GC.i
   0,
   GC.i
   0,
   GC.i
   0,
   GC.i
   0,
   GC.i
   0,
   GC.b
   false,
   GC.i
   0,
   GC.b
   false,
   GC.i
   0,
   GC.i
   0,
   GC.i
   0,
   GC.i
   0,
   GC.i
   0,
   GC.b
   false]
   (lawF_s0
   w
   L)
   (lawF_s1
   w
   L)
   (lawF_s2
   w
   L)
   (lawF_s3
   w
   L)
   (lawF_s4
   w
   L)
   (lawF_s5
   w
   L)
   (lawF_s6
   w
   L)
   (lawF_s7
   w
   L)
   (lawF_s8
   w
   L)
   (lawF_s9
   w
   L)
   (lawF_s10
   w
   L)
   (lawF_s11
   w
   L)
   (lawF_s12
   w
   L) ∧
   xb
   (lawF_s23
   w
   L)
   13 =
   push_37
   [GC.i
   0,
   GC.i
   0,
   GC.i
   0,
   GC.i
   0,
   GC.i
   0,
   GC.i
   0,
   GC.i
   0,
   GC.i
   0,
   GC.i
   0,
   GC.i
   0,
   GC.i
   0,
   GC.i
   0,
   GC.i
   0,
   GC.b
   false,
   GC.i
   0,
   GC.b
   false,
   GC.i
   0,
   GC.i
   0,
   GC.i
   0,
   GC.i
   0,
   GC.i
   0,
   GC.b
   false]
   (lawF_s0
   w
   L)
   (lawF_s1
   w
   L)
   (lawF_s2
   w
   L)
   (lawF_s3
   w
   L)
   (lawF_s4
   w
   L)
   (lawF_s5
   w
   L)
   (lawF_s6
   w
   L)
   (lawF_s7
   w
   L)
   (lawF_s8
   w
   L)
   (lawF_s9
   w
   L)
   (lawF_s10
   w
   L)
   (lawF_s11
   w
   L)
   (lawF_s12
   w
   L) ∧
   xi
   (lawF_s23
   w
   L)
   14 =
   push_38
   [GC.i
   0,
   GC.i
   0,
   GC.i
   0,
   GC.i
   0,
   GC.i
   0,
   GC.i
   0,
   GC.i
   0,
   GC.i
   0,
   GC.i
   0,
   GC.i
   0,
   GC.i
   0,
   GC.i
   0,
   GC.i
   0,
   GC.b
   false,
   GC.i
   0,
   GC.b
   false,
   GC.i
   0,
   GC.i
   0,
   GC.i
   0,
   GC.i
   0,
   GC.i
   0,
   GC.b
   false]
   (lawF_s0
   w
   L)
   (lawF_s1
   w
   L)
   (lawF_s2
   w
   L)
   (lawF_s3
   w
   L)
   (lawF_s4
   w
   L)
   (lawF_s5
   w
   L)
   (lawF_s6
   w
   L)
   (lawF_s7
   w
   L)
   (lawF_s8
   w
   L)
   (lawF_s9
   w
   L)
   (lawF_s10
   w
   L)
   (lawF_s11
   w
   L)
   (lawF_s12
   w
   L) ∧
   xb
   (lawF_s23
   w
   L)
   15 =
   push_39
   [GC.i
   0,
   GC.i
   0,
   GC.i
   0,
   GC.i
   0,
   GC.i
   0,
   GC.i
   0,
   GC.i
   0,
   GC.i
   0,
   GC.i
   0,
   GC.i
   0,
   GC.i
   0,
   GC.i
   0,
   GC.i
   0,
   GC.b
   false,
   GC.i
   0,
   GC.b
   false,
   GC.i
   0,
   GC.i
   0,
   GC.i
   0,
   GC.i
   0,
   GC.i
   0,
   GC.b
   false]
   (lawF_s0
   w
   L)
   (lawF_s1
   w
   L)
   (lawF_s2
   w
   L)
   (lawF_s3
   w
   L)
   (lawF_s4
   w
   L)
   (lawF_s5
   w
   L)
   (lawF_s6
   w
   L)
   (lawF_s7
   w
   L)
   (lawF_s8
   w
   L)
   (lawF_s9
   w
   L)
   (lawF_s10
   w
   L)
   (lawF_s11
   w
   L)
   (lawF_s12
   w
   L) ∧
   xi
   (lawF_s23
   w
   L)
   16 =
   push_40
   [GC.i
   0,
   GC.i
   0,
   GC.i
   0,
   GC.i
   0,
   GC.i
   0,
   GC.i
   0,
   GC.i
   0,
   GC.i
   0,
   GC.i
   0,
   GC.i
   0,
   GC.i
   0,
   GC.i
   0,
   GC.i
   0,
   GC.b
   false,
   GC.i
   0,
   GC.b
   false,
   GC.i
   0,
   GC.i
   0,
   GC.i
   0,
   GC.i
   0,
   GC.i
   0,
   GC.b
   false]
   (lawF_s0
   w
   L)
   (lawF_s1
   w
   L)
   (lawF_s2
   w
   L)
   (lawF_s3
   w
   L)
   (lawF_s4
   w
   L)
   (lawF_s5
   w
   L)
   (lawF_s6
   w
   L)
   (lawF_s7
   w
   L)
   (lawF_s8
   w
   L)
   (lawF_s9
   w
   L)
   (lawF_s10
   w
   L)
   (lawF_s11
   w
   L)
   (lawF_s12
   w
   L) ∧
   xi
   (lawF_s23
   w
   L)
   17 =
   push_41
   [GC.i
   0,
   GC.i
   0,
   GC.i
   0,
   GC.i
   0,
   GC.i
   0,
   GC.i
   0,
   GC.i
   0,
   GC.i
   0,
   GC.i
   0,
   GC.i
   0,
   GC.i
   0,
   GC.i
   0,
   GC.i
   0,
   GC.b
   false,
   GC.i
   0,
   GC.b
   false,
   GC.i
   0,
   GC.i
   0,
   GC.i
   0,
   GC.i
   0,
   GC.i
   0,
   GC.b
   false]
   (lawF_s0
   w
   L)
   (lawF_s1
   w
   L)
   (lawF_s2
   w
   L)
   (lawF_s3
   w
   L)
   (lawF_s4
   w
   L)
   (lawF_s5
   w
   L)
   (lawF_s6
   w
   L)
   (lawF_s7
   w
   L)
   (lawF_s8
   w
   L)
   (lawF_s9
   w
   L)
   (lawF_s10
   w
   L)
   (lawF_s11
   w
   L)
   (lawF_s12
   w
   L) ∧
   xi
   (lawF_s23
   w
   L)
   18 =
   push_42
   [GC.i
   0,
   GC.i
   0,
   GC.i
   0,
   GC.i
   0,
   GC.i
   0,
   GC.i
   0,
   GC.i
   0,
   GC.i
   0,
   GC.i
   0,
   GC.i
   0,
   GC.i
   0,
   GC.i
   0,
   GC.i
   0,
   GC.b
   false,
   GC.i
   0,
   GC.b
   false,
   GC.i
   0,
   GC.i
   0,
   GC.i
   0,
   GC.i
   0,
   GC.i
   0,
   GC.b
   false]
   (lawF_s0
   w
   L)
   (lawF_s1
   w
   L)
   (lawF_s2
   w
   L)
   (lawF_s3
   w
   L)
   (lawF_s4
   w
   L)
   (lawF_s5
   w
   L)
   (lawF_s6
   w
   L)
   (lawF_s7
   w
   L)
   (lawF_s8
   w
   L)
   (lawF_s9
   w
   L)
   (lawF_s10
   w
   L)
   (lawF_s11
   w
   L)
   (lawF_s12
   w
   L) ∧
   xi
   (lawF_s23
   w
   L)
   19 =
   push_43
   [GC.i
   0,
   GC.i
   0,
   GC.i
   0,
   GC.i
   0,
   GC.i
   0,
   GC.i
   0,
   GC.i
   0,
   GC.i
   0,
   GC.i
   0,
   GC.i
   0,
   GC.i
   0,
   GC.i
   0,
   GC.i
   0,
   GC.b
   false,
   GC.i
   0,
   GC.b
   false,
   GC.i
   0,
   GC.i
   0,
   GC.i
   0,
   GC.i
   0,
   GC.i
   0,
   GC.b
   false]
   (lawF_s0
   w
   L)
   (lawF_s1
   w
   L)
   (lawF_s2
   w
   L)
   (lawF_s3
   w
   L)
   (lawF_s4
   w
   L)
   (lawF_s5
   w
   L)
   (lawF_s6
   w
   L)
   (lawF_s7
   w
   L)
   (lawF_s8
   w
   L)
   (lawF_s9
   w
   L)
   (lawF_s10
   w
   L)
   (lawF_s11
   w
   L)
   (lawF_s12
   w
   L) ∧
   xi
   (lawF_s23
   w
   L)
   20 =
   push_44
   [GC.i
   0,
   GC.i
   0,
   GC.i
   0,
   GC.i
   0,
   GC.i
   0,
   GC.i
   0,
   GC.i
   0,
   GC.i
   0,
   GC.i
   0,
   GC.i
   0,
   GC.i
   0,
   GC.i
   0,
   GC.i
   0,
   GC.b
   false,
   GC.i
   0,
   GC.b
   false,
   GC.i
   0,
   GC.i
   0,
   GC.i
   0,
   GC.i
   0,
   GC.i
   0,
   GC.b
   false]
   (lawF_s0
   w
   L)
   (lawF_s1
   w
   L)
   (lawF_s2
   w
   L)
   (lawF_s3
   w
   L)
   (lawF_s4
   w
   L)
   (lawF_s5
   w
   L)
   (lawF_s6
   w
   L)
   (lawF_s7
   w
   L)
   (lawF_s8
   w
   L)
   (lawF_s9
   w
   L)
   (lawF_s10
   w
   L)
   (lawF_s11
   w
   L)
   (lawF_s12
   w
   L) ∧
   xb
   (lawF_s23
   w
   L)
   21 =
   push_45
   [GC.i
   0,
   GC.i
   0,
   GC.i
   0,
   GC.i
   0,
   GC.i
   0,
   GC.i
   0,
   GC.i
   0,
   GC.i
   0,
   GC.i
   0,
   GC.i
   0,
   GC.i
   0,
   GC.i
   0,
   GC.i
   0,
   GC.b
   false,
   GC.i
   0,
   GC.b
   false,
   GC.i
   0,
   GC.i
   0,
   GC.i
   0,
   GC.i
   0,
   GC.i
   0,
   GC.b
   false]
   (lawF_s0
   w
   L)
   (lawF_s1
   w
   L)
   (lawF_s2
   w
   L)
   (lawF_s3
   w
   L)
   (lawF_s4
   w
   L)
   (lawF_s5
   w
   L)
   (lawF_s6
   w
   L)
   (lawF_s7
   w
   L)
   (lawF_s8
   w
   L)
   (lawF_s9
   w
   L)
   (lawF_s10
   w
   L)
   (lawF_s11
   w
   L)
   (lawF_s12
   w
   L) ∧
   (AS.mk
   (mod_0
   w
   (Int.ofNat
   (contL
   0
   L).length)).toNat
   (fiS
   (contL
   0
   L)
   (mod_0
   w
   (Int.ofNat
   (contL
   0
   L).length)))
   []).s.a0 =
   push_46
   [GC.i
   0,
   GC.i
   0,
   GC.i
   0,
   GC.i
   0,
   GC.i
   0,
   GC.i
   0,
   GC.i
   0,
   GC.i
   0,
   GC.i
   0,
   GC.i
   0,
   GC.i
   0,
   GC.i
   0,
   GC.i
   0,
   GC.b
   false,
   GC.i
   0,
   GC.b
   false,
   GC.i
   0,
   GC.i
   0,
   GC.i
   0,
   GC.i
   0,
   GC.i
   0,
   GC.b
   false]
   (lawF_s0
   w
   L)
   (lawF_s1
   w
   L)
   (lawF_s2
   w
   L)
   (lawF_s3
   w
   L)
   (lawF_s4
   w
   L)
   (lawF_s5
   w
   L)
   (lawF_s6
   w
   L)
   (lawF_s7
   w
   L)
   (lawF_s8
   w
   L)
   (lawF_s9
   w
   L)
   (lawF_s10
   w
   L)
   (lawF_s11
   w
   L)
   (lawF_s12
   w
   L) ∧
   (AS.mk
   (mod_0
   w
   (Int.ofNat
   (contL
   0
   L).length)).toNat
   (fiS
   (contL
   0
   L)
   (mod_0
   w
   (Int.ofNat
   (contL
   0
   L).length)))
   []).s.a1 =
   push_47
   [GC.i
   0,
   GC.i
   0,
   GC.i
   0,
   GC.i
   0,
   GC.i
   0,
   GC.i
   0,
   GC.i
   0,
   GC.i
   0,
   GC.i
   0,
   GC.i
   0,
   GC.i
   0,
   GC.i
   0,
   GC.i
   0,
   GC.b
   false,
   GC.i
   0,
   GC.b
   false,
   GC.i
   0,
   GC.i
   0,
   GC.i
   0,
   GC.i
   0,
   GC.i
   0,
   GC.b
   false]
   (lawF_s0
   w
   L)
   (lawF_s1
   w
   L)
   (lawF_s2
   w
   L)
   (lawF_s3
   w
   L)
   (lawF_s4
   w
   L)
   (lawF_s5
   w
   L)
   (lawF_s6
   w
   L)
   (lawF_s7
   w
   L)
   (lawF_s8
   w
   L)
   (lawF_s9
   w
   L)
   (lawF_s10
   w
   L)
   (lawF_s11
   w
   L)
   (lawF_s12
   w
   L) ∧
   (AS.mk
   (mod_0
   w
   (Int.ofNat
   (contL
   0
   L).length)).toNat
   (fiS
   (contL
   0
   L)
   (mod_0
   w
   (Int.ofNat
   (contL
   0
   L).length)))
   []).s.tr =
   push_48
   [GC.i
   0,
   GC.i
   0,
   GC.i
   0,
   GC.i
   0,
   GC.i
   0,
   GC.i
   0,
   GC.i
   0,
   GC.i
   0,
   GC.i
   0,
   GC.i
   0,
   GC.i
   0,
   GC.i
   0,
   GC.i
   0,
   GC.b
   false,
   GC.i
   0,
   GC.b
   false,
   GC.i
   0,
   GC.i
   0,
   GC.i
   0,
   GC.i
   0,
   GC.i
   0,
   GC.b
   false]
   (lawF_s0
   w
   L)
   (lawF_s1
   w
   L)
   (lawF_s2
   w
   L)
   (lawF_s3
   w
   L)
   (lawF_s4
   w
   L)
   (lawF_s5
   w
   L)
   (lawF_s6
   w
   L)
   (lawF_s7
   w
   L)
   (lawF_s8
   w
   L)
   (lawF_s9
   w
   L)
   (lawF_s10
   w
   L)
   (lawF_s11
   w
   L)
   (lawF_s12
   w
   L) ∧
   (AS.mk
   (mod_0
   w
   (Int.ofNat
   (contL
   0
   L).length)).toNat
   (fiS
   (contL
   0
   L)
   (mod_0
   w
   (Int.ofNat
   (contL
   0
   L).length)))
   []).s.op =
   lawF_s18
   w
   L ∧
   (AS.mk
   (mod_0
   w
   (Int.ofNat
   (contL
   0
   L).length)).toNat
   (fiS
   (contL
   0
   L)
   (mod_0
   w
   (Int.ofNat
   (contL
   0
   L).length)))
   []).s.cl =
   lawF_s6
   w
   L ∧
   (AS.mk
   (mod_0
   w
   (Int.ofNat
   (contL
   0
   L).length)).toNat
   (fiS
   (contL
   0
   L)
   (mod_0
   w
   (Int.ofNat
   (contL
   0
   L).length)))
   []).s.en =
   push_50
   [GC.i
   0,
   GC.i
   0,
   GC.i
   0,
   GC.i
   0,
   GC.i
   0,
   GC.i
   0,
   GC.i
   0,
   GC.i
   0,
   GC.i
   0,
   GC.i
   0,
   GC.i
   0,
   GC.i
   0,
   GC.i
   0,
   GC.b
   false,
   GC.i
   0,
   GC.b
   false,
   GC.i
   0,
   GC.i
   0,
   GC.i
   0,
   GC.i
   0,
   GC.i
   0,
   GC.b
   false]
   (lawF_s6
   w
   L)
   (lawF_s7
   w
   L)
   (lawF_s8
   w
   L)
   (lawF_s9
   w
   L)
   (lawF_s10
   w
   L)
   (lawF_s11
   w
   L)
   (lawF_s12
   w
   L) ∧
   (AS.mk
   (mod_0
   w
   (Int.ofNat
   (contL
   0
   L).length)).toNat
   (fiS
   (contL
   0
   L)
   (mod_0
   w
   (Int.ofNat
   (contL
   0
   L).length)))
   []).s.mo =
   push_51
   [GC.i
   0,
   GC.i
   0,
   GC.i
   0,
   GC.i
   0,
   GC.i
   0,
   GC.i
   0,
   GC.i
   0,
   GC.i
   0,
   GC.i
   0,
   GC.i
   0,
   GC.i
   0,
   GC.i
   0,
   GC.i
   0,
   GC.b
   false,
   GC.i
   0,
   GC.b
   false,
   GC.i
   0,
   GC.i
   0,
   GC.i
   0,
   GC.i
   0,
   GC.i
   0,
   GC.b
   false]
   (lawF_s6
   w
   L)
   (lawF_s7
   w
   L)
   (lawF_s8
   w
   L)
   (lawF_s9
   w
   L)
   (lawF_s10
   w
   L)
   (lawF_s11
   w
   L)
   (lawF_s12
   w
   L) ∧
   (AS.mk
   (mod_0
   w
   (Int.ofNat
   (contL
   0
   L).length)).toNat
   (fiS
   (contL
   0
   L)
   (mod_0
   w
   (Int.ofNat
   (contL
   0
   L).length)))
   []).s.la0 =
   push_52
   [GC.i
   0,
   GC.i
   0,
   GC.i
   0,
   GC.i
   0,
   GC.i
   0,
   GC.i
   0,
   GC.i
   0,
   GC.i
   0,
   GC.i
   0,
   GC.i
   0,
   GC.i
   0,
   GC.i
   0,
   GC.i
   0,
   GC.b
   false,
   GC.i
   0,
   GC.b
   false,
   GC.i
   0,
   GC.i
   0,
   GC.i
   0,
   GC.i
   0,
   GC.i
   0,
   GC.b
   false]
   (lawF_s6
   w
   L)
   (lawF_s7
   w
   L)
   (lawF_s8
   w
   L)
   (lawF_s9
   w
   L)
   (lawF_s10
   w
   L)
   (lawF_s11
   w
   L)
   (lawF_s12
   w
   L) ∧
   (AS.mk
   (mod_0
   w
   (Int.ofNat
   (contL
   0
   L).length)).toNat
   (fiS
   (contL
   0
   L)
   (mod_0
   w
   (Int.ofNat
   (contL
   0
   L).length)))
   []).s.la1 =
   push_53
   [GC.i
   0,
   GC.i
   0,
   GC.i
   0,
   GC.i
   0,
   GC.i
   0,
   GC.i
   0,
   GC.i
   0,
   GC.i
   0,
   GC.i
   0,
   GC.i
   0,
   GC.i
   0,
   GC.i
   0,
   GC.i
   0,
   GC.b
   false,
   GC.i
   0,
   GC.b
   false,
   GC.i
   0,
   GC.i
   0,
   GC.i
   0,
   GC.i
   0,
   GC.i
   0,
   GC.b
   false]
   (lawF_s6
   w
   L)
   (lawF_s7
   w
   L)
   (lawF_s8
   w
   L)
   (lawF_s9
   w
   L)
   (lawF_s10
   w
   L)
   (lawF_s11
   w
   L)
   (lawF_s12
   w
   L) ∧
   (AS.mk
   (mod_0
   w
   (Int.ofNat
   (contL
   0
   L).length)).toNat
   (fiS
   (contL
   0
   L)
   (mod_0
   w
   (Int.ofNat
   (contL
   0
   L).length)))
   []).s.la2 =
   push_54
   [GC.i
   0,
   GC.i
   0,
   GC.i
   0,
   GC.i
   0,
   GC.i
   0,
   GC.i
   0,
   GC.i
   0,
   GC.i
   0,
   GC.i
   0,
   GC.i
   0,
   GC.i
   0,
   GC.i
   0,
   GC.i
   0,
   GC.b
   false,
   GC.i
   0,
   GC.b
   false,
   GC.i
   0,
   GC.i
   0,
   GC.i
   0,
   GC.i
   0,
   GC.i
   0,
   GC.b
   false]
   (lawF_s6
   w
   L)
   (lawF_s7
   w
   L)
   (lawF_s8
   w
   L)
   (lawF_s9
   w
   L)
   (lawF_s10
   w
   L)
   (lawF_s11
   w
   L)
   (lawF_s12
   w
   L) ∧
   (AS.mk
   (mod_0
   w
   (Int.ofNat
   (contL
   0
   L).length)).toNat
   (fiS
   (contL
   0
   L)
   (mod_0
   w
   (Int.ofNat
   (contL
   0
   L).length)))
   []).s.er =
   lawF_s19
   w
   L ∧
   lawF_s21
   w
   L =
   lawF_s20
   w
   L ∧
   ([] : List (List Int)) = []))]
theorem lawF_0_eq (w : Int) (L : List (List Int)) : (lawF_0 w L) = true := by
  have e0 : lawF_s14 w L = pushE zeroG (frN (contL 0 L) ((mod_0 w (Int.ofNat (contL 0 L).length)).toNat - 0) ⟨0, St0, []⟩).s := rfl
  have he : lawF_s14 w L ≠ 0 := by rw [e0]; exact pushE_zero _
  have es : (fiS (contL 0 L) (mod_0 w (Int.ofNat (contL 0 L).length))).er = lawF_s14 w L := by rw [e0]; exact (pushE_er _ _).symm
  obtain ⟨g1, g2⟩ := fgN_good (contL 0 L) (lawF_s14 w L) he ((contL 0 L).length - (mod_0 w (Int.ofNat (contL 0 L).length)).toNat) (AS.mk (mod_0 w (Int.ofNat (contL 0 L).length)).toNat (fiS (contL 0 L) (mod_0 w (Int.ofNat (contL 0 L).length))) []) es
  unfold lawF_0
  cases !light_0 L
  · rw [cond_false, cond_false, zero_pend]
    rotate_left
    · exact (show (fiS (contL 0 L) (mod_0 w (Int.ofNat (contL 0 L).length))).er ≠ 0 from by rw [es]; exact he)
    have g3 : ((fgF (contL 0 L) (mod_0 w (Int.ofNat (contL 0 L).length)) (lawF_s14 w L)).fin (AS.mk (mod_0 w (Int.ofNat (contL 0 L).length)).toNat (fiS (contL 0 L) (mod_0 w (Int.ofNat (contL 0 L).length))) [])).bad = false := g1
    have g4 : lawF_s17 w L = lawF_s14 w L := g2
    rw [g3, g4, show (lawF_s14 w L == 0) = false from by simpa using he]
    have z : (lawF_s14 w L == 0) = false := by simpa using he
    have z' : (lawF_s14 w L != 0) = true := by simpa using he
    unfold close_0 close_46 settled_45
    rw [z, Bool.false_and, oitem_3_id]
    simp only [cond_false, z', cond_true]
    simp
  · rfl
theorem lawF_need {w : Int} {L : List (List Int)} : ∀ q ∈ (lawF_needs w L), q := by
  unfold lawF_needs
  simp only [List.forall_mem_cons, List.not_mem_nil, false_implies, implies_true, and_true]
  intro hl
  have hl' := light_len (L := L) (by simpa using hl)
  have hx := contL_len 0 L
  have hm := mod_rng w (Int.ofNat (contL 0 L).length) (by have h := hx.1; show (1 : Int) ≤ ((contL 0 L).length : Int); omega) (by have h := hx.2; show ((contL 0 L).length : Int) ≤ _; omega)
  have hm' : (mod_0 w (Int.ofNat (contL 0 L).length)).toNat ≤ (contL 0 L).length := by have h1 := hm.1; have h2 : mod_0 w (Int.ofNat (contL 0 L).length) < ((contL 0 L).length : Int) := hm.2; omega
  have hC : (fiF (contL 0 L) (mod_0 w (Int.ofNat (contL 0 L).length))).fin (AS.mk 0 St0 []) = frN (contL 0 L) ((mod_0 w (Int.ofNat (contL 0 L).length)).toNat - 0) ⟨0, St0, []⟩ := rfl
  have c13 : (lawF_s13 w L).length ≤ 8 := by unfold lawF_s13; rw [hC]; exact frN_C _ _ _ (Nat.zero_le _)
  have c21 : (lawF_s21 w L).length ≤ 8 := pushS_C _ _ (by rw [← hC]; exact c13)
  have hi : Int.ofNat (mod_0 w (Int.ofNat (contL 0 L).length)).toNat = mod_0 w (Int.ofNat (contL 0 L).length) := Int.toNat_of_nonneg hm.1
  have hn : Int.ofNat (contL 0 L).length ≠ 0 := by have h := hx.1; intro h'; have h'' : ((contL 0 L).length : Int) = 0 := h'; omega
  refine ⟨by decide, by omega, hn, fun _ => ⟨⟨hm.1, Nat.zero_le _, hm', by omega, by omega⟩, ?_⟩⟩
  repeat' first | refine ⟨by kernel_rfl, ?_⟩ | refine ⟨(by omega : (lawF_s13 w L).length ≤ 1000), (by omega : 0 ≤ 800000), fun _ => ⟨⟨hm', by omega, c21⟩, hi, ?_⟩⟩ | kernel_rfl | exact trivial | refine ⟨trivial, ?_⟩
set_option maxRecDepth 1000000 in
theorem lawF_runs (w : Int) (L : List (List Int)) (hNeeds : ∀ pN ∈ (lawF_needs w L), pN) : Runs (runF (sums K_awake) L_fg 6) (lawF_tpl.args [.i w]) (lawF_tpl.memo [.i w] [L]) lawF_tpl.n (SV.one (SC.bool (SB.v (lawF_0 w L))))
    ([]) :=
  Runs.of1 (ps := (lawF_needs w L)) (by kernel_rfl) hNeeds
noncomputable def lawF_out : List Pm → Lss → Option CRes
  | [.i w], [L] => some ⟨SV.one (SC.bool (SB.v (lawF_0 w L))),
    [],
    [], [], 107190⟩
  | _, _ => none
theorem lawF_ok : FOk Try.prog 6 (tplS lawF_tpl lawF_out) := by
  refine tplS_ok (runF_ok known_fgL 6) fun ps ls r hr hn _ => ?_
  unfold lawF_out at hr
  split at hr
  · cases hr; exact ⟨_, lawF_runs _ _ (fun p hp => lawF_need p hp), fun _ => by simp only [SV.den, SC.den, SB.val, lawF_0_eq]⟩
  · cases hr
noncomputable def K_lawF : List (Nat × Summ) := (6, tplS lawF_tpl lawF_out) :: K_awake
theorem known_lawF : Known Try.prog (sums K_lawF) L_fg := known_cons known_fgL lawF_ok
end Go.Proofs.Ytmbfbhimdkjkoaa
