/-
  CUTTER: the law CutterFinal, its loops. Conditions: none.
-/
import Derived.Test.YtmbfbhimdkjkoaaA2
set_option linter.all false
namespace Go.Proofs.Ytmbfbhimdkjkoaa
open Go.SX Go.RowKit
/-- A filter is given the items from one on, so many. -/
noncomputable def frN (X : List (List Int)) : Nat → AS → AS
  | 0, a => a
  | k + 1, a => frN X k ⟨a.i + 1, pushS (ofRow (X.getD a.i [])) a.s, []⟩
noncomputable def fiG (k : Nat) : Nat := 1000000100 + k
noncomputable def fiH (k : Nat) : Nat := 3330 + k
noncomputable def fiF (X : List (List Int)) (k : Int) : Fam AS AS where
  k := 200
  E a := [(8, ent 1000000000 (.one (I (Int.ofNat a.i)))), (7, ent 2298 (.one (.ptr 2231 0))), (6, ent 2228 (.one (I k))), (5, ent 2209 (.one (.wh 2203)))]
  M a := [(2231, .blk 66 (stCells fiG a.s 3400 3401)), rowI 3400 1000000200 a.s.C, rowI 3401 1000000201 [], rowI 2203 2205 X]
  out t := .leaf (.exit 0) [(7, ent 2298 (.one (.ptr 2231 0))), (6, ent 2228 (.one (I k))), (5, ent 2209 (.one (.wh 2203)))] [(2231, .blk 66 (stCells fiH t.s 3400 3401)), rowI 3400 3402 t.s.C, rowI 3401 3403 [], rowI 2203 2205 X]
  fin a := frN X (k.toNat - a.i) a
  next a _ := ⟨a.i + 1, pushS (ofRow (X.getD a.i [])) a.s, []⟩
  J a := 0 ≤ k ∧ a.i ≤ k.toNat ∧ k.toNat ≤ X.length ∧ X.length ≤ 1000 ∧ a.s.C.length ≤ 8
  μ a := k.toNat - a.i
noncomputable def fi_needs (X : List (List Int)) (k : Int) (a : AS) : List Prop := [decide (Int.ofNat a.i < k) = true → 0 ≤ Int.ofNat a.i ∧ (Int.ofNat a.i).toNat < X.length ∧ (Int.ofNat a.i).toNat < X.length ∧ a.s.C.length ≤ 1000 ∧ 0 ≤ 800000, decide (Int.ofNat a.i < k) = true →
   (0 ≤ k ∧ ((fiF X k).next a 0).i ≤ k.toNat ∧ k.toNat ≤ X.length ∧ X.length ≤ 1000 ∧ ((fiF X k).next a 0).s.C.length ≤ 8) ∧ (fiF X k).μ ((fiF X k).next a 0) < (fiF X k).μ a ∧ (fiF X k).fin ((fiF X
   k).next a 0) = (fiF X k).fin a ∧ Int.ofNat ((fiF X k).next a 0).i = IntKind.i64.wrap (Int.ofNat a.i + 1) ∧ xi ((fiF X k).next a 0).s.l 0 = push_2 (ofRow (X.getD (Int.ofNat a.i).toNat [])) (nrm a.s.l)
   (nrm a.s.y) a.s.a0 a.s.a1 a.s.tr a.s.op a.s.cl a.s.en a.s.mo a.s.la0 a.s.la1 a.s.la2 a.s.er ∧ xi ((fiF X k).next a 0).s.l 1 = push_3 (ofRow (X.getD (Int.ofNat a.i).toNat [])) (nrm a.s.l) (nrm a.s.y)
   a.s.a0 a.s.a1 a.s.tr a.s.op a.s.cl a.s.en a.s.mo a.s.la0 a.s.la1 a.s.la2 a.s.er ∧ xi ((fiF X k).next a 0).s.l 2 = push_4 (ofRow (X.getD (Int.ofNat a.i).toNat [])) (nrm a.s.l) (nrm a.s.y) a.s.a0
   a.s.a1 a.s.tr a.s.op a.s.cl a.s.en a.s.mo a.s.la0 a.s.la1 a.s.la2 a.s.er ∧ xi ((fiF X k).next a 0).s.l 3 = push_5 (ofRow (X.getD (Int.ofNat a.i).toNat [])) (nrm a.s.l) (nrm a.s.y) a.s.a0 a.s.a1
   a.s.tr a.s.op a.s.cl a.s.en a.s.mo a.s.la0 a.s.la1 a.s.la2 a.s.er ∧ xi ((fiF X k).next a 0).s.l 4 = push_6 (ofRow (X.getD (Int.ofNat a.i).toNat [])) (nrm a.s.l) (nrm a.s.y) a.s.a0 a.s.a1 a.s.tr
   a.s.op a.s.cl a.s.en a.s.mo a.s.la0 a.s.la1 a.s.la2 a.s.er ∧ xi ((fiF X k).next a 0).s.l 5 = push_7 (ofRow (X.getD (Int.ofNat a.i).toNat [])) (nrm a.s.l) (nrm a.s.y) a.s.a0 a.s.a1 a.s.tr a.s.op
   a.s.cl a.s.en a.s.mo a.s.la0 a.s.la1 a.s.la2 a.s.er ∧ xi ((fiF X k).next a 0).s.l 6 = push_8 (ofRow (X.getD (Int.ofNat a.i).toNat [])) (nrm a.s.l) (nrm a.s.y) a.s.a0 a.s.a1 a.s.tr a.s.op a.s.cl
   a.s.en a.s.mo a.s.la0 a.s.la1 a.s.la2 a.s.er ∧ xi ((fiF X k).next a 0).s.l 7 = push_9 (ofRow (X.getD (Int.ofNat a.i).toNat [])) (nrm a.s.l) (nrm a.s.y) a.s.a0 a.s.a1 a.s.tr a.s.op a.s.cl a.s.en
   a.s.mo a.s.la0 a.s.la1 a.s.la2 a.s.er ∧ xi ((fiF X k).next a 0).s.l 8 = push_10 (ofRow (X.getD (Int.ofNat a.i).toNat [])) (nrm a.s.l) (nrm a.s.y) a.s.a0 a.s.a1 a.s.tr a.s.op a.s.cl a.s.en a.s.mo
   a.s.la0 a.s.la1 a.s.la2 a.s.er ∧ xi ((fiF X k).next a 0).s.l 9 = push_11 (ofRow (X.getD (Int.ofNat a.i).toNat [])) (nrm a.s.l) (nrm a.s.y) a.s.a0 a.s.a1 a.s.tr a.s.op a.s.cl a.s.en a.s.mo a.s.la0
   a.s.la1 a.s.la2 a.s.er ∧ xi ((fiF X k).next a 0).s.l 10 = push_12 (ofRow (X.getD (Int.ofNat a.i).toNat [])) (nrm a.s.l) (nrm a.s.y) a.s.a0 a.s.a1 a.s.tr a.s.op a.s.cl a.s.en a.s.mo a.s.la0 a.s.la1
   a.s.la2 a.s.er ∧ xi ((fiF X k).next a 0).s.l 11 = push_13 (ofRow (X.getD (Int.ofNat a.i).toNat [])) (nrm a.s.l) (nrm a.s.y) a.s.a0 a.s.a1 a.s.tr a.s.op a.s.cl a.s.en a.s.mo a.s.la0 a.s.la1 a.s.la2
   a.s.er ∧ xi ((fiF X k).next a 0).s.l 12 = push_14 (ofRow (X.getD (Int.ofNat a.i).toNat [])) (nrm a.s.l) (nrm a.s.y) a.s.a0 a.s.a1 a.s.tr a.s.op a.s.cl a.s.en a.s.mo a.s.la0 a.s.la1 a.s.la2 a.s.er ∧
   xb ((fiF X k).next a 0).s.l 13 = push_15 (ofRow (X.getD (Int.ofNat a.i).toNat [])) (nrm a.s.l) (nrm a.s.y) a.s.a0 a.s.a1 a.s.tr a.s.op a.s.cl a.s.en a.s.mo a.s.la0 a.s.la1 a.s.la2 a.s.er ∧ xi ((fiF X
   k).next a 0).s.l 14 = push_16 (ofRow (X.getD (Int.ofNat a.i).toNat [])) (nrm a.s.l) (nrm a.s.y) a.s.a0 a.s.a1 a.s.tr a.s.op a.s.cl a.s.en a.s.mo a.s.la0 a.s.la1 a.s.la2 a.s.er ∧ xb ((fiF X k).next a
   0).s.l 15 = push_17 (ofRow (X.getD (Int.ofNat a.i).toNat [])) (nrm a.s.l) (nrm a.s.y) a.s.a0 a.s.a1 a.s.tr a.s.op a.s.cl a.s.en a.s.mo a.s.la0 a.s.la1 a.s.la2 a.s.er ∧ xi ((fiF X k).next a 0).s.l 16
   = push_18 (ofRow (X.getD (Int.ofNat a.i).toNat [])) (nrm a.s.l) (nrm a.s.y) a.s.a0 a.s.a1 a.s.tr a.s.op a.s.cl a.s.en a.s.mo a.s.la0 a.s.la1 a.s.la2 a.s.er ∧ xi ((fiF X k).next a 0).s.l 17 = push_19
   (ofRow (X.getD (Int.ofNat a.i).toNat [])) (nrm a.s.l) (nrm a.s.y) a.s.a0 a.s.a1 a.s.tr a.s.op a.s.cl a.s.en a.s.mo a.s.la0 a.s.la1 a.s.la2 a.s.er ∧ xi ((fiF X k).next a 0).s.l 18 = push_20 (ofRow
   (X.getD (Int.ofNat a.i).toNat [])) (nrm a.s.l) (nrm a.s.y) a.s.a0 a.s.a1 a.s.tr a.s.op a.s.cl a.s.en a.s.mo a.s.la0 a.s.la1 a.s.la2 a.s.er ∧ xi ((fiF X k).next a 0).s.l 19 = push_21 (ofRow (X.getD
   (Int.ofNat a.i).toNat [])) (nrm a.s.l) (nrm a.s.y) a.s.a0 a.s.a1 a.s.tr a.s.op a.s.cl a.s.en a.s.mo a.s.la0 a.s.la1 a.s.la2 a.s.er ∧ xi ((fiF X k).next a 0).s.l 20 = push_22 (ofRow (X.getD (Int.ofNat
   a.i).toNat [])) (nrm a.s.l) (nrm a.s.y) a.s.a0 a.s.a1 a.s.tr a.s.op a.s.cl a.s.en a.s.mo a.s.la0 a.s.la1 a.s.la2 a.s.er ∧ xb ((fiF X k).next a 0).s.l 21 = push_23 (ofRow (X.getD (Int.ofNat a.i).toNat
   [])) (nrm a.s.l) (nrm a.s.y) a.s.a0 a.s.a1 a.s.tr a.s.op a.s.cl a.s.en a.s.mo a.s.la0 a.s.la1 a.s.la2 a.s.er ∧ xi ((fiF X k).next a 0).s.y 0 = push_24 (ofRow (X.getD (Int.ofNat a.i).toNat [])) (nrm
   a.s.l) (nrm a.s.y) a.s.a0 a.s.a1 a.s.tr a.s.op a.s.cl a.s.en a.s.mo a.s.la0 a.s.la1 a.s.la2 a.s.er ∧ xi ((fiF X k).next a 0).s.y 1 = push_25 (ofRow (X.getD (Int.ofNat a.i).toNat [])) (nrm a.s.l) (nrm
   a.s.y) a.s.a0 a.s.a1 a.s.tr a.s.op a.s.cl a.s.en a.s.mo a.s.la0 a.s.la1 a.s.la2 a.s.er ∧ xi ((fiF X k).next a 0).s.y 2 = push_26 (ofRow (X.getD (Int.ofNat a.i).toNat [])) (nrm a.s.l) (nrm a.s.y)
   a.s.a0 a.s.a1 a.s.tr a.s.op a.s.cl a.s.en a.s.mo a.s.la0 a.s.la1 a.s.la2 a.s.er ∧ xi ((fiF X k).next a 0).s.y 3 = push_27 (ofRow (X.getD (Int.ofNat a.i).toNat [])) (nrm a.s.l) (nrm a.s.y) a.s.a0
   a.s.a1 a.s.tr a.s.op a.s.cl a.s.en a.s.mo a.s.la0 a.s.la1 a.s.la2 a.s.er ∧ xi ((fiF X k).next a 0).s.y 4 = push_28 (ofRow (X.getD (Int.ofNat a.i).toNat [])) (nrm a.s.l) (nrm a.s.y) a.s.a0 a.s.a1
   a.s.tr a.s.op a.s.cl a.s.en a.s.mo a.s.la0 a.s.la1 a.s.la2 a.s.er ∧ xi ((fiF X k).next a 0).s.y 5 = push_29 (ofRow (X.getD (Int.ofNat a.i).toNat [])) (nrm a.s.l) (nrm a.s.y) a.s.a0 a.s.a1 a.s.tr
   a.s.op a.s.cl a.s.en a.s.mo a.s.la0 a.s.la1 a.s.la2 a.s.er ∧ xi ((fiF X k).next a 0).s.y 6 = push_30 (ofRow (X.getD (Int.ofNat a.i).toNat [])) (nrm a.s.l) (nrm a.s.y) a.s.a0 a.s.a1 a.s.tr a.s.op
   a.s.cl a.s.en a.s.mo a.s.la0 a.s.la1 a.s.la2 a.s.er ∧ xi ((fiF X k).next a 0).s.y 7 = push_31 (ofRow (X.getD (Int.ofNat a.i).toNat [])) (nrm a.s.l) (nrm a.s.y) a.s.a0 a.s.a1 a.s.tr a.s.op a.s.cl
   a.s.en a.s.mo a.s.la0 a.s.la1 a.s.la2 a.s.er ∧ xi ((fiF X k).next a 0).s.y 8 = push_32 (ofRow (X.getD (Int.ofNat a.i).toNat [])) (nrm a.s.l) (nrm a.s.y) a.s.a0 a.s.a1 a.s.tr a.s.op a.s.cl a.s.en
   a.s.mo a.s.la0 a.s.la1 a.s.la2 a.s.er ∧ xi ((fiF X k).next a 0).s.y 9 = push_33 (ofRow (X.getD (Int.ofNat a.i).toNat [])) (nrm a.s.l) (nrm a.s.y) a.s.a0 a.s.a1 a.s.tr a.s.op a.s.cl a.s.en a.s.mo
   a.s.la0 a.s.la1 a.s.la2 a.s.er ∧ xi ((fiF X k).next a 0).s.y 10 = push_34 (ofRow (X.getD (Int.ofNat a.i).toNat [])) (nrm a.s.l) (nrm a.s.y) a.s.a0 a.s.a1 a.s.tr a.s.op a.s.cl a.s.en a.s.mo a.s.la0
   a.s.la1 a.s.la2 a.s.er ∧ xi ((fiF X k).next a 0).s.y 11 = push_35 (ofRow (X.getD (Int.ofNat a.i).toNat [])) (nrm a.s.l) (nrm a.s.y) a.s.a0 a.s.a1 a.s.tr a.s.op a.s.cl a.s.en a.s.mo a.s.la0 a.s.la1
   a.s.la2 a.s.er ∧ xi ((fiF X k).next a 0).s.y 12 = push_36 (ofRow (X.getD (Int.ofNat a.i).toNat [])) (nrm a.s.l) (nrm a.s.y) a.s.a0 a.s.a1 a.s.tr a.s.op a.s.cl a.s.en a.s.mo a.s.la0 a.s.la1 a.s.la2
   a.s.er ∧ xb ((fiF X k).next a 0).s.y 13 = push_37 (ofRow (X.getD (Int.ofNat a.i).toNat [])) (nrm a.s.l) (nrm a.s.y) a.s.a0 a.s.a1 a.s.tr a.s.op a.s.cl a.s.en a.s.mo a.s.la0 a.s.la1 a.s.la2 a.s.er ∧
   xi ((fiF X k).next a 0).s.y 14 = push_38 (ofRow (X.getD (Int.ofNat a.i).toNat [])) (nrm a.s.l) (nrm a.s.y) a.s.a0 a.s.a1 a.s.tr a.s.op a.s.cl a.s.en a.s.mo a.s.la0 a.s.la1 a.s.la2 a.s.er ∧ xb ((fiF X
   k).next a 0).s.y 15 = push_39 (ofRow (X.getD (Int.ofNat a.i).toNat [])) (nrm a.s.l) (nrm a.s.y) a.s.a0 a.s.a1 a.s.tr a.s.op a.s.cl a.s.en a.s.mo a.s.la0 a.s.la1 a.s.la2 a.s.er ∧ xi ((fiF X k).next a
   0).s.y 16 = push_40 (ofRow (X.getD (Int.ofNat a.i).toNat [])) (nrm a.s.l) (nrm a.s.y) a.s.a0 a.s.a1 a.s.tr a.s.op a.s.cl a.s.en a.s.mo a.s.la0 a.s.la1 a.s.la2 a.s.er ∧ xi ((fiF X k).next a 0).s.y 17
   = push_41 (ofRow (X.getD (Int.ofNat a.i).toNat [])) (nrm a.s.l) (nrm a.s.y) a.s.a0 a.s.a1 a.s.tr a.s.op a.s.cl a.s.en a.s.mo a.s.la0 a.s.la1 a.s.la2 a.s.er ∧ xi ((fiF X k).next a 0).s.y 18 = push_42
   (ofRow (X.getD (Int.ofNat a.i).toNat [])) (nrm a.s.l) (nrm a.s.y) a.s.a0 a.s.a1 a.s.tr a.s.op a.s.cl a.s.en a.s.mo a.s.la0 a.s.la1 a.s.la2 a.s.er ∧ xi ((fiF X k).next a 0).s.y 19 = push_43 (ofRow
   (X.getD (Int.ofNat a.i).toNat [])) (nrm a.s.l) (nrm a.s.y) a.s.a0 a.s.a1 a.s.tr a.s.op a.s.cl a.s.en a.s.mo a.s.la0 a.s.la1 a.s.la2 a.s.er ∧ xi ((fiF X k).next a 0).s.y 20 = push_44 (ofRow (X.getD
   (Int.ofNat a.i).toNat [])) (nrm a.s.l) (nrm a.s.y) a.s.a0 a.s.a1 a.s.tr a.s.op a.s.cl a.s.en a.s.mo a.s.la0 a.s.la1 a.s.la2 a.s.er ∧ xb ((fiF X k).next a 0).s.y 21 = push_45 (ofRow (X.getD (Int.ofNat
   a.i).toNat [])) (nrm a.s.l) (nrm a.s.y) a.s.a0 a.s.a1 a.s.tr a.s.op a.s.cl a.s.en a.s.mo a.s.la0 a.s.la1 a.s.la2 a.s.er ∧ ((fiF X k).next a 0).s.a0 = push_46 (ofRow (X.getD (Int.ofNat a.i).toNat []))
   (nrm a.s.l) (nrm a.s.y) a.s.a0 a.s.a1 a.s.tr a.s.op a.s.cl a.s.en a.s.mo a.s.la0 a.s.la1 a.s.la2 a.s.er ∧ ((fiF X k).next a 0).s.a1 = push_47 (ofRow (X.getD (Int.ofNat a.i).toNat [])) (nrm a.s.l)
   (nrm a.s.y) a.s.a0 a.s.a1 a.s.tr a.s.op a.s.cl a.s.en a.s.mo a.s.la0 a.s.la1 a.s.la2 a.s.er ∧ ((fiF X k).next a 0).s.tr = push_48 (ofRow (X.getD (Int.ofNat a.i).toNat [])) (nrm a.s.l) (nrm a.s.y)
   a.s.a0 a.s.a1 a.s.tr a.s.op a.s.cl a.s.en a.s.mo a.s.la0 a.s.la1 a.s.la2 a.s.er ∧ ((fiF X k).next a 0).s.op = push_49 (ofRow (X.getD (Int.ofNat a.i).toNat [])) (nrm a.s.l) (nrm a.s.y) a.s.a0 a.s.a1
   a.s.tr a.s.op a.s.cl a.s.en a.s.mo a.s.la0 a.s.la1 a.s.la2 a.s.er ∧ ((fiF X k).next a 0).s.cl = a.s.cl ∧ ((fiF X k).next a 0).s.en = push_50 (ofRow (X.getD (Int.ofNat a.i).toNat [])) a.s.cl a.s.en
   a.s.mo a.s.la0 a.s.la1 a.s.la2 a.s.er ∧ ((fiF X k).next a 0).s.mo = push_51 (ofRow (X.getD (Int.ofNat a.i).toNat [])) a.s.cl a.s.en a.s.mo a.s.la0 a.s.la1 a.s.la2 a.s.er ∧ ((fiF X k).next a 0).s.la0
   = push_52 (ofRow (X.getD (Int.ofNat a.i).toNat [])) a.s.cl a.s.en a.s.mo a.s.la0 a.s.la1 a.s.la2 a.s.er ∧ ((fiF X k).next a 0).s.la1 = push_53 (ofRow (X.getD (Int.ofNat a.i).toNat [])) a.s.cl a.s.en
   a.s.mo a.s.la0 a.s.la1 a.s.la2 a.s.er ∧ ((fiF X k).next a 0).s.la2 = push_54 (ofRow (X.getD (Int.ofNat a.i).toNat [])) a.s.cl a.s.en a.s.mo a.s.la0 a.s.la1 a.s.la2 a.s.er ∧ ((fiF X k).next a 0).s.er
   = push_55 (ofRow (X.getD (Int.ofNat a.i).toNat [])) (nrm a.s.l) (nrm a.s.y) a.s.a0 a.s.a1 a.s.tr a.s.op a.s.cl a.s.en a.s.mo a.s.la0 a.s.la1 a.s.la2 a.s.er a.s.C ∧ ((fiF X k).next a 0).s.C = push_56
   (ofRow (X.getD (Int.ofNat a.i).toNat [])) (nrm a.s.l) (nrm a.s.y) a.s.a0 a.s.a1 a.s.tr a.s.op a.s.cl a.s.en a.s.mo a.s.la0 a.s.la1 a.s.la2 a.s.er a.s.C ∧ ([] : List (List Int)) = [], decide
   (Int.ofNat a.i < k) = false → xi ((fiF X k).fin a).s.l 0 = xi a.s.l 0 ∧ xi ((fiF X k).fin a).s.l 1 = xi a.s.l 1 ∧ xi ((fiF X k).fin a).s.l 2 = xi a.s.l 2 ∧ xi ((fiF X k).fin a).s.l 3 = xi a.s.l 3 ∧
   xi ((fiF X k).fin a).s.l 4 = xi a.s.l 4 ∧ xi ((fiF X k).fin a).s.l 5 = xi a.s.l 5 ∧ xi ((fiF X k).fin a).s.l 6 = xi a.s.l 6 ∧ xi ((fiF X k).fin a).s.l 7 = xi a.s.l 7 ∧ xi ((fiF X k).fin a).s.l 8 = xi
   a.s.l 8 ∧ xi ((fiF X k).fin a).s.l 9 = xi a.s.l 9 ∧ xi ((fiF X k).fin a).s.l 10 = xi a.s.l 10 ∧ xi ((fiF X k).fin a).s.l 11 = xi a.s.l 11 ∧ xi ((fiF X k).fin a).s.l 12 = xi a.s.l 12 ∧ xb ((fiF X
   k).fin a).s.l 13 = xb a.s.l 13 ∧ xi ((fiF X k).fin a).s.l 14 = xi a.s.l 14 ∧ xb ((fiF X k).fin a).s.l 15 = xb a.s.l 15 ∧ xi ((fiF X k).fin a).s.l 16 = xi a.s.l 16 ∧ xi ((fiF X k).fin a).s.l 17 = xi
   a.s.l 17 ∧ xi ((fiF X k).fin a).s.l 18 = xi a.s.l 18 ∧ xi ((fiF X k).fin a).s.l 19 = xi a.s.l 19 ∧ xi ((fiF X k).fin a).s.l 20 = xi a.s.l 20 ∧ xb ((fiF X k).fin a).s.l 21 = xb a.s.l 21 ∧ xi ((fiF X
   k).fin a).s.y 0 = xi a.s.y 0 ∧ xi ((fiF X k).fin a).s.y 1 = xi a.s.y 1 ∧ xi ((fiF X k).fin a).s.y 2 = xi a.s.y 2 ∧ xi ((fiF X k).fin a).s.y 3 = xi a.s.y 3 ∧ xi ((fiF X k).fin a).s.y 4 = xi a.s.y 4 ∧
   xi ((fiF X k).fin a).s.y 5 = xi a.s.y 5 ∧ xi ((fiF X k).fin a).s.y 6 = xi a.s.y 6 ∧ xi ((fiF X k).fin a).s.y 7 = xi a.s.y 7 ∧ xi ((fiF X k).fin a).s.y 8 = xi a.s.y 8 ∧ xi ((fiF X k).fin a).s.y 9 = xi
   a.s.y 9 ∧ xi ((fiF X k).fin a).s.y 10 = xi a.s.y 10 ∧ xi ((fiF X k).fin a).s.y 11 = xi a.s.y 11 ∧ xi ((fiF X k).fin a).s.y 12 = xi a.s.y 12 ∧ xb ((fiF X k).fin a).s.y 13 = xb a.s.y 13 ∧ xi ((fiF X
   k).fin a).s.y 14 = xi a.s.y 14 ∧ xb ((fiF X k).fin a).s.y 15 = xb a.s.y 15 ∧ xi ((fiF X k).fin a).s.y 16 = xi a.s.y 16 ∧ xi ((fiF X k).fin a).s.y 17 = xi a.s.y 17 ∧ xi ((fiF X k).fin a).s.y 18 = xi
   a.s.y 18 ∧ xi ((fiF X k).fin a).s.y 19 = xi a.s.y 19 ∧ xi ((fiF X k).fin a).s.y 20 = xi a.s.y 20 ∧ xb ((fiF X k).fin a).s.y 21 = xb a.s.y 21 ∧ ((fiF X k).fin a).s.a0 = a.s.a0 ∧ ((fiF X k).fin a).s.a1
   = a.s.a1 ∧ ((fiF X k).fin a).s.tr = a.s.tr ∧ ((fiF X k).fin a).s.op = a.s.op ∧ ((fiF X k).fin a).s.cl = a.s.cl ∧ ((fiF X k).fin a).s.en = a.s.en ∧ ((fiF X k).fin a).s.mo = a.s.mo ∧ ((fiF X k).fin
   a).s.la0 = a.s.la0 ∧ ((fiF X k).fin a).s.la1 = a.s.la1 ∧ ((fiF X k).fin a).s.la2 = a.s.la2 ∧ ((fiF X k).fin a).s.er = a.s.er ∧ ((fiF X k).fin a).s.C = a.s.C ∧ ([] : List (List Int)) = []]
theorem fi_round (X : List (List Int)) (k : Int) (a : AS) (hNeeds : ∀ pN ∈ (fi_needs X k a), pN) : RoundOk (roundC (fiF X k) (bodyOf Try.prog (sums K_awake) L_ap 6 0) 3325 a) :=
  RoundOk.of (ps := (fi_needs X k a)) (by kernel_rfl) (by kernel_rfl) hNeeds
theorem frN_step {X : List (List Int)} {n : Nat} {a : AS} (h : a.i < n) : frN X (n - a.i) a = frN X (n - (a.i + 1)) ⟨a.i + 1, pushS (ofRow (X.getD a.i [])) a.s, []⟩ := by
  have e : n - a.i = (n - (a.i + 1)) + 1 := by omega
  rw [e]; rfl
theorem fi_rounds (X : List (List Int)) (k : Int) : RoundsOk (fiF X k) (bodyOf Try.prog (sums K_awake) L_ap 6 0) 3325 := by
  intro a hJ
  obtain ⟨h0, h1, h2, h2', h3⟩ : 0 ≤ k ∧ a.i ≤ k.toNat ∧ k.toNat ≤ X.length ∧ X.length ≤ 1000 ∧ a.s.C.length ≤ 8 := hJ
  have hc := pushS_C (ofRow (X.getD a.i [])) a.s h3
  have e6 : IntKind.i64.wrap (Int.ofNat a.i + 1) = Int.ofNat (a.i + 1) := wrI (by simp; omega) (by simp; omega)
  refine fi_round X k a ?_
  unfold fi_needs
  simp only [List.forall_mem_cons, List.not_mem_nil, false_implies, implies_true, and_true]
  have lt : decide (Int.ofNat a.i < k) = true → a.i < k.toNat := fun h => by simp at h; omega
  refine ⟨fun h => ⟨by simp, by have := lt h; show a.i < _; omega, by have := lt h; show a.i < _; omega, by omega, by omega⟩, fun h => ⟨⟨h0, by have := lt h; show a.i + 1 ≤ _; omega, h2, h2', hc⟩, ?_, ?_, e6.symm, ?_⟩, fun h => ?_⟩
  · have := lt h
    show k.toNat - (a.i + 1) < k.toNat - a.i; omega
  · show frN X (k.toNat - (a.i + 1)) _ = frN X (k.toNat - a.i) a
    rw [frN_step (lt h)]; rfl
  · repeat' first | refine ⟨by kernel_rfl, ?_⟩ | kernel_rfl | exact trivial | refine ⟨trivial, ?_⟩
  · have hi : a.i = k.toNat := by simp at h; omega
    have e : (fiF X k).fin a = a := by
      show frN X (k.toNat - a.i) a = a
      rw [hi, Nat.sub_self]; rfl
    rw [e]
    repeat' first | refine ⟨by kernel_rfl, ?_⟩ | kernel_rfl | exact trivial | refine ⟨trivial, ?_⟩
noncomputable def fiLp : LoopS := fun env mem m => match SX.look env 6, SX.look mem 2203 with
  | some ⟨_, _, _, .one (.int _ k)⟩, some (.row _ _ _ (.lst _ _ X)) => famS (fiF X k.val) 3325 (fun _ _ => some ⟨0, St0, []⟩) env mem m
  | _, _ => none
noncomputable def L_fi : FuncId → Nat → Option LoopS := addL L_ap 6 9 fiLp
theorem known_fiL : Known Try.prog (sums K_awake) L_fi := by
  refine known_addL 0 known_awake (by kernel_rfl) (codeOk_of fun env mem m x h => ?_)
  unfold fiLp at h
  have hlen : (loopList Try.prog 6).length = 2 := by kernel_rfl
  split at h
  · exact ⟨_, fam_ok (bodyOf_ok plainN known_awake (by omega)) (fi_rounds _ _), h⟩
  · cases h
end Go.Proofs.Ytmbfbhimdkjkoaa
