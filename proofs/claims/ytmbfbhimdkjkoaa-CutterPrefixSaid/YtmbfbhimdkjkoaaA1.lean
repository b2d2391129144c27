/-
  CUTTER: Apply. Conditions: the list is short.
-/
import Derived.Test.YtmbfbhimdkjkoaaV11
set_option linter.all false
namespace Go.Proofs.Ytmbfbhimdkjkoaa
open Go.SX Go.RowKit
structure AS where
  i : Nat
  s : St
  R : List (List Int)
structure AT where
  bad : Bool
  i : Nat
  e : Int
  s : St
  R : List (List Int)
/-- Item after item, up to the first error. -/
noncomputable def apN (L : List (List Int)) : Nat → AS → AT
  | 0, a => ⟨false, a.i, 0, a.s, a.R⟩
  | k + 1, a => bif pushE (ofRow (L.getD a.i [])) a.s != 0 then ⟨true, a.i, pushE (ofRow (L.getD a.i [])) a.s, pushS (ofRow (L.getD a.i [])) a.s, a.R⟩
    else apN L k ⟨a.i + 1, pushS (ofRow (L.getD a.i [])) a.s, a.R ++ pushO (ofRow (L.getD a.i [])) a.s⟩
noncomputable def apG (k : Nat) : Nat := 1000000100 + k
noncomputable def apH (k : Nat) : Nat := 180 + k
noncomputable def apF (L : List (List Int)) : Fam AS AT where
  k := 200
  E a := [(16, ent 1000000000 (.one (I (Int.ofNat a.i)))), (15, ent 77 (.one (I (Int.ofNat L.length)))), (14, ent 76 (.one (.wh 0))), (6, ent 1000000001 (.one (.wh 160))), (5, ent 74 (.one (.ptr 7 0))), (0, ent 0 (.one (.wh 0)))]
  M a := [(7, .blk 66 (stCells apG a.s 170 171)), rowI 170 1000000200 a.s.C, rowI 171 1000000201 [], rowI 0 1 L, rowI 160 1000000202 a.R]
  out t := .ite t.bad (.leaf .ret [(2, ent 80 (.one .nilsl)), (3, ent 81 (.one (I (Int.ofNat t.i)))), (4, ent 82 (.one (I t.e)))] [rowI 0 1 L])
    (.leaf (.exit 0) [(6, ent 83 (.one (.wh 160))), (5, ent 74 (.one (.ptr 7 0))), (0, ent 0 (.one (.wh 0)))] [(7, .blk 66 (stCells apH t.s 170 171)), rowI 170 240 t.s.C, rowI 171 241 [], rowI 0 1 L, rowI 160 242 t.R])
  fin a := apN L (L.length - a.i) a
  next a _ := ⟨a.i + 1, pushS (ofRow (L.getD a.i [])) a.s, a.R ++ pushO (ofRow (L.getD a.i [])) a.s⟩
  J a := a.i ≤ L.length ∧ L.length ≤ 1000 ∧ a.s.C.length ≤ 8 ∧ a.R.length ≤ 11 * a.i
  μ a := L.length - a.i
noncomputable def ap_s0 (L : List (List Int)) (a : AS) : Prop := decide (Int.ofNat a.i < Int.ofNat L.length) = true
noncomputable def ap_s1 (L : List (List Int)) (a : AS) : Int := push_0 (ofRow (L.getD (Int.ofNat a.i).toNat [])) (nrm a.s.l) (nrm a.s.y) a.s.a0 a.s.a1 a.s.tr a.s.op a.s.cl a.s.en a.s.mo a.s.la0 a.s.la1 a.s.la2 a.s.er a.s.C
noncomputable def ap_s2 (L : List (List Int)) (a : AS) : List (List Int) := push_1 (ofRow (L.getD (Int.ofNat a.i).toNat [])) (nrm a.s.l) (nrm a.s.y) a.s.a0 a.s.a1 a.s.tr a.s.op a.s.cl a.s.en a.s.mo a.s.la0 a.s.la1 a.s.la2 a.s.er a.s.C []
noncomputable def ap_needs (L : List (List Int)) (a : AS) : List Prop := [ap_s0 L a → 0 ≤ Int.ofNat a.i ∧ (Int.ofNat a.i).toNat < L.length ∧ (Int.ofNat a.i).toNat < L.length ∧ a.s.C.length ≤ 1000 ∧ 0 ≤ 800000 ∧ ((ap_s1 L a != 0) = false → (a.R.length + (ap_s2 L
   a).length) * 176 ≤ 140737488355328 ∧ a.R.length + (ap_s2 L a).length ≤ 9223372036854775807), ap_s0 L a → ((ap_s1 L a != 0) = true → (((apF L).fin a).bad = true → Int.ofNat ((apF L).fin a).i =
   Int.ofNat a.i ∧ ((apF L).fin a).e = ap_s1 L a) ∧ (((apF L).fin a).bad = false → False)) ∧ ((ap_s1 L a != 0) = false → (((apF L).next a 1).i ≤ L.length ∧ L.length ≤ 1000 ∧ ((apF L).next a
   1).s.C.length ≤ 8 ∧ ((apF L).next a 1).R.length ≤ 11 * ((apF L).next a 1).i) ∧ (apF L).μ ((apF L).next a 1) < (apF L).μ a ∧ (apF L).fin ((apF L).next a 1) = (apF L).fin a ∧ Int.ofNat ((apF L).next a
   1).i = IntKind.i64.wrap (Int.ofNat a.i + 1) ∧ xi ((apF L).next a 1).s.l 0 = push_2 (ofRow (L.getD (Int.ofNat a.i).toNat [])) (nrm a.s.l) (nrm a.s.y) a.s.a0 a.s.a1 a.s.tr a.s.op a.s.cl a.s.en a.s.mo
   a.s.la0 a.s.la1 a.s.la2 a.s.er ∧ xi ((apF L).next a 1).s.l 1 = push_3 (ofRow (L.getD (Int.ofNat a.i).toNat [])) (nrm a.s.l) (nrm a.s.y) a.s.a0 a.s.a1 a.s.tr a.s.op a.s.cl a.s.en a.s.mo a.s.la0
   a.s.la1 a.s.la2 a.s.er ∧ xi ((apF L).next a 1).s.l 2 = push_4 (ofRow (L.getD (Int.ofNat a.i).toNat [])) (nrm a.s.l) (nrm a.s.y) a.s.a0 a.s.a1 a.s.tr a.s.op a.s.cl a.s.en a.s.mo a.s.la0 a.s.la1
   a.s.la2 a.s.er ∧ xi ((apF L).next a 1).s.l 3 = push_5 (ofRow (L.getD (Int.ofNat a.i).toNat [])) (nrm a.s.l) (nrm a.s.y) a.s.a0 a.s.a1 a.s.tr a.s.op a.s.cl a.s.en a.s.mo a.s.la0 a.s.la1 a.s.la2 a.s.er
   ∧ xi ((apF L).next a 1).s.l 4 = push_6 (ofRow (L.getD (Int.ofNat a.i).toNat [])) (nrm a.s.l) (nrm a.s.y) a.s.a0 a.s.a1 a.s.tr a.s.op a.s.cl a.s.en a.s.mo a.s.la0 a.s.la1 a.s.la2 a.s.er ∧ xi ((apF
   L).next a 1).s.l 5 = push_7 (ofRow (L.getD (Int.ofNat a.i).toNat [])) (nrm a.s.l) (nrm a.s.y) a.s.a0 a.s.a1 a.s.tr a.s.op a.s.cl a.s.en a.s.mo a.s.la0 a.s.la1 a.s.la2 a.s.er ∧ xi ((apF L).next a
   1).s.l 6 = push_8 (ofRow (L.getD (Int.ofNat a.i).toNat [])) (nrm a.s.l) (nrm a.s.y) a.s.a0 a.s.a1 a.s.tr a.s.op a.s.cl a.s.en a.s.mo a.s.la0 a.s.la1 a.s.la2 a.s.er ∧ xi ((apF L).next a 1).s.l 7 =
   push_9 (ofRow (L.getD (Int.ofNat a.i).toNat [])) (nrm a.s.l) (nrm a.s.y) a.s.a0 a.s.a1 a.s.tr a.s.op a.s.cl a.s.en a.s.mo a.s.la0 a.s.la1 a.s.la2 a.s.er ∧ xi ((apF L).next a 1).s.l 8 = push_10 (ofRow
   (L.getD (Int.ofNat a.i).toNat [])) (nrm a.s.l) (nrm a.s.y) a.s.a0 a.s.a1 a.s.tr a.s.op a.s.cl a.s.en a.s.mo a.s.la0 a.s.la1 a.s.la2 a.s.er ∧ xi ((apF L).next a 1).s.l 9 = push_11 (ofRow (L.getD
   (Int.ofNat a.i).toNat [])) (nrm a.s.l) (nrm a.s.y) a.s.a0 a.s.a1 a.s.tr a.s.op a.s.cl a.s.en a.s.mo a.s.la0 a.s.la1 a.s.la2 a.s.er ∧ xi ((apF L).next a 1).s.l 10 = push_12 (ofRow (L.getD (Int.ofNat
   a.i).toNat [])) (nrm a.s.l) (nrm a.s.y) a.s.a0 a.s.a1 a.s.tr a.s.op a.s.cl a.s.en a.s.mo a.s.la0 a.s.la1 a.s.la2 a.s.er ∧ xi ((apF L).next a 1).s.l 11 = push_13 (ofRow (L.getD (Int.ofNat a.i).toNat
   [])) (nrm a.s.l) (nrm a.s.y) a.s.a0 a.s.a1 a.s.tr a.s.op a.s.cl a.s.en a.s.mo a.s.la0 a.s.la1 a.s.la2 a.s.er ∧ xi ((apF L).next a 1).s.l 12 = push_14 (ofRow (L.getD (Int.ofNat a.i).toNat [])) (nrm
   a.s.l) (nrm a.s.y) a.s.a0 a.s.a1 a.s.tr a.s.op a.s.cl a.s.en a.s.mo a.s.la0 a.s.la1 a.s.la2 a.s.er ∧ xb ((apF L).next a 1).s.l 13 = push_15 (ofRow (L.getD (Int.ofNat a.i).toNat [])) (nrm a.s.l) (nrm
   a.s.y) a.s.a0 a.s.a1 a.s.tr a.s.op a.s.cl a.s.en a.s.mo a.s.la0 a.s.la1 a.s.la2 a.s.er ∧ xi ((apF L).next a 1).s.l 14 = push_16 (ofRow (L.getD (Int.ofNat a.i).toNat [])) (nrm a.s.l) (nrm a.s.y)
   a.s.a0 a.s.a1 a.s.tr a.s.op a.s.cl a.s.en a.s.mo a.s.la0 a.s.la1 a.s.la2 a.s.er ∧ xb ((apF L).next a 1).s.l 15 = push_17 (ofRow (L.getD (Int.ofNat a.i).toNat [])) (nrm a.s.l) (nrm a.s.y) a.s.a0
   a.s.a1 a.s.tr a.s.op a.s.cl a.s.en a.s.mo a.s.la0 a.s.la1 a.s.la2 a.s.er ∧ xi ((apF L).next a 1).s.l 16 = push_18 (ofRow (L.getD (Int.ofNat a.i).toNat [])) (nrm a.s.l) (nrm a.s.y) a.s.a0 a.s.a1
   a.s.tr a.s.op a.s.cl a.s.en a.s.mo a.s.la0 a.s.la1 a.s.la2 a.s.er ∧ xi ((apF L).next a 1).s.l 17 = push_19 (ofRow (L.getD (Int.ofNat a.i).toNat [])) (nrm a.s.l) (nrm a.s.y) a.s.a0 a.s.a1 a.s.tr
   a.s.op a.s.cl a.s.en a.s.mo a.s.la0 a.s.la1 a.s.la2 a.s.er ∧ xi ((apF L).next a 1).s.l 18 = push_20 (ofRow (L.getD (Int.ofNat a.i).toNat [])) (nrm a.s.l) (nrm a.s.y) a.s.a0 a.s.a1 a.s.tr a.s.op
   a.s.cl a.s.en a.s.mo a.s.la0 a.s.la1 a.s.la2 a.s.er ∧ xi ((apF L).next a 1).s.l 19 = push_21 (ofRow (L.getD (Int.ofNat a.i).toNat [])) (nrm a.s.l) (nrm a.s.y) a.s.a0 a.s.a1 a.s.tr a.s.op a.s.cl
   a.s.en a.s.mo a.s.la0 a.s.la1 a.s.la2 a.s.er ∧ xi ((apF L).next a 1).s.l 20 = push_22 (ofRow (L.getD (Int.ofNat a.i).toNat [])) (nrm a.s.l) (nrm a.s.y) a.s.a0 a.s.a1 a.s.tr a.s.op a.s.cl a.s.en
   a.s.mo a.s.la0 a.s.la1 a.s.la2 a.s.er ∧ xb ((apF L).next a 1).s.l 21 = push_23 (ofRow (L.getD (Int.ofNat a.i).toNat [])) (nrm a.s.l) (nrm a.s.y) a.s.a0 a.s.a1 a.s.tr a.s.op a.s.cl a.s.en a.s.mo
   a.s.la0 a.s.la1 a.s.la2 a.s.er ∧ xi ((apF L).next a 1).s.y 0 = push_24 (ofRow (L.getD (Int.ofNat a.i).toNat [])) (nrm a.s.l) (nrm a.s.y) a.s.a0 a.s.a1 a.s.tr a.s.op a.s.cl a.s.en a.s.mo a.s.la0
   a.s.la1 a.s.la2 a.s.er ∧ xi ((apF L).next a 1).s.y 1 = push_25 (ofRow (L.getD (Int.ofNat a.i).toNat [])) (nrm a.s.l) (nrm a.s.y) a.s.a0 a.s.a1 a.s.tr a.s.op a.s.cl a.s.en a.s.mo a.s.la0 a.s.la1
   a.s.la2 a.s.er ∧ xi ((apF L).next a 1).s.y 2 = push_26 (ofRow (L.getD (Int.ofNat a.i).toNat [])) (nrm a.s.l) (nrm a.s.y) a.s.a0 a.s.a1 a.s.tr a.s.op a.s.cl a.s.en a.s.mo a.s.la0 a.s.la1 a.s.la2
   a.s.er ∧ xi ((apF L).next a 1).s.y 3 = push_27 (ofRow (L.getD (Int.ofNat a.i).toNat [])) (nrm a.s.l) (nrm a.s.y) a.s.a0 a.s.a1 a.s.tr a.s.op a.s.cl a.s.en a.s.mo a.s.la0 a.s.la1 a.s.la2 a.s.er ∧ xi
   ((apF L).next a 1).s.y 4 = push_28 (ofRow (L.getD (Int.ofNat a.i).toNat [])) (nrm a.s.l) (nrm a.s.y) a.s.a0 a.s.a1 a.s.tr a.s.op a.s.cl a.s.en a.s.mo a.s.la0 a.s.la1 a.s.la2 a.s.er ∧ xi ((apF L).next
   a 1).s.y 5 = push_29 (ofRow (L.getD (Int.ofNat a.i).toNat [])) (nrm a.s.l) (nrm a.s.y) a.s.a0 a.s.a1 a.s.tr a.s.op a.s.cl a.s.en a.s.mo a.s.la0 a.s.la1 a.s.la2 a.s.er ∧ xi ((apF L).next a 1).s.y 6 =
   push_30 (ofRow (L.getD (Int.ofNat a.i).toNat [])) (nrm a.s.l) (nrm a.s.y) a.s.a0 a.s.a1 a.s.tr a.s.op a.s.cl a.s.en a.s.mo a.s.la0 a.s.la1 a.s.la2 a.s.er ∧ xi ((apF L).next a 1).s.y 7 = push_31
   (ofRow (L.getD (Int.ofNat a.i).toNat [])) (nrm a.s.l) (nrm a.s.y) a.s.a0 a.s.a1 a.s.tr a.s.op a.s.cl a.s.en a.s.mo a.s.la0 a.s.la1 a.s.la2 a.s.er ∧ xi ((apF L).next a 1).s.y 8 = push_32 (ofRow
   (L.getD (Int.ofNat a.i).toNat [])) (nrm a.s.l) (nrm a.s.y) a.s.a0 a.s.a1 a.s.tr a.s.op a.s.cl a.s.en a.s.mo a.s.la0 a.s.la1 a.s.la2 a.s.er ∧ xi ((apF L).next a 1).s.y 9 = push_33 (ofRow (L.getD
   (Int.ofNat a.i).toNat [])) (nrm a.s.l) (nrm a.s.y) a.s.a0 a.s.a1 a.s.tr a.s.op a.s.cl a.s.en a.s.mo a.s.la0 a.s.la1 a.s.la2 a.s.er ∧ xi ((apF L).next a 1).s.y 10 = push_34 (ofRow (L.getD (Int.ofNat
   a.i).toNat [])) (nrm a.s.l) (nrm a.s.y) a.s.a0 a.s.a1 a.s.tr a.s.op a.s.cl a.s.en a.s.mo a.s.la0 a.s.la1 a.s.la2 a.s.er ∧ xi ((apF L).next a 1).s.y 11 = push_35 (ofRow (L.getD (Int.ofNat a.i).toNat
   [])) (nrm a.s.l) (nrm a.s.y) a.s.a0 a.s.a1 a.s.tr a.s.op a.s.cl a.s.en a.s.mo a.s.la0 a.s.la1 a.s.la2 a.s.er ∧ xi ((apF L).next a 1).s.y 12 = push_36 (ofRow (L.getD (Int.ofNat a.i).toNat [])) (nrm
   a.s.l) (nrm a.s.y) a.s.a0 a.s.a1 a.s.tr a.s.op a.s.cl a.s.en a.s.mo a.s.la0 a.s.la1 a.s.la2 a.s.er ∧ xb ((apF L).next a 1).s.y 13 = push_37 (ofRow (L.getD (Int.ofNat a.i).toNat [])) (nrm a.s.l) (nrm
   a.s.y) a.s.a0 a.s.a1 a.s.tr a.s.op a.s.cl a.s.en a.s.mo a.s.la0 a.s.la1 a.s.la2 a.s.er ∧ xi ((apF L).next a 1).s.y 14 = push_38 (ofRow (L.getD (Int.ofNat a.i).toNat [])) (nrm a.s.l) (nrm a.s.y)
   a.s.a0 a.s.a1 a.s.tr a.s.op a.s.cl a.s.en a.s.mo a.s.la0 a.s.la1 a.s.la2 a.s.er ∧ xb ((apF L).next a 1).s.y 15 = push_39 (ofRow (L.getD (Int.ofNat a.i).toNat [])) (nrm a.s.l) (nrm a.s.y) a.s.a0
   a.s.a1 a.s.tr a.s.op a.s.cl a.s.en a.s.mo a.s.la0 a.s.la1 a.s.la2 a.s.er ∧ xi ((apF L).next a 1).s.y 16 = push_40 (ofRow (L.getD (Int.ofNat a.i).toNat [])) (nrm a.s.l) (nrm a.s.y) a.s.a0 a.s.a1
   a.s.tr a.s.op a.s.cl a.s.en a.s.mo a.s.la0 a.s.la1 a.s.la2 a.s.er ∧ xi ((apF L).next a 1).s.y 17 = push_41 (ofRow (L.getD (Int.ofNat a.i).toNat [])) (nrm a.s.l) (nrm a.s.y) a.s.a0 a.s.a1 a.s.tr
   a.s.op a.s.cl a.s.en a.s.mo a.s.la0 a.s.la1 a.s.la2 a.s.er ∧ xi ((apF L).next a 1).s.y 18 = push_42 (ofRow (L.getD (Int.ofNat a.i).toNat [])) (nrm a.s.l) (nrm a.s.y) a.s.a0 a.s.a1 a.s.tr a.s.op
   a.s.cl a.s.en a.s.mo a.s.la0 a.s.la1 a.s.la2 a.s.er ∧ xi ((apF L).next a 1).s.y 19 = push_43 (ofRow (L.getD (Int.ofNat a.i).toNat [])) (nrm a.s.l) (nrm a.s.y) a.s.a0 a.s.a1 a.s.tr a.s.op a.s.cl
   a.s.en a.s.mo a.s.la0 a.s.la1 a.s.la2 a.s.er ∧ xi ((apF L).next a 1).s.y 20 = push_44 (ofRow (L.getD (Int.ofNat a.i).toNat [])) (nrm a.s.l) (nrm a.s.y) a.s.a0 a.s.a1 a.s.tr a.s.op a.s.cl a.s.en
   a.s.mo a.s.la0 a.s.la1 a.s.la2 a.s.er ∧ xb ((apF L).next a 1).s.y 21 = push_45 (ofRow (L.getD (Int.ofNat a.i).toNat [])) (nrm a.s.l) (nrm a.s.y) a.s.a0 a.s.a1 a.s.tr a.s.op a.s.cl a.s.en a.s.mo
   a.s.la0 a.s.la1 a.s.la2 a.s.er ∧ ((apF L).next a 1).s.a0 = push_46 (ofRow (L.getD (Int.ofNat a.i).toNat [])) (nrm a.s.l) (nrm a.s.y) a.s.a0 a.s.a1 a.s.tr a.s.op a.s.cl a.s.en a.s.mo a.s.la0 a.s.la1
   a.s.la2 a.s.er ∧ ((apF L).next a 1).s.a1 = push_47 (ofRow (L.getD (Int.ofNat a.i).toNat [])) (nrm a.s.l) (nrm a.s.y) a.s.a0 a.s.a1 a.s.tr a.s.op a.s.cl a.s.en a.s.mo a.s.la0 a.s.la1 a.s.la2 a.s.er ∧
   ((apF L).next a 1).s.tr = push_48 (ofRow (L.getD (Int.ofNat a.i).toNat [])) (nrm a.s.l) (nrm a.s.y) a.s.a0 a.s.a1 a.s.tr a.s.op a.s.cl a.s.en a.s.mo a.s.la0 a.s.la1 a.s.la2 a.s.er ∧ ((apF L).next a
   1).s.op = push_49 (ofRow (L.getD (Int.ofNat a.i).toNat [])) (nrm a.s.l) (nrm a.s.y) a.s.a0 a.s.a1 a.s.tr a.s.op a.s.cl a.s.en a.s.mo a.s.la0 a.s.la1 a.s.la2 a.s.er ∧ ((apF L).next a 1).s.cl = a.s.cl
   ∧ ((apF L).next a 1).s.en = push_50 (ofRow (L.getD (Int.ofNat a.i).toNat [])) a.s.cl a.s.en a.s.mo a.s.la0 a.s.la1 a.s.la2 a.s.er ∧ ((apF L).next a 1).s.mo = push_51 (ofRow (L.getD (Int.ofNat
   a.i).toNat [])) a.s.cl a.s.en a.s.mo a.s.la0 a.s.la1 a.s.la2 a.s.er ∧ ((apF L).next a 1).s.la0 = push_52 (ofRow (L.getD (Int.ofNat a.i).toNat [])) a.s.cl a.s.en a.s.mo a.s.la0 a.s.la1 a.s.la2 a.s.er
   ∧ ((apF L).next a 1).s.la1 = push_53 (ofRow (L.getD (Int.ofNat a.i).toNat [])) a.s.cl a.s.en a.s.mo a.s.la0 a.s.la1 a.s.la2 a.s.er ∧ ((apF L).next a 1).s.la2 = push_54 (ofRow (L.getD (Int.ofNat
   a.i).toNat [])) a.s.cl a.s.en a.s.mo a.s.la0 a.s.la1 a.s.la2 a.s.er ∧ ((apF L).next a 1).s.er = push_55 (ofRow (L.getD (Int.ofNat a.i).toNat [])) (nrm a.s.l) (nrm a.s.y) a.s.a0 a.s.a1 a.s.tr a.s.op
   a.s.cl a.s.en a.s.mo a.s.la0 a.s.la1 a.s.la2 a.s.er a.s.C ∧ ((apF L).next a 1).s.C = push_56 (ofRow (L.getD (Int.ofNat a.i).toNat [])) (nrm a.s.l) (nrm a.s.y) a.s.a0 a.s.a1 a.s.tr a.s.op a.s.cl
   a.s.en a.s.mo a.s.la0 a.s.la1 a.s.la2 a.s.er a.s.C ∧ ([] : List (List Int)) = [] ∧ ((apF L).next a 1).R = a.R ++ ap_s2 L a), decide (Int.ofNat a.i < Int.ofNat L.length) = false → (((apF L).fin a).bad
   = true → False) ∧ (((apF L).fin a).bad = false → xi ((apF L).fin a).s.l 0 = xi a.s.l 0 ∧ xi ((apF L).fin a).s.l 1 = xi a.s.l 1 ∧ xi ((apF L).fin a).s.l 2 = xi a.s.l 2 ∧ xi ((apF L).fin a).s.l 3 = xi
   a.s.l 3 ∧ xi ((apF L).fin a).s.l 4 = xi a.s.l 4 ∧ xi ((apF L).fin a).s.l 5 = xi a.s.l 5 ∧ xi ((apF L).fin a).s.l 6 = xi a.s.l 6 ∧ xi ((apF L).fin a).s.l 7 = xi a.s.l 7 ∧ xi ((apF L).fin a).s.l 8 = xi
   a.s.l 8 ∧ xi ((apF L).fin a).s.l 9 = xi a.s.l 9 ∧ xi ((apF L).fin a).s.l 10 = xi a.s.l 10 ∧ xi ((apF L).fin a).s.l 11 = xi a.s.l 11 ∧ xi ((apF L).fin a).s.l 12 = xi a.s.l 12 ∧ xb ((apF L).fin a).s.l
   13 = xb a.s.l 13 ∧ xi ((apF L).fin a).s.l 14 = xi a.s.l 14 ∧ xb ((apF L).fin a).s.l 15 = xb a.s.l 15 ∧ xi ((apF L).fin a).s.l 16 = xi a.s.l 16 ∧ xi ((apF L).fin a).s.l 17 = xi a.s.l 17 ∧ xi ((apF
   L).fin a).s.l 18 = xi a.s.l 18 ∧ xi ((apF L).fin a).s.l 19 = xi a.s.l 19 ∧ xi ((apF L).fin a).s.l 20 = xi a.s.l 20 ∧ xb ((apF L).fin a).s.l 21 = xb a.s.l 21 ∧ xi ((apF L).fin a).s.y 0 = xi a.s.y 0 ∧
   xi ((apF L).fin a).s.y 1 = xi a.s.y 1 ∧ xi ((apF L).fin a).s.y 2 = xi a.s.y 2 ∧ xi ((apF L).fin a).s.y 3 = xi a.s.y 3 ∧ xi ((apF L).fin a).s.y 4 = xi a.s.y 4 ∧ xi ((apF L).fin a).s.y 5 = xi a.s.y 5 ∧
   xi ((apF L).fin a).s.y 6 = xi a.s.y 6 ∧ xi ((apF L).fin a).s.y 7 = xi a.s.y 7 ∧ xi ((apF L).fin a).s.y 8 = xi a.s.y 8 ∧ xi ((apF L).fin a).s.y 9 = xi a.s.y 9 ∧ xi ((apF L).fin a).s.y 10 = xi a.s.y 10
   ∧ xi ((apF L).fin a).s.y 11 = xi a.s.y 11 ∧ xi ((apF L).fin a).s.y 12 = xi a.s.y 12 ∧ xb ((apF L).fin a).s.y 13 = xb a.s.y 13 ∧ xi ((apF L).fin a).s.y 14 = xi a.s.y 14 ∧ xb ((apF L).fin a).s.y 15 =
   xb a.s.y 15 ∧ xi ((apF L).fin a).s.y 16 = xi a.s.y 16 ∧ xi ((apF L).fin a).s.y 17 = xi a.s.y 17 ∧ xi ((apF L).fin a).s.y 18 = xi a.s.y 18 ∧ xi ((apF L).fin a).s.y 19 = xi a.s.y 19 ∧ xi ((apF L).fin
   a).s.y 20 = xi a.s.y 20 ∧ xb ((apF L).fin a).s.y 21 = xb a.s.y 21 ∧ ((apF L).fin a).s.a0 = a.s.a0 ∧ ((apF L).fin a).s.a1 = a.s.a1 ∧ ((apF L).fin a).s.tr = a.s.tr ∧ ((apF L).fin a).s.op = a.s.op ∧
   ((apF L).fin a).s.cl = a.s.cl ∧ ((apF L).fin a).s.en = a.s.en ∧ ((apF L).fin a).s.mo = a.s.mo ∧ ((apF L).fin a).s.la0 = a.s.la0 ∧ ((apF L).fin a).s.la1 = a.s.la1 ∧ ((apF L).fin a).s.la2 = a.s.la2 ∧
   ((apF L).fin a).s.er = a.s.er ∧ ((apF L).fin a).s.C = a.s.C ∧ ([] : List (List Int)) = [] ∧ ((apF L).fin a).R = a.R)]
theorem ap_round (L : List (List Int)) (a : AS) (hNeeds : ∀ pN ∈ (ap_needs L a), pN) : RoundOk (roundC (apF L) (bodyOf Try.prog (sums K_contour) L_con 13 0) 79 a) :=
  RoundOk.of (ps := (ap_needs L a)) (by kernel_rfl) (by kernel_rfl) hNeeds
theorem apN_step {L : List (List Int)} {a : AS} (h : a.i < L.length) : apN L (L.length - a.i) a = bif pushE (ofRow (L.getD a.i [])) a.s != 0 then ⟨true, a.i, pushE (ofRow (L.getD a.i [])) a.s, pushS (ofRow (L.getD a.i [])) a.s, a.R⟩
    else apN L (L.length - (a.i + 1)) ⟨a.i + 1, pushS (ofRow (L.getD a.i [])) a.s, a.R ++ pushO (ofRow (L.getD a.i [])) a.s⟩ := by
  have e : L.length - a.i = (L.length - (a.i + 1)) + 1 := by omega
  rw [e]; rfl
theorem ap_rounds (L : List (List Int)) : RoundsOk (apF L) (bodyOf Try.prog (sums K_contour) L_con 13 0) 79 := by
  intro a hJ
  obtain ⟨h1, h2, h3, h4⟩ : a.i ≤ L.length ∧ L.length ≤ 1000 ∧ a.s.C.length ≤ 8 ∧ a.R.length ≤ 11 * a.i := hJ
  have lt : ap_s0 L a → a.i < L.length := by unfold ap_s0; simp
  have ho := pushO_len (ofRow (L.getD a.i [])) a.s h3
  have hc := pushS_C (ofRow (L.getD a.i [])) a.s h3
  have e6 : IntKind.i64.wrap (Int.ofNat a.i + 1) = Int.ofNat (a.i + 1) := wrI (by simp; omega) (by simp; omega)
  refine ap_round L a ?_
  unfold ap_needs
  simp only [List.forall_mem_cons, List.not_mem_nil, false_implies, implies_true, and_true]
  have all {p q : Prop} (h : p) (k : q) : p ∧ q := ⟨h, k⟩
  have e0 (h : a.i < L.length) (hb : (pushE (ofRow (L.getD a.i [])) a.s != 0) = true) : (apF L).fin a = ⟨true, a.i, pushE (ofRow (L.getD a.i [])) a.s, pushS (ofRow (L.getD a.i [])) a.s, a.R⟩ := by
    show apN L (L.length - a.i) a = _
    rw [apN_step h, hb]; rfl
  refine ⟨fun h => ⟨by simp, lt h, lt h, by omega, by omega, fun _ => ?_⟩, fun h => ⟨fun hb => ⟨fun _ => ?_, fun hf => ?_⟩, fun hb => ⟨⟨?_, h2, hc, ?_⟩, ?_, ?_, e6.symm, ?_⟩⟩, fun h => ?_⟩
  · have ho' : (ap_s2 L a).length ≤ 11 := ho
    omega
  · rw [e0 (lt h) hb]; exact ⟨rfl, rfl⟩
  · rw [e0 (lt h) hb] at hf; cases hf
  · have := lt h
    show a.i + 1 ≤ _; omega
  · show (a.R ++ pushO (ofRow (L.getD a.i [])) a.s).length ≤ 11 * (a.i + 1)
    rw [List.length_append]; omega
  · have := lt h
    show L.length - (a.i + 1) < L.length - a.i; omega
  · show apN L (L.length - (a.i + 1)) _ = apN L (L.length - a.i) a
    have hb' : (pushE (ofRow (L.getD a.i [])) a.s != 0) = false := hb
    rw [apN_step (lt h), hb']; rfl
  · repeat' first | refine ⟨by kernel_rfl, ?_⟩ | kernel_rfl | exact trivial | refine ⟨trivial, ?_⟩
  · have hi : a.i = L.length := by simp at h; omega
    have e : (apF L).fin a = ⟨false, a.i, 0, a.s, a.R⟩ := by
      show apN L (L.length - a.i) a = _
      rw [hi, Nat.sub_self]; unfold apN; rw [hi]
    rw [e]
    refine ⟨fun h => (by cases h), fun _ => ?_⟩
    repeat' first | refine ⟨by kernel_rfl, ?_⟩ | kernel_rfl | exact trivial | refine ⟨trivial, ?_⟩
noncomputable def apLp : LoopS := fun env mem m => match SX.look mem 0 with
  | some (.row _ _ _ (.lst _ _ L)) => famS (apF L) 79 (fun _ _ => some ⟨0, St0, []⟩) env mem m
  | _ => none
noncomputable def L_ap : FuncId → Nat → Option LoopS := addL L_con 13 4 apLp
theorem known_apL : Known Try.prog (sums K_contour) L_ap := by
  refine known_addL 0 known_contour (by kernel_rfl) (codeOk_of fun env mem m x h => ?_)
  unfold apLp at h
  have hlen : (loopList Try.prog 13).length = 1 := by kernel_rfl
  split at h
  · exact ⟨_, fam_ok (bodyOf_ok plainN known_contour (by omega)) (ap_rounds _), h⟩
  · cases h
/-- How Apply's loop ends. -/
noncomputable def apT (L : List (List Int)) : AT := (apF L).fin (AS.mk 0 St0 [])
noncomputable def apC (L : List (List Int)) : Int := close_0 (apT L).s.op (apT L).s.cl (apT L).s.er
noncomputable def apI (L : List (List Int)) : Int := bif (apT L).bad then Int.ofNat (apT L).i else bif apC L != 0 then Int.ofNat L.length else Int.ofNat L.length
noncomputable def apE (L : List (List Int)) : Int := bif (apT L).bad then (apT L).e else bif apC L != 0 then apC L else 0
noncomputable def apO (L : List (List Int)) : List (List Int) := bif (apT L).bad then [] else bif apC L != 0 then [] else (apT L).R ++ close_46 (apT L).s.op (apT L).s.cl (apT L).s.er []
theorem apN_R (L : List (List Int)) : ∀ (k : Nat) (a : AS), a.s.C.length ≤ 8 → (apN L k a).R.length ≤ a.R.length + 11 * k ∧ (apN L k a).s.C.length ≤ 8
  | 0, a, h => ⟨Nat.le_refl _, h⟩
  | k + 1, a, h => by
    have ho := pushO_len (ofRow (L.getD a.i [])) a.s h
    have hc := pushS_C (ofRow (L.getD a.i [])) a.s h
    unfold apN
    cases hb : pushE (ofRow (L.getD a.i [])) a.s != 0
    · have := apN_R L k ⟨a.i + 1, pushS (ofRow (L.getD a.i [])) a.s, a.R ++ pushO (ofRow (L.getD a.i [])) a.s⟩ hc
      rw [cond_false]
      simp only [List.length_append] at this
      exact ⟨by omega, this.2⟩
    · exact ⟨by show a.R.length ≤ _; omega, hc⟩
noncomputable def apply_tpl : Tpl := ⟨[.one (.wh 0)], [(0, .row false 32 22 1 [.int .i64, .int .i64, .int .i64, .int .i64, .int .i64, .int .i64, .int .i64, .int .i64, .int .i64, .int .i64, .int .i64, .int .i64, .int .i64, .bool, .int .i64, .bool, .int .i64, .int .i64, .int .i64, .int .i64, .int .i64, .bool])], 2⟩
noncomputable def apply_0 (L : List (List Int)) : Int := bif ((apF L).fin (AS.mk 0 St0 [])).bad then Int.ofNat ((apF L).fin (AS.mk 0 St0 [])).i else bif close_0 ((apF L).fin (AS.mk 0 St0 [])).s.op ((apF L).fin (AS.mk 0 St0 [])).s.cl ((apF L).fin (AS.mk 0
   St0 [])).s.er != 0 then Int.ofNat L.length else Int.ofNat L.length
noncomputable def apply_s0 (L : List (List Int)) : Int := close_0 ((apF L).fin (AS.mk 0 St0 [])).s.op ((apF L).fin (AS.mk 0 St0 [])).s.cl ((apF L).fin (AS.mk 0 St0 [])).s.er
noncomputable def apply_1 (L : List (List Int)) : Int := bif ((apF L).fin (AS.mk 0 St0 [])).bad then ((apF L).fin (AS.mk 0 St0 [])).e else bif apply_s0 L != 0 then apply_s0 L else 0
noncomputable def apply_2 (L : List (List Int)) : List (List Int) := bif ((apF L).fin (AS.mk 0 St0 [])).bad then [] else bif close_0 ((apF L).fin (AS.mk 0 St0 [])).s.op ((apF L).fin (AS.mk 0 St0 [])).s.cl ((apF L).fin (AS.mk 0 St0 [])).s.er != 0 then [] else ((apF
   L).fin (AS.mk 0 St0 [])).R ++ close_46 ((apF L).fin (AS.mk 0 St0 [])).s.op ((apF L).fin (AS.mk 0 St0 [])).s.cl ((apF L).fin (AS.mk 0 St0 [])).s.er []
noncomputable def apply_needs (L : List (List Int)) : List Prop := [0 ≤ L.length ∧ L.length ≤ 1000 ∧ 0 ≤ 8 ∧ 0 ≤ 0, Int.ofNat 0 = 0, Int.ofNat 0 = 0, Int.ofNat 0 = 0, Int.ofNat 0 = 0, Int.ofNat 0 = 0, Int.ofNat 0 = 0, Int.ofNat 0 = 0, Int.ofNat 0 = 0, Int.ofNat 0 =
   0, Int.ofNat 0 = 0, Int.ofNat 0 = 0, Int.ofNat 0 = 0, Int.ofNat 0 = 0, Int.ofNat 0 = 0, false = false, Int.ofNat 0 = 0, false = false, Int.ofNat 0 = 0, Int.ofNat 0 = 0, Int.ofNat 0 = 0, Int.ofNat 0 =
   0, Int.ofNat 0 = 0, false = false, Int.ofNat 0 = 0, Int.ofNat 0 = 0, Int.ofNat 0 = 0, Int.ofNat 0 = 0, Int.ofNat 0 = 0, Int.ofNat 0 = 0, Int.ofNat 0 = 0, Int.ofNat 0 = 0, Int.ofNat 0 = 0, Int.ofNat 0
   = 0, Int.ofNat 0 = 0, Int.ofNat 0 = 0, Int.ofNat 0 = 0, false = false, Int.ofNat 0 = 0, false = false, Int.ofNat 0 = 0, Int.ofNat 0 = 0, Int.ofNat 0 = 0, Int.ofNat 0 = 0, Int.ofNat 0 = 0, false =
   false, Int.ofNat 0 = 0, Int.ofNat 0 = 0, false = false, false = false, false = false, false = false, false = false, Int.ofNat 0 = 0, Int.ofNat 0 = 0, Int.ofNat 0 = 0, Int.ofNat 0 = 0, (AS.mk 0 St0
   []).s.C = [], ([] : List (List Int)) = [], (AS.mk 0 St0 []).R = [], ((apF L).fin (AS.mk 0 St0 [])).bad = false → (close_0 ((apF L).fin (AS.mk 0 St0 [])).s.op ((apF L).fin (AS.mk 0 St0 [])).s.cl ((apF
   L).fin (AS.mk 0 St0 [])).s.er != 0) = false → (((apF L).fin (AS.mk 0 St0 [])).R.length + (close_46 ((apF L).fin (AS.mk 0 St0 [])).s.op ((apF L).fin (AS.mk 0 St0 [])).s.cl ((apF L).fin (AS.mk 0 St0
   [])).s.er []).length) * 176 ≤ 140737488355328 ∧ ((apF L).fin (AS.mk 0 St0 [])).R.length + (close_46 ((apF L).fin (AS.mk 0 St0 [])).s.op ((apF L).fin (AS.mk 0 St0 [])).s.cl ((apF L).fin (AS.mk 0 St0
   [])).s.er []).length ≤ 9223372036854775807]
theorem apply_weak {L : List (List Int)} (hW : ∀ q ∈ ([L.length ≤ 1000] : List Prop), q) : ∀ q ∈ (apply_needs L), q := by
  simp only [List.mem_cons, List.not_mem_nil, or_false, forall_eq_or_imp, forall_eq] at hW
  unfold apply_needs
  simp only [List.forall_mem_cons, List.not_mem_nil, false_implies, implies_true, and_true]
  have hr := (apN_R L (L.length - 0) ⟨0, St0, []⟩ (Nat.zero_le _)).1
  have e : (apF L).fin (AS.mk 0 St0 []) = apN L (L.length - 0) ⟨0, St0, []⟩ := rfl
  have h46 : ∀ op cl er, (close_46 op cl er []).length = 0 := fun op cl er => Nat.le_zero.1 (by unfold close_46; exact settled_45_len ..)
  have hz : (AS.mk 0 St0 []).R.length = 0 := rfl
  refine ⟨⟨Nat.zero_le _, hW, by decide, by decide⟩, ?_⟩
  repeat' first | refine ⟨by kernel_rfl, ?_⟩ | kernel_rfl | exact trivial | (exact fun _ _ => by rw [h46, e]; omega) | refine ⟨rfl, ?_⟩ | refine ⟨trivial, ?_⟩
noncomputable def a1_c0 := [CK.int IntKind.i64, CK.int IntKind.i64, CK.int IntKind.i64, CK.int IntKind.i64, CK.int IntKind.i64, CK.int IntKind.i64, CK.int IntKind.i64, CK.int IntKind.i64, CK.int IntKind.i64, CK.int
   IntKind.i64, CK.int IntKind.i64, CK.int IntKind.i64, CK.int IntKind.i64, CK.bool, CK.int IntKind.i64, CK.bool, CK.int IntKind.i64, CK.int IntKind.i64, CK.int IntKind.i64, CK.int IntKind.i64, CK.int IntKind.i64, CK.bool]
set_option maxRecDepth 1000000 in
theorem apply_runs (L : List (List Int)) (hNeeds : ∀ pN ∈ (apply_needs L), pN) : Runs (runF (sums K_contour) L_ap 13) (apply_tpl.args []) (apply_tpl.memo [] [L]) apply_tpl.n (SV.tup [(false, [SC.wh 499]), (false, [SC.int IntKind.i64 (SI.v (apply_0 L))]), (false, [SC.int IntKind.i64 (SI.v (apply_1 L))])]) ([(499, Obj.row false 32 22 (RowC.lst 498 a1_c0 (apply_2 L))), (0,
   Obj.row false 32 22 (RowC.lst 1 a1_c0 L))]) :=
  Runs.of1 (ps := (apply_needs L)) (by kernel_rfl) hNeeds
noncomputable def apply_out : List Pm → Lss → Option CRes
  | [], [L] => some ⟨SV.tup [(false, [SC.wh 499]), (false, [SC.int IntKind.i64 (SI.v ((apI L)))]), (false, [SC.int IntKind.i64 (SI.v ((apE L)))])], [(499, Obj.row false 32 22 (RowC.lst 498 a1_c0 ((apO L)))), (0,
   Obj.row false 32 22 (RowC.lst 1 a1_c0 L))], [L.length ≤ 1000], [], 500⟩
  | _, _ => none
theorem apply_turned (L : List (List Int)) (hNeeds : ∀ pN ∈ (apply_needs L), pN) : Runs (runF (sums K_contour) L_ap 13) (apply_tpl.args []) (apply_tpl.memo [] [L]) apply_tpl.n (SV.tup [(false, [SC.wh 499]), (false, [SC.int IntKind.i64 (SI.v ((apI L)))]), (false, [SC.int IntKind.i64 (SI.v ((apE L)))])])
    ([(499,
      Obj.row false 32 22
        (RowC.lst 498
          [CK.int IntKind.i64, CK.int IntKind.i64, CK.int IntKind.i64, CK.int IntKind.i64, CK.int IntKind.i64, CK.int IntKind.i64, CK.int IntKind.i64, CK.int IntKind.i64, CK.int IntKind.i64,
            CK.int IntKind.i64, CK.int IntKind.i64, CK.int IntKind.i64, CK.int IntKind.i64, CK.bool, CK.int IntKind.i64, CK.bool, CK.int IntKind.i64, CK.int IntKind.i64, CK.int IntKind.i64,
            CK.int IntKind.i64, CK.int IntKind.i64, CK.bool]
          ((apO L)))),
    (0,
      Obj.row false 32 22
        (RowC.lst 1
          [CK.int IntKind.i64, CK.int IntKind.i64, CK.int IntKind.i64, CK.int IntKind.i64, CK.int IntKind.i64, CK.int IntKind.i64, CK.int IntKind.i64, CK.int IntKind.i64, CK.int IntKind.i64,
            CK.int IntKind.i64, CK.int IntKind.i64, CK.int IntKind.i64, CK.int IntKind.i64, CK.bool, CK.int IntKind.i64, CK.bool, CK.int IntKind.i64, CK.int IntKind.i64, CK.int IntKind.i64,
            CK.int IntKind.i64, CK.int IntKind.i64, CK.bool]
          L))]) :=
  (apply_runs L hNeeds).to (by first | rfl | (simp only [])) (by first | rfl | (simp only []))
theorem apply_ok : FOk Try.prog 13 (tplS apply_tpl apply_out) := by
  refine tplS_ok (runF_ok known_apL 13) fun ps ls r hr hn _ => ?_
  unfold apply_out at hr
  split at hr
  · cases hr; exact ⟨_, apply_turned _ (apply_weak (by exact hn)), fun _ => rfl⟩
  · cases hr
noncomputable def K_apply : List (Nat × Summ) := (13, tplS apply_tpl apply_out) :: K_contour
theorem known_apply : Known Try.prog (sums K_apply) L_ap := known_cons known_apL apply_ok
end Go.Proofs.Ytmbfbhimdkjkoaa
