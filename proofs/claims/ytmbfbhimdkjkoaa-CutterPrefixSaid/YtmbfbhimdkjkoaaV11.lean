/-
  CUTTER: the filter's state. Conditions: none.
-/
import Derived.Test.YtmbfbhimdkjkoaaG2
set_option linter.all false
namespace Go.Proofs.Ytmbfbhimdkjkoaa
open Go.SX Go.RowKit
structure St where
  l : List GC
  y : List GC
  a0 : Int
  a1 : Int
  tr : Bool
  op : Bool
  cl : Bool
  en : Bool
  mo : Bool
  la0 : Int
  la1 : Int
  la2 : Int
  er : Int
  C : List (List Int)
noncomputable def zeroG : List GC := [.i 0, .i 0, .i 0, .i 0, .i 0, .i 0, .i 0, .i 0, .i 0, .i 0, .i 0, .i 0, .i 0, .b false, .i 0, .b false, .i 0, .i 0, .i 0, .i 0, .i 0, .b false]
/-- A filter that has been given nothing. -/
noncomputable def St0 : St := ⟨zeroG, zeroG, 0, 0, false, false, false, false, false, 0, 0, 0, 0, []⟩
/-- What Push makes of a filter, what it settles, and its error. -/
noncomputable def pushS (x : List GC) (s : St) : St :=
  ⟨[.i (push_2 x s.l s.y s.a0 s.a1 s.tr s.op s.cl s.en s.mo s.la0 s.la1 s.la2 s.er), .i (push_3 x s.l s.y s.a0 s.a1 s.tr s.op s.cl s.en s.mo s.la0 s.la1 s.la2 s.er), .i (push_4 x s.l s.y s.a0 s.a1 s.tr s.op s.cl s.en s.mo s.la0 s.la1 s.la2 s.er), .i (push_5 x s.l s.y s.a0 s.a1 s.tr s.op s.cl s.en s.mo s.la0 s.la1 s.la2 s.er), .i (push_6 x s.l s.y s.a0 s.a1 s.tr s.op s.cl s.en s.mo s.la0 s.la1 s.la2 s.er), .i (push_7 x s.l s.y s.a0 s.a1 s.tr s.op s.cl s.en s.mo s.la0 s.la1 s.la2 s.er), .i (push_8 x s.l s.y s.a0 s.a1 s.tr s.op s.cl s.en s.mo s.la0 s.la1 s.la2 s.er), .i (push_9 x s.l s.y s.a0 s.a1 s.tr s.op s.cl s.en s.mo s.la0 s.la1 s.la2 s.er), .i (push_10 x s.l s.y s.a0 s.a1 s.tr s.op s.cl s.en s.mo s.la0 s.la1 s.la2 s.er), .i (push_11 x s.l s.y s.a0 s.a1 s.tr s.op s.cl s.en s.mo s.la0 s.la1 s.la2 s.er), .i (push_12 x s.l s.y s.a0 s.a1 s.tr s.op s.cl s.en s.mo s.la0 s.la1 s.la2 s.er), .i (push_13 x s.l s.y s.a0 s.a1 s.tr s.op s.cl s.en s.mo s.la0 s.la1 s.la2 s.er), .i (push_14 x s.l s.y s.a0 s.a1 s.tr s.op s.cl s.en s.mo s.la0 s.la1 s.la2 s.er), .b (push_15 x s.l s.y s.a0 s.a1 s.tr s.op s.cl s.en s.mo s.la0 s.la1 s.la2 s.er), .i (push_16 x s.l s.y s.a0 s.a1 s.tr s.op s.cl s.en s.mo s.la0 s.la1 s.la2 s.er), .b (push_17 x s.l s.y s.a0 s.a1 s.tr s.op s.cl s.en s.mo s.la0 s.la1 s.la2 s.er), .i (push_18 x s.l s.y s.a0 s.a1 s.tr s.op s.cl s.en s.mo s.la0 s.la1 s.la2 s.er), .i (push_19 x s.l s.y s.a0 s.a1 s.tr s.op s.cl s.en s.mo s.la0 s.la1 s.la2 s.er), .i (push_20 x s.l s.y s.a0 s.a1 s.tr s.op s.cl s.en s.mo s.la0 s.la1 s.la2 s.er), .i (push_21 x s.l s.y s.a0 s.a1 s.tr s.op s.cl s.en s.mo s.la0 s.la1 s.la2 s.er), .i (push_22 x s.l s.y s.a0 s.a1 s.tr s.op s.cl s.en s.mo s.la0 s.la1 s.la2 s.er), .b (push_23 x s.l s.y s.a0 s.a1 s.tr s.op s.cl s.en s.mo s.la0 s.la1 s.la2 s.er)],
   [.i (push_24 x s.l s.y s.a0 s.a1 s.tr s.op s.cl s.en s.mo s.la0 s.la1 s.la2 s.er), .i (push_25 x s.l s.y s.a0 s.a1 s.tr s.op s.cl s.en s.mo s.la0 s.la1 s.la2 s.er), .i (push_26 x s.l s.y s.a0 s.a1 s.tr s.op s.cl s.en s.mo s.la0 s.la1 s.la2 s.er), .i (push_27 x s.l s.y s.a0 s.a1 s.tr s.op s.cl s.en s.mo s.la0 s.la1 s.la2 s.er), .i (push_28 x s.l s.y s.a0 s.a1 s.tr s.op s.cl s.en s.mo s.la0 s.la1 s.la2 s.er), .i (push_29 x s.l s.y s.a0 s.a1 s.tr s.op s.cl s.en s.mo s.la0 s.la1 s.la2 s.er), .i (push_30 x s.l s.y s.a0 s.a1 s.tr s.op s.cl s.en s.mo s.la0 s.la1 s.la2 s.er), .i (push_31 x s.l s.y s.a0 s.a1 s.tr s.op s.cl s.en s.mo s.la0 s.la1 s.la2 s.er), .i (push_32 x s.l s.y s.a0 s.a1 s.tr s.op s.cl s.en s.mo s.la0 s.la1 s.la2 s.er), .i (push_33 x s.l s.y s.a0 s.a1 s.tr s.op s.cl s.en s.mo s.la0 s.la1 s.la2 s.er), .i (push_34 x s.l s.y s.a0 s.a1 s.tr s.op s.cl s.en s.mo s.la0 s.la1 s.la2 s.er), .i (push_35 x s.l s.y s.a0 s.a1 s.tr s.op s.cl s.en s.mo s.la0 s.la1 s.la2 s.er), .i (push_36 x s.l s.y s.a0 s.a1 s.tr s.op s.cl s.en s.mo s.la0 s.la1 s.la2 s.er), .b (push_37 x s.l s.y s.a0 s.a1 s.tr s.op s.cl s.en s.mo s.la0 s.la1 s.la2 s.er), .i (push_38 x s.l s.y s.a0 s.a1 s.tr s.op s.cl s.en s.mo s.la0 s.la1 s.la2 s.er), .b (push_39 x s.l s.y s.a0 s.a1 s.tr s.op s.cl s.en s.mo s.la0 s.la1 s.la2 s.er), .i (push_40 x s.l s.y s.a0 s.a1 s.tr s.op s.cl s.en s.mo s.la0 s.la1 s.la2 s.er), .i (push_41 x s.l s.y s.a0 s.a1 s.tr s.op s.cl s.en s.mo s.la0 s.la1 s.la2 s.er), .i (push_42 x s.l s.y s.a0 s.a1 s.tr s.op s.cl s.en s.mo s.la0 s.la1 s.la2 s.er), .i (push_43 x s.l s.y s.a0 s.a1 s.tr s.op s.cl s.en s.mo s.la0 s.la1 s.la2 s.er), .i (push_44 x s.l s.y s.a0 s.a1 s.tr s.op s.cl s.en s.mo s.la0 s.la1 s.la2 s.er), .b (push_45 x s.l s.y s.a0 s.a1 s.tr s.op s.cl s.en s.mo s.la0 s.la1 s.la2 s.er)],
   push_46 x s.l s.y s.a0 s.a1 s.tr s.op s.cl s.en s.mo s.la0 s.la1 s.la2 s.er, push_47 x s.l s.y s.a0 s.a1 s.tr s.op s.cl s.en s.mo s.la0 s.la1 s.la2 s.er, push_48 x s.l s.y s.a0 s.a1 s.tr s.op s.cl s.en s.mo s.la0 s.la1 s.la2 s.er, push_49 x s.l s.y s.a0 s.a1 s.tr s.op s.cl s.en s.mo s.la0 s.la1 s.la2 s.er, s.cl, push_50 x s.cl s.en s.mo s.la0 s.la1 s.la2 s.er, push_51 x s.cl s.en s.mo s.la0 s.la1 s.la2 s.er, push_52 x s.cl s.en s.mo s.la0 s.la1 s.la2 s.er, push_53 x s.cl s.en s.mo s.la0 s.la1 s.la2 s.er, push_54 x s.cl s.en s.mo s.la0 s.la1 s.la2 s.er, push_55 x s.l s.y s.a0 s.a1 s.tr s.op s.cl s.en s.mo s.la0 s.la1 s.la2 s.er s.C, push_56 x s.l s.y s.a0 s.a1 s.tr s.op s.cl s.en s.mo s.la0 s.la1 s.la2 s.er s.C⟩
noncomputable def pushO (x : List GC) (s : St) : List (List Int) := push_1 x s.l s.y s.a0 s.a1 s.tr s.op s.cl s.en s.mo s.la0 s.la1 s.la2 s.er s.C []
noncomputable def pushE (x : List GC) (s : St) : Int := push_0 x s.l s.y s.a0 s.a1 s.tr s.op s.cl s.en s.mo s.la0 s.la1 s.la2 s.er s.C
noncomputable def stCells (g : Nat → Nat) (s : St) (c o : Nat) : List (Nat × SC) := fcells g s.l s.y s.a0 s.a1 s.tr c s.op s.cl s.en s.mo s.la0 s.la1 s.la2 o s.er
noncomputable def stN (X : List (List Int)) (s : St) : Nat → St
  | 0 => s
  | i + 1 => pushS (ofRow (X.getD i [])) (stN X s i)
noncomputable def outN (X : List (List Int)) (s : St) : Nat → List (List Int)
  | 0 => []
  | i + 1 => outN X s i ++ pushO (ofRow (X.getD i [])) (stN X s i)
noncomputable def badN (X : List (List Int)) (s : St) : Nat → Bool
  | 0 => false
  | i + 1 => bif badN X s i then true else pushE (ofRow (X.getD i [])) (stN X s i) != 0
theorem begin_49_len (x : List GC) (C : List (List Int)) : (begin_49 x C).length ≤ C.length := by
  unfold begin_49
  repeat' first | exact Nat.le_refl _ | exact Nat.zero_le _ | refine ite_le ?_ ?_
theorem finish_50_len (x l y : List GC) (a0 a1 : Int) (tr : Bool) (C : List (List Int)) : (finish_50 x l y a0 a1 tr C).length ≤ C.length := by
  unfold finish_50
  repeat' first | exact Nat.le_refl _ | exact Nat.zero_le _ | refine ite_le ?_ ?_
theorem chA {C O : List (List Int)} {r : List Int} : (O ++ [r]).length ≤ O.length + C.length + 3 := by simp only [List.length_append, List.length_cons, List.length_nil]; omega
theorem take_54_len (x l y : List GC) (a0 a1 : Int) (tr op cl en mo : Bool) (la0 la1 la2 : Int) (C O : List (List Int)) : (take_54 x l y a0 a1 tr op cl en mo la0 la1 la2 C O).length ≤ O.length + C.length + 3 := by
  unfold take_54
  repeat' first | exact chO | exact chA | exact finish_49_len .. | exact inner_48_len .. | refine ite_le ?_ ?_
theorem take_55_len (x l y : List GC) (a0 a1 : Int) (tr op cl en mo : Bool) (la0 la1 la2 : Int) (C : List (List Int)) (h : C.length ≤ 8) : (take_55 x l y a0 a1 tr op cl en mo la0 la1 la2 C).length ≤ 8 := by
  unfold take_55
  repeat' first | exact h | exact Nat.le_trans (begin_49_len ..) h | exact Nat.le_trans (finish_50_len ..) h | exact inner_49_len _ _ _ _ _ _ _ h | refine ite_le ?_ ?_
theorem settled_45_len (er : Int) (O : List (List Int)) : (settled_45 er O).length ≤ O.length := by
  unfold settled_45
  exact ite_le (Nat.zero_le _) (Nat.le_refl _)
theorem pushS_C (x : List GC) (s : St) (h : s.C.length ≤ 8) : (pushS x s).C.length ≤ 8 := by
  show (push_56 ..).length ≤ 8
  unfold push_56
  exact ite_le (take_55_len _ _ _ _ _ _ _ _ _ _ _ _ _ _ h) h
theorem pushO_len (x : List GC) (s : St) (h : s.C.length ≤ 8) : (pushO x s).length ≤ 11 := by
  unfold pushO push_1
  refine ite_le (Nat.le_trans (settled_45_len ..) (Nat.le_trans (take_54_len ..) ?_)) (Nat.le_trans (settled_45_len ..) (Nat.zero_le _))
  simp only [List.length_nil]; omega
theorem stN_C (X : List (List Int)) (s : St) (h : s.C.length ≤ 8) : ∀ i, (stN X s i).C.length ≤ 8
  | 0 => h
  | i + 1 => pushS_C _ _ (stN_C X s h i)
theorem outN_len (X : List (List Int)) (s : St) (h : s.C.length ≤ 8) : ∀ i, (outN X s i).length ≤ 11 * i
  | 0 => Nat.le_refl _
  | i + 1 => by
    have h1 := outN_len X s h i
    have h2 := pushO_len (ofRow (X.getD i [])) (stN X s i) (stN_C X s h i)
    simp only [outN, List.length_append]; omega
end Go.Proofs.Ytmbfbhimdkjkoaa
