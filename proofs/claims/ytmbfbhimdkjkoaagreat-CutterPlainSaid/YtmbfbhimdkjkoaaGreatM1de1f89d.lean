/-
  Texts of one claim, laid together. Conditions: none.
-/
import Derived.Test.YtmbfbhimdkjkoaaGreatM2843466d
import Derived.Test.YtmbfbhimdkjkoaaGreatM5b33e5d7
set_option linter.all false
set_option maxRecDepth 1000000
namespace Go.Proofs.YtmbfbhimdkjkoaaGreat
noncomputable section
open Go.SX Go.RowKit
structure St where
  l:List GC
  y:List GC
  a0:Int
  a1:Int
  tr:Bool
  op:Bool
  cl:Bool
  en:Bool
  mo:Bool
  la0:Int
  la1:Int
  la2:Int
  er:Int
  C:LL
def JgK:List GC := [.i 0,.i 0,.i 0,.i 0,.i 0,.i 0,.i 0,.i 0,.i 0,.i 0,.i 0,.i 0,.i 0,.b false,.i 0,.b false,.i 0,.i 0,.i 0,.i 0,.i 0,.b false]
def Zy:St := ⟨JgK,JgK,0,0,false,false,false,false,false,0,0,0,0,[]⟩
section
variable (g:Nat → Nat) (x:List GC) (s:St) (c o:Nat)
def KQ:St:=
  ⟨[.i (JLL x (J1 s.l) (J1 s.y) s.a0 s.a1 s.tr s.op s.cl s.en s.mo s.la0 s.la1 s.la2 s.er),.i (JKf x (J1 s.l) (J1 s.y) s.a0 s.a1 s.tr s.op s.cl s.en s.mo s.la0 s.la1 s.la2 s.er),.i (JKk x (J1 s.l) (J1 s.y) s.a0 s.a1 s.tr s.op s.cl s.en s.mo s.la0 s.la1 s.la2 s.er),.i (JLc x (J1 s.l) (J1 s.y) s.a0 s.a1 s.tr s.op s.cl s.en s.mo s.la0 s.la1 s.la2 s.er),.i (JMG x (J1 s.l) (J1 s.y) s.a0 s.a1 s.tr s.op s.cl s.en s.mo s.la0 s.la1 s.la2 s.er),.i (JJW x (J1 s.l) (J1 s.y) s.a0 s.a1 s.tr s.op s.cl s.en s.mo s.la0 s.la1 s.la2 s.er),.i (JKo x (J1 s.l) (J1 s.y) s.a0 s.a1 s.tr s.op s.cl s.en s.mo s.la0 s.la1 s.la2 s.er),.i (JJd x (J1 s.l) (J1 s.y) s.a0 s.a1 s.tr s.op s.cl s.en s.mo s.la0 s.la1 s.la2 s.er),.i (JEm x (J1 s.l) (J1 s.y) s.a0 s.a1 s.tr s.op s.cl s.en s.mo s.la0 s.la1 s.la2 s.er),.i (JFD x (J1 s.l) (J1 s.y) s.a0 s.a1 s.tr s.op s.cl s.en s.mo s.la0 s.la1 s.la2 s.er),.i (JDs x (J1 s.l) (J1 s.y) s.a0 s.a1 s.tr s.op s.cl s.en s.mo s.la0 s.la1 s.la2 s.er),.i (JDT x (J1 s.l) (J1 s.y) s.a0 s.a1 s.tr s.op s.cl s.en s.mo s.la0 s.la1 s.la2 s.er),.i (JDS x (J1 s.l) (J1 s.y) s.a0 s.a1 s.tr s.op s.cl s.en s.mo s.la0 s.la1 s.la2 s.er),.b (JDi x (J1 s.l) (J1 s.y) s.a0 s.a1 s.tr s.op s.cl s.en s.mo s.la0 s.la1 s.la2 s.er),.i (JF1 x (J1 s.l) (J1 s.y) s.a0 s.a1 s.tr s.op s.cl s.en s.mo s.la0 s.la1 s.la2 s.er),.b (JFY x (J1 s.l) (J1 s.y) s.a0 s.a1 s.tr s.op s.cl s.en s.mo s.la0 s.la1 s.la2 s.er),.i (JDV x (J1 s.l) (J1 s.y) s.a0 s.a1 s.tr s.op s.cl s.en s.mo s.la0 s.la1 s.la2 s.er),.i (JDb x (J1 s.l) (J1 s.y) s.a0 s.a1 s.tr s.op s.cl s.en s.mo s.la0 s.la1 s.la2 s.er),.i (JE4 x (J1 s.l) (J1 s.y) s.a0 s.a1 s.tr s.op s.cl s.en s.mo s.la0 s.la1 s.la2 s.er),.i (JES x (J1 s.l) (J1 s.y) s.a0 s.a1 s.tr s.op s.cl s.en s.mo s.la0 s.la1 s.la2 s.er),.i (JE7 x (J1 s.l) (J1 s.y) s.a0 s.a1 s.tr s.op s.cl s.en s.mo s.la0 s.la1 s.la2 s.er),.b (JEe x (J1 s.l) (J1 s.y) s.a0 s.a1 s.tr s.op s.cl s.en s.mo s.la0 s.la1 s.la2 s.er)],
   [.i (JDe x (J1 s.l) (J1 s.y) s.a0 s.a1 s.tr s.op s.cl s.en s.mo s.la0 s.la1 s.la2 s.er),.i (JEk x (J1 s.l) (J1 s.y) s.a0 s.a1 s.tr s.op s.cl s.en s.mo s.la0 s.la1 s.la2 s.er),.i (JFN x (J1 s.l) (J1 s.y) s.a0 s.a1 s.tr s.op s.cl s.en s.mo s.la0 s.la1 s.la2 s.er),.i (JEU x (J1 s.l) (J1 s.y) s.a0 s.a1 s.tr s.op s.cl s.en s.mo s.la0 s.la1 s.la2 s.er),.i (JEc x (J1 s.l) (J1 s.y) s.a0 s.a1 s.tr s.op s.cl s.en s.mo s.la0 s.la1 s.la2 s.er),.i (JEE x (J1 s.l) (J1 s.y) s.a0 s.a1 s.tr s.op s.cl s.en s.mo s.la0 s.la1 s.la2 s.er),.i (JF0 x (J1 s.l) (J1 s.y) s.a0 s.a1 s.tr s.op s.cl s.en s.mo s.la0 s.la1 s.la2 s.er),.i (JFB x (J1 s.l) (J1 s.y) s.a0 s.a1 s.tr s.op s.cl s.en s.mo s.la0 s.la1 s.la2 s.er),.i (JEC x (J1 s.l) (J1 s.y) s.a0 s.a1 s.tr s.op s.cl s.en s.mo s.la0 s.la1 s.la2 s.er),.i (JE8 x (J1 s.l) (J1 s.y) s.a0 s.a1 s.tr s.op s.cl s.en s.mo s.la0 s.la1 s.la2 s.er),.i (JDI x (J1 s.l) (J1 s.y) s.a0 s.a1 s.tr s.op s.cl s.en s.mo s.la0 s.la1 s.la2 s.er),.i (JDq x (J1 s.l) (J1 s.y) s.a0 s.a1 s.tr s.op s.cl s.en s.mo s.la0 s.la1 s.la2 s.er),.i (JDt x (J1 s.l) (J1 s.y) s.a0 s.a1 s.tr s.op s.cl s.en s.mo s.la0 s.la1 s.la2 s.er),.b (JEI x (J1 s.l) (J1 s.y) s.a0 s.a1 s.tr s.op s.cl s.en s.mo s.la0 s.la1 s.la2 s.er),.i (JDj x (J1 s.l) (J1 s.y) s.a0 s.a1 s.tr s.op s.cl s.en s.mo s.la0 s.la1 s.la2 s.er),.b (JFK x (J1 s.l) (J1 s.y) s.a0 s.a1 s.tr s.op s.cl s.en s.mo s.la0 s.la1 s.la2 s.er),.i (JEA x (J1 s.l) (J1 s.y) s.a0 s.a1 s.tr s.op s.cl s.en s.mo s.la0 s.la1 s.la2 s.er),.i (JDy x (J1 s.l) (J1 s.y) s.a0 s.a1 s.tr s.op s.cl s.en s.mo s.la0 s.la1 s.la2 s.er),.i (JEt x (J1 s.l) (J1 s.y) s.a0 s.a1 s.tr s.op s.cl s.en s.mo s.la0 s.la1 s.la2 s.er),.i (JEg x (J1 s.l) (J1 s.y) s.a0 s.a1 s.tr s.op s.cl s.en s.mo s.la0 s.la1 s.la2 s.er),.i (JEO x (J1 s.l) (J1 s.y) s.a0 s.a1 s.tr s.op s.cl s.en s.mo s.la0 s.la1 s.la2 s.er),.b (JF6 x (J1 s.l) (J1 s.y) s.a0 s.a1 s.tr s.op s.cl s.en s.mo s.la0 s.la1 s.la2 s.er)],
   JFd x (J1 s.l) (J1 s.y) s.a0 s.a1 s.tr s.op s.cl s.en s.mo s.la0 s.la1 s.la2 s.er,JDW x (J1 s.l) (J1 s.y) s.a0 s.a1 s.tr s.op s.cl s.en s.mo s.la0 s.la1 s.la2 s.er,JDc x (J1 s.l) (J1 s.y) s.a0 s.a1 s.tr s.op s.cl s.en s.mo s.la0 s.la1 s.la2 s.er,JDM x (J1 s.l) (J1 s.y) s.a0 s.a1 s.tr s.op s.cl s.en s.mo s.la0 s.la1 s.la2 s.er,s.cl,JE3 x s.cl s.en s.mo s.la0 s.la1 s.la2 s.er,JEX x s.cl s.en s.mo s.la0 s.la1 s.la2 s.er,JEZ x s.cl s.en s.mo s.la0 s.la1 s.la2 s.er,JEn x s.cl s.en s.mo s.la0 s.la1 s.la2 s.er,JFa x s.cl s.en s.mo s.la0 s.la1 s.la2 s.er,j9 x (J1 s.l) (J1 s.y) s.a0 s.a1 s.tr s.op s.cl s.en s.mo s.la0 s.la1 s.la2 s.er s.C,zl x (J1 s.l) (J1 s.y) s.a0 s.a1 s.tr s.op s.cl s.en s.mo s.la0 s.la1 s.la2 s.er s.C⟩
def JBp:LL:= JCd x (J1 s.l) (J1 s.y) s.a0 s.a1 s.tr s.op s.cl s.en s.mo s.la0 s.la1 s.la2 s.er s.C []
def WX:Int:= zZ x (J1 s.l) (J1 s.y) s.a0 s.a1 s.tr s.op s.cl s.en s.mo s.la0 s.la1 s.la2 s.er s.C
def JJB:List (Nat × SC):= JW2 g s.l s.y s.a0 s.a1 s.tr c s.op s.cl s.en s.mo s.la0 s.la1 s.la2 o s.er
end
theorem JQo (x:List GC) (C:LL):(JFf x C).length ≤ C.length := by
  unfold JFf
  repeat' first | exact Nat.le_refl _ | exact Nat.zero_le _ | refine KS ?_ ?_
theorem JMV (x l y:List GC) (a0 a1:Int) (tr:Bool) (C:LL):(JB5 x l y a0 a1 tr C).length ≤ C.length := by
  unfold JB5
  repeat' first | exact Nat.le_refl _ | exact Nat.zero_le _ | refine KS ?_ ?_
theorem chA {C O:LL} {r:List Int}:(O ++ [r]).length ≤ O.length + C.length + 3 := by simp only [List.length_append,List.length_cons,List.length_nil]; omega
theorem JS1 (x l y:List GC) (a0 a1:Int) (tr op cl en mo:Bool) (la0 la1 la2:Int) (C O:LL):(JBL x l y a0 a1 tr op cl en mo la0 la1 la2 C O).length ≤ O.length + C.length + 3 := by
  unfold JBL
  repeat' first | exact chO | exact chA | exact JMQ .. | exact JOU .. | refine KS ?_ ?_
theorem JUm (x l y:List GC) (a0 a1:Int) (tr op cl en mo:Bool) (la0 la1 la2:Int) (C:LL) (h:C.length ≤ 8):(JE1 x l y a0 a1 tr op cl en mo la0 la1 la2 C).length ≤ 8 := by
  unfold JE1
  repeat' first | exact h | exact Nat.le_trans (JQo ..) h | exact Nat.le_trans (JMV ..) h | exact JRC _ _ _ _ _ _ _ h | refine KS ?_ ?_
theorem WN (er:Int) (O:LL):(KF er O).length ≤ O.length := by
  unfold KF
  exact KS (Nat.zero_le _) (Nat.le_refl _)
theorem JZ0 (x:List GC) (s:St) (h:s.C.length ≤ 8):(KQ x s).C.length ≤ 8 := by
  show (zl ..).length ≤ 8
  unfold zl
  exact KS (JUm _ _ _ _ _ _ _ _ _ _ _ _ _ _ h) h
theorem JNy (x:List GC) (s:St) (h:s.C.length ≤ 8):(JBp x s).length ≤ 11 := by
  unfold JBp JCd
  refine KS (Nat.le_trans (WN ..) (Nat.le_trans (JS1 ..) ?_)) (Nat.le_trans (WN ..) (Nat.zero_le _))
  simp only [List.length_nil]; omega
structure AS where
  i:Nat
  s:St
  R:LL
structure AT where
  bad:Bool
  i:Nat
  e:Int
  s:St
  R:LL
def apN (L:LL):Nat → AS → AT
  | 0,a => ⟨false,a.i,0,a.s,a.R⟩
  | k + 1,a => bif WX (JC (L.getD a.i [])) a.s != 0 then ⟨true,a.i,WX (JC (L.getD a.i [])) a.s,KQ (JC (L.getD a.i [])) a.s,a.R⟩
    else apN L k ⟨a.i + 1,KQ (JC (L.getD a.i [])) a.s,a.R ++ JBp (JC (L.getD a.i [])) a.s⟩
def apG (k:Nat):Nat := 1000000100 + k
def apH (k:Nat):Nat := 180 + k
def Q8 (L:LL):Fam AS AT where
  k := 200
  E a := [(16,ent 1000000000 (.one (I (Int.ofNat a.i)))),(15,ent 77 (.one (I (Int.ofNat L.length)))),(14,ent 76 (.one (.wh 0))),(6,ent 1000000001 (.one (.wh 160))),(5,ent 74 (.one (.ptr 7 0))),(0,ent 0 (.one (.wh 0)))]
  M a := [(7,.blk 66 (JJB apG a.s 170 171)),XS 170 1000000200 a.s.C,XS 171 1000000201 [],XS 0 1 L,XS 160 1000000202 a.R]
  out t := .ite t.bad (.leaf .ret [(2,ent 80 (.one .nilsl)),(3,ent 81 (.one (I (Int.ofNat t.i)))),(4,ent 82 (.one (I t.e)))] [XS 0 1 L])
    (.leaf (.exit 0) [(6,ent 83 (.one (.wh 160))),(5,ent 74 (.one (.ptr 7 0))),(0,ent 0 (.one (.wh 0)))] [(7,.blk 66 (JJB apH t.s 170 171)),XS 170 240 t.s.C,XS 171 241 [],XS 0 1 L,XS 160 242 t.R])
  fin a := apN L (L.length - a.i) a
  next a _ := ⟨a.i + 1,KQ (JC (L.getD a.i [])) a.s,a.R ++ JBp (JC (L.getD a.i [])) a.s⟩
  J a := a.i ≤ L.length ∧ L.length ≤ 1000 ∧ a.s.C.length ≤ 8 ∧ a.R.length ≤ 11 * a.i
  μ a := L.length - a.i
section
variable (L:LL) (a:AS)
def JZ9:Prop:=
 decide (Int.ofNat a.i < Int.ofNat L.length) = true
def JZZ:Int:=
 zZ (JC (L.getD (Int.ofNat a.i).toNat [])) (J1 a.s.l) (J1 a.s.y) a.s.a0 a.s.a1 a.s.tr a.s.op a.s.cl a.s.en a.s.mo a.s.la0 a.s.la1 a.s.la2 a.s.er a.s.C
def JZr:LL:=
 JCd (JC (L.getD (Int.ofNat a.i).toNat [])) (J1 a.s.l) (J1 a.s.y) a.s.a0 a.s.a1 a.s.tr a.s.op a.s.cl a.s.en a.s.mo a.s.la0 a.s.la1 a.s.la2 a.s.er a.s.C []
def JLb:List Prop:=
 [JZ9 L a → 0 ≤ Int.ofNat a.i ∧ (Int.ofNat a.i).toNat < L.length ∧ (Int.ofNat a.i).toNat < L.length ∧ a.s.C.length ≤ 1000 ∧ 0 ≤ 800000 ∧ ((JZZ L a != 0) = false → (a.R.length + (JZr L a).length) * 176 ≤ 140737488355328 ∧ a.R.length + (JZr L a).length ≤ 9223372036854775807),JZ9 L a → ((JZZ L a != 0) = true → (((Q8 L).fin a).bad = true → Int.ofNat ((Q8 L).fin a).i = Int.ofNat a.i ∧ ((Q8 L).fin a).e = JZZ L a) ∧ (((Q8 L).fin a).bad = false → False)) ∧ ((JZZ L a != 0) = false → (((Q8 L).next a 1).i ≤ L.length ∧ L.length ≤ 1000 ∧ ((Q8 L).next a 1).s.C.length ≤ 8 ∧ ((Q8 L).next a 1).R.length ≤ 11 * ((Q8 L).next a 1).i) ∧ (Q8 L).μ ((Q8 L).next a 1) < (Q8 L).μ a ∧ (Q8 L).fin ((Q8 L).next a 1) = (Q8 L).fin a ∧ Int.ofNat ((Q8 L).next a 1).i = IntKind.i64.wrap (Int.ofNat a.i + 1) ∧ xi ((Q8 L).next a 1).s.l 0 = JLL (JC (L.getD (Int.ofNat a.i).toNat [])) (J1 a.s.l) (J1 a.s.y) a.s.a0 a.s.a1 a.s.tr a.s.op a.s.cl a.s.en a.s.mo a.s.la0 a.s.la1 a.s.la2 a.s.er ∧ xi ((Q8 L).next a 1).s.l 1 = JKf (JC (L.getD (Int.ofNat a.i).toNat [])) (J1 a.s.l) (J1 a.s.y) a.s.a0 a.s.a1 a.s.tr a.s.op a.s.cl a.s.en a.s.mo a.s.la0 a.s.la1 a.s.la2 a.s.er ∧ xi ((Q8 L).next a 1).s.l 2 = JKk (JC (L.getD (Int.ofNat a.i).toNat [])) (J1 a.s.l) (J1 a.s.y) a.s.a0 a.s.a1 a.s.tr a.s.op a.s.cl a.s.en a.s.mo a.s.la0 a.s.la1 a.s.la2 a.s.er ∧ xi ((Q8 L).next a 1).s.l 3 = JLc (JC (L.getD (Int.ofNat a.i).toNat [])) (J1 a.s.l) (J1 a.s.y) a.s.a0 a.s.a1 a.s.tr a.s.op a.s.cl a.s.en a.s.mo a.s.la0 a.s.la1 a.s.la2 a.s.er ∧ xi ((Q8 L).next a 1).s.l 4 = JMG (JC (L.getD (Int.ofNat a.i).toNat [])) (J1 a.s.l) (J1 a.s.y) a.s.a0 a.s.a1 a.s.tr a.s.op a.s.cl a.s.en a.s.mo a.s.la0 a.s.la1 a.s.la2 a.s.er ∧ xi ((Q8 L).next a 1).s.l 5 = JJW (JC (L.getD (Int.ofNat a.i).toNat [])) (J1 a.s.l) (J1 a.s.y) a.s.a0 a.s.a1 a.s.tr a.s.op a.s.cl a.s.en a.s.mo a.s.la0 a.s.la1 a.s.la2 a.s.er ∧ xi ((Q8 L).next a 1).s.l 6 = JKo (JC (L.getD (Int.ofNat a.i).toNat [])) (J1 a.s.l) (J1 a.s.y) a.s.a0 a.s.a1 a.s.tr a.s.op a.s.cl a.s.en a.s.mo a.s.la0 a.s.la1 a.s.la2 a.s.er ∧ xi ((Q8 L).next a 1).s.l 7 = JJd (JC (L.getD (Int.ofNat a.i).toNat [])) (J1 a.s.l) (J1 a.s.y) a.s.a0 a.s.a1 a.s.tr a.s.op a.s.cl a.s.en a.s.mo a.s.la0 a.s.la1 a.s.la2 a.s.er ∧ xi ((Q8 L).next a 1).s.l 8 = JEm (JC (L.getD (Int.ofNat a.i).toNat [])) (J1 a.s.l) (J1 a.s.y) a.s.a0 a.s.a1 a.s.tr a.s.op a.s.cl a.s.en a.s.mo a.s.la0 a.s.la1 a.s.la2 a.s.er ∧ xi ((Q8 L).next a 1).s.l 9 = JFD (JC (L.getD (Int.ofNat a.i).toNat [])) (J1 a.s.l) (J1 a.s.y) a.s.a0 a.s.a1 a.s.tr a.s.op a.s.cl a.s.en a.s.mo a.s.la0 a.s.la1 a.s.la2 a.s.er ∧ xi ((Q8 L).next a 1).s.l 10 = JDs (JC (L.getD (Int.ofNat a.i).toNat [])) (J1 a.s.l) (J1 a.s.y) a.s.a0 a.s.a1 a.s.tr a.s.op a.s.cl a.s.en a.s.mo a.s.la0 a.s.la1 a.s.la2 a.s.er ∧ xi ((Q8 L).next a 1).s.l 11 = JDT (JC (L.getD (Int.ofNat a.i).toNat [])) (J1 a.s.l) (J1 a.s.y) a.s.a0 a.s.a1 a.s.tr a.s.op a.s.cl a.s.en a.s.mo a.s.la0 a.s.la1 a.s.la2 a.s.er ∧ xi ((Q8 L).next a 1).s.l 12 = JDS (JC (L.getD (Int.ofNat a.i).toNat [])) (J1 a.s.l) (J1 a.s.y) a.s.a0 a.s.a1 a.s.tr a.s.op a.s.cl a.s.en a.s.mo a.s.la0 a.s.la1 a.s.la2 a.s.er ∧ xb ((Q8 L).next a 1).s.l 13 = JDi (JC (L.getD (Int.ofNat a.i).toNat [])) (J1 a.s.l) (J1 a.s.y) a.s.a0 a.s.a1 a.s.tr a.s.op a.s.cl a.s.en a.s.mo a.s.la0 a.s.la1 a.s.la2 a.s.er ∧ xi ((Q8 L).next a 1).s.l 14 = JF1 (JC (L.getD (Int.ofNat a.i).toNat [])) (J1 a.s.l) (J1 a.s.y) a.s.a0 a.s.a1 a.s.tr a.s.op a.s.cl a.s.en a.s.mo a.s.la0 a.s.la1 a.s.la2 a.s.er ∧ xb ((Q8 L).next a 1).s.l 15 = JFY (JC (L.getD (Int.ofNat a.i).toNat [])) (J1 a.s.l) (J1 a.s.y) a.s.a0 a.s.a1 a.s.tr a.s.op a.s.cl a.s.en a.s.mo a.s.la0 a.s.la1 a.s.la2 a.s.er ∧ xi ((Q8 L).next a 1).s.l 16 = JDV (JC (L.getD (Int.ofNat a.i).toNat [])) (J1 a.s.l) (J1 a.s.y) a.s.a0 a.s.a1 a.s.tr a.s.op a.s.cl a.s.en a.s.mo a.s.la0 a.s.la1 a.s.la2 a.s.er ∧ xi ((Q8 L).next a 1).s.l
 17 = JDb (JC (L.getD (Int.ofNat a.i).toNat [])) (J1 a.s.l) (J1 a.s.y) a.s.a0 a.s.a1 a.s.tr a.s.op a.s.cl a.s.en a.s.mo a.s.la0 a.s.la1 a.s.la2 a.s.er ∧ xi ((Q8 L).next a 1).s.l 18 = JE4 (JC (L.getD (Int.ofNat a.i).toNat [])) (J1 a.s.l) (J1 a.s.y) a.s.a0 a.s.a1 a.s.tr a.s.op a.s.cl a.s.en a.s.mo a.s.la0 a.s.la1 a.s.la2 a.s.er ∧ xi ((Q8 L).next a 1).s.l 19 = JES (JC (L.getD (Int.ofNat a.i).toNat [])) (J1 a.s.l) (J1 a.s.y) a.s.a0 a.s.a1 a.s.tr a.s.op a.s.cl a.s.en a.s.mo a.s.la0 a.s.la1 a.s.la2 a.s.er ∧ xi ((Q8 L).next a 1).s.l 20 = JE7 (JC (L.getD (Int.ofNat a.i).toNat [])) (J1 a.s.l) (J1 a.s.y) a.s.a0 a.s.a1 a.s.tr a.s.op a.s.cl a.s.en a.s.mo a.s.la0 a.s.la1 a.s.la2 a.s.er ∧ xb ((Q8 L).next a 1).s.l 21 = JEe (JC (L.getD (Int.ofNat a.i).toNat [])) (J1 a.s.l) (J1 a.s.y) a.s.a0 a.s.a1 a.s.tr a.s.op a.s.cl a.s.en a.s.mo a.s.la0 a.s.la1 a.s.la2 a.s.er ∧ xi ((Q8 L).next a 1).s.y 0 = JDe (JC (L.getD (Int.ofNat a.i).toNat [])) (J1 a.s.l) (J1 a.s.y) a.s.a0 a.s.a1 a.s.tr a.s.op a.s.cl a.s.en a.s.mo a.s.la0 a.s.la1 a.s.la2 a.s.er ∧ xi ((Q8 L).next a 1).s.y 1 = JEk (JC (L.getD (Int.ofNat a.i).toNat [])) (J1 a.s.l) (J1 a.s.y) a.s.a0 a.s.a1 a.s.tr a.s.op a.s.cl a.s.en a.s.mo a.s.la0 a.s.la1 a.s.la2 a.s.er ∧ xi ((Q8 L).next a 1).s.y 2 = JFN (JC (L.getD (Int.ofNat a.i).toNat [])) (J1 a.s.l) (J1 a.s.y) a.s.a0 a.s.a1 a.s.tr a.s.op a.s.cl a.s.en a.s.mo a.s.la0 a.s.la1 a.s.la2 a.s.er ∧ xi ((Q8 L).next a 1).s.y 3 = JEU (JC (L.getD (Int.ofNat a.i).toNat [])) (J1 a.s.l) (J1 a.s.y) a.s.a0 a.s.a1 a.s.tr a.s.op a.s.cl a.s.en a.s.mo a.s.la0 a.s.la1 a.s.la2 a.s.er ∧ xi ((Q8 L).next a 1).s.y 4 = JEc (JC (L.getD (Int.ofNat a.i).toNat [])) (J1 a.s.l) (J1 a.s.y) a.s.a0 a.s.a1 a.s.tr a.s.op a.s.cl a.s.en a.s.mo a.s.la0 a.s.la1 a.s.la2 a.s.er ∧ xi ((Q8 L).next a 1).s.y 5 = JEE (JC (L.getD (Int.ofNat a.i).toNat [])) (J1 a.s.l) (J1 a.s.y) a.s.a0 a.s.a1 a.s.tr a.s.op a.s.cl a.s.en a.s.mo a.s.la0 a.s.la1 a.s.la2 a.s.er ∧ xi ((Q8 L).next a 1).s.y 6 = JF0 (JC (L.getD (Int.ofNat a.i).toNat [])) (J1 a.s.l) (J1 a.s.y) a.s.a0 a.s.a1 a.s.tr a.s.op a.s.cl a.s.en a.s.mo a.s.la0 a.s.la1 a.s.la2 a.s.er ∧ xi ((Q8 L).next a 1).s.y 7 = JFB (JC (L.getD (Int.ofNat a.i).toNat [])) (J1 a.s.l) (J1 a.s.y) a.s.a0 a.s.a1 a.s.tr a.s.op a.s.cl a.s.en a.s.mo a.s.la0 a.s.la1 a.s.la2 a.s.er ∧ xi ((Q8 L).next a 1).s.y 8 = JEC (JC (L.getD (Int.ofNat a.i).toNat [])) (J1 a.s.l) (J1 a.s.y) a.s.a0 a.s.a1 a.s.tr a.s.op a.s.cl a.s.en a.s.mo a.s.la0 a.s.la1 a.s.la2 a.s.er ∧ xi ((Q8 L).next a 1).s.y 9 = JE8 (JC (L.getD (Int.ofNat a.i).toNat [])) (J1 a.s.l) (J1 a.s.y) a.s.a0 a.s.a1 a.s.tr a.s.op a.s.cl a.s.en a.s.mo a.s.la0 a.s.la1 a.s.la2 a.s.er ∧ xi ((Q8 L).next a 1).s.y 10 = JDI (JC (L.getD (Int.ofNat a.i).toNat [])) (J1 a.s.l) (J1 a.s.y) a.s.a0 a.s.a1 a.s.tr a.s.op a.s.cl a.s.en a.s.mo a.s.la0 a.s.la1 a.s.la2 a.s.er ∧ xi ((Q8 L).next a 1).s.y 11 = JDq (JC (L.getD (Int.ofNat a.i).toNat [])) (J1 a.s.l) (J1 a.s.y) a.s.a0 a.s.a1 a.s.tr a.s.op a.s.cl a.s.en a.s.mo a.s.la0 a.s.la1 a.s.la2 a.s.er ∧ xi ((Q8 L).next a 1).s.y 12 = JDt (JC (L.getD (Int.ofNat a.i).toNat [])) (J1 a.s.l) (J1 a.s.y) a.s.a0 a.s.a1 a.s.tr a.s.op a.s.cl a.s.en a.s.mo a.s.la0 a.s.la1 a.s.la2 a.s.er ∧ xb ((Q8 L).next a 1).s.y 13 = JEI (JC (L.getD (Int.ofNat a.i).toNat [])) (J1 a.s.l) (J1 a.s.y) a.s.a0 a.s.a1 a.s.tr a.s.op a.s.cl a.s.en a.s.mo a.s.la0 a.s.la1 a.s.la2 a.s.er ∧ xi ((Q8 L).next a 1).s.y 14 = JDj (JC (L.getD (Int.ofNat a.i).toNat [])) (J1 a.s.l) (J1 a.s.y) a.s.a0 a.s.a1 a.s.tr a.s.op a.s.cl a.s.en a.s.mo a.s.la0 a.s.la1 a.s.la2 a.s.er ∧ xb ((Q8 L).next a 1).s.y 15 = JFK (JC (L.getD (Int.ofNat a.i).toNat [])) (J1 a.s.l) (J1 a.s.y) a.s.a0 a.s.a1 a.s.tr a.s.op a.s.cl a.s.en a.s.mo a.s.la0 a.s.la1 a.s.la2 a.s.er ∧ xi ((Q8 L).next a 1).s.y 16 = JEA (JC (L.getD (Int.ofNat a.i).toNat [])) (J1 a.s.l) (J1 a.s.y)
 a.s.a0 a.s.a1 a.s.tr a.s.op a.s.cl a.s.en a.s.mo a.s.la0 a.s.la1 a.s.la2 a.s.er ∧ xi ((Q8 L).next a 1).s.y 17 = JDy (JC (L.getD (Int.ofNat a.i).toNat [])) (J1 a.s.l) (J1 a.s.y) a.s.a0 a.s.a1 a.s.tr a.s.op a.s.cl a.s.en a.s.mo a.s.la0 a.s.la1 a.s.la2 a.s.er ∧ xi ((Q8 L).next a 1).s.y 18 = JEt (JC (L.getD (Int.ofNat a.i).toNat [])) (J1 a.s.l) (J1 a.s.y) a.s.a0 a.s.a1 a.s.tr a.s.op a.s.cl a.s.en a.s.mo a.s.la0 a.s.la1 a.s.la2 a.s.er ∧ xi ((Q8 L).next a 1).s.y 19 = JEg (JC (L.getD (Int.ofNat a.i).toNat [])) (J1 a.s.l) (J1 a.s.y) a.s.a0 a.s.a1 a.s.tr a.s.op a.s.cl a.s.en a.s.mo a.s.la0 a.s.la1 a.s.la2 a.s.er ∧ xi ((Q8 L).next a 1).s.y 20 = JEO (JC (L.getD (Int.ofNat a.i).toNat [])) (J1 a.s.l) (J1 a.s.y) a.s.a0 a.s.a1 a.s.tr a.s.op a.s.cl a.s.en a.s.mo a.s.la0 a.s.la1 a.s.la2 a.s.er ∧ xb ((Q8 L).next a 1).s.y 21 = JF6 (JC (L.getD (Int.ofNat a.i).toNat [])) (J1 a.s.l) (J1 a.s.y) a.s.a0 a.s.a1 a.s.tr a.s.op a.s.cl a.s.en a.s.mo a.s.la0 a.s.la1 a.s.la2 a.s.er ∧ ((Q8 L).next a 1).s.a0 = JFd (JC (L.getD (Int.ofNat a.i).toNat [])) (J1 a.s.l) (J1 a.s.y) a.s.a0 a.s.a1 a.s.tr a.s.op a.s.cl a.s.en a.s.mo a.s.la0 a.s.la1 a.s.la2 a.s.er ∧ ((Q8 L).next a 1).s.a1 = JDW (JC (L.getD (Int.ofNat a.i).toNat [])) (J1 a.s.l) (J1 a.s.y) a.s.a0 a.s.a1 a.s.tr a.s.op a.s.cl a.s.en a.s.mo a.s.la0 a.s.la1 a.s.la2 a.s.er ∧ ((Q8 L).next a 1).s.tr = JDc (JC (L.getD (Int.ofNat a.i).toNat [])) (J1 a.s.l) (J1 a.s.y) a.s.a0 a.s.a1 a.s.tr a.s.op a.s.cl a.s.en a.s.mo a.s.la0 a.s.la1 a.s.la2 a.s.er ∧ ((Q8 L).next a 1).s.op = JDM (JC (L.getD (Int.ofNat a.i).toNat [])) (J1 a.s.l) (J1 a.s.y) a.s.a0 a.s.a1 a.s.tr a.s.op a.s.cl a.s.en a.s.mo a.s.la0 a.s.la1 a.s.la2 a.s.er ∧ ((Q8 L).next a 1).s.cl = a.s.cl ∧ ((Q8 L).next a 1).s.en = JE3 (JC (L.getD (Int.ofNat a.i).toNat [])) a.s.cl a.s.en a.s.mo a.s.la0 a.s.la1 a.s.la2 a.s.er ∧ ((Q8 L).next a 1).s.mo = JEX (JC (L.getD (Int.ofNat a.i).toNat [])) a.s.cl a.s.en a.s.mo a.s.la0 a.s.la1 a.s.la2 a.s.er ∧ ((Q8 L).next a 1).s.la0 = JEZ (JC (L.getD (Int.ofNat a.i).toNat [])) a.s.cl a.s.en a.s.mo a.s.la0 a.s.la1 a.s.la2 a.s.er ∧ ((Q8 L).next a 1).s.la1 = JEn (JC (L.getD (Int.ofNat a.i).toNat [])) a.s.cl a.s.en a.s.mo a.s.la0 a.s.la1 a.s.la2 a.s.er ∧ ((Q8 L).next a 1).s.la2 = JFa (JC (L.getD (Int.ofNat a.i).toNat [])) a.s.cl a.s.en a.s.mo a.s.la0 a.s.la1 a.s.la2 a.s.er ∧ ((Q8 L).next a 1).s.er = j9 (JC (L.getD (Int.ofNat a.i).toNat [])) (J1 a.s.l) (J1 a.s.y) a.s.a0 a.s.a1 a.s.tr a.s.op a.s.cl a.s.en a.s.mo a.s.la0 a.s.la1 a.s.la2 a.s.er a.s.C ∧ ((Q8 L).next a 1).s.C = zl (JC (L.getD (Int.ofNat a.i).toNat [])) (J1 a.s.l) (J1 a.s.y) a.s.a0 a.s.a1 a.s.tr a.s.op a.s.cl a.s.en a.s.mo a.s.la0 a.s.la1 a.s.la2 a.s.er a.s.C ∧ ([]:LL) = [] ∧ ((Q8 L).next a 1).R = a.R ++ JZr L a),decide (Int.ofNat a.i < Int.ofNat L.length) = false → (((Q8 L).fin a).bad = true → False) ∧ (((Q8 L).fin a).bad = false → xi ((Q8 L).fin a).s.l 0 = xi a.s.l 0 ∧ xi ((Q8 L).fin a).s.l 1 = xi a.s.l 1 ∧ xi ((Q8 L).fin a).s.l 2 = xi a.s.l 2 ∧ xi ((Q8 L).fin a).s.l 3 = xi a.s.l 3 ∧ xi ((Q8 L).fin a).s.l 4 = xi a.s.l 4 ∧ xi ((Q8 L).fin a).s.l 5 = xi a.s.l 5 ∧ xi ((Q8 L).fin a).s.l 6 = xi a.s.l 6 ∧ xi ((Q8 L).fin a).s.l 7 = xi a.s.l 7 ∧ xi ((Q8 L).fin a).s.l 8 = xi a.s.l 8 ∧ xi ((Q8 L).fin a).s.l 9 = xi a.s.l 9 ∧ xi ((Q8 L).fin a).s.l 10 = xi a.s.l 10 ∧ xi ((Q8 L).fin a).s.l 11 = xi a.s.l 11 ∧ xi ((Q8 L).fin a).s.l 12 = xi a.s.l 12 ∧ xb ((Q8 L).fin a).s.l 13 = xb a.s.l 13 ∧ xi ((Q8 L).fin a).s.l 14 = xi a.s.l 14 ∧ xb ((Q8 L).fin a).s.l 15 = xb a.s.l 15 ∧ xi ((Q8 L).fin a).s.l 16 = xi a.s.l 16 ∧ xi ((Q8 L).fin a).s.l 17 = xi a.s.l 17 ∧ xi ((Q8 L).fin a).s.l 18 = xi a.s.l 18 ∧ xi ((Q8 L).fin a).s.l 19 = xi a.s.l 19 ∧ xi ((Q8 L).fin a).s.l 20 = xi a.s.l 20 ∧ xb ((Q8 L).fin a).s.l 21 = xb a.s.l 21 ∧ xi ((Q8 L).fin a).s.y 0 = xi a.s.y 0 ∧ xi ((Q8 L).fin a).s.y 1 = xi a.s.y 1 ∧ xi ((Q8
 L).fin a).s.y 2 = xi a.s.y 2 ∧ xi ((Q8 L).fin a).s.y 3 = xi a.s.y 3 ∧ xi ((Q8 L).fin a).s.y 4 = xi a.s.y 4 ∧ xi ((Q8 L).fin a).s.y 5 = xi a.s.y 5 ∧ xi ((Q8 L).fin a).s.y 6 = xi a.s.y 6 ∧ xi ((Q8 L).fin a).s.y 7 = xi a.s.y 7 ∧ xi ((Q8 L).fin a).s.y 8 = xi a.s.y 8 ∧ xi ((Q8 L).fin a).s.y 9 = xi a.s.y 9 ∧ xi ((Q8 L).fin a).s.y 10 = xi a.s.y 10 ∧ xi ((Q8 L).fin a).s.y 11 = xi a.s.y 11 ∧ xi ((Q8 L).fin a).s.y 12 = xi a.s.y 12 ∧ xb ((Q8 L).fin a).s.y 13 = xb a.s.y 13 ∧ xi ((Q8 L).fin a).s.y 14 = xi a.s.y 14 ∧ xb ((Q8 L).fin a).s.y 15 = xb a.s.y 15 ∧ xi ((Q8 L).fin a).s.y 16 = xi a.s.y 16 ∧ xi ((Q8 L).fin a).s.y 17 = xi a.s.y 17 ∧ xi ((Q8 L).fin a).s.y 18 = xi a.s.y 18 ∧ xi ((Q8 L).fin a).s.y 19 = xi a.s.y 19 ∧ xi ((Q8 L).fin a).s.y 20 = xi a.s.y 20 ∧ xb ((Q8 L).fin a).s.y 21 = xb a.s.y 21 ∧ ((Q8 L).fin a).s.a0 = a.s.a0 ∧ ((Q8 L).fin a).s.a1 = a.s.a1 ∧ ((Q8 L).fin a).s.tr = a.s.tr ∧ ((Q8 L).fin a).s.op = a.s.op ∧ ((Q8 L).fin a).s.cl = a.s.cl ∧ ((Q8 L).fin a).s.en = a.s.en ∧ ((Q8 L).fin a).s.mo = a.s.mo ∧ ((Q8 L).fin a).s.la0 = a.s.la0 ∧ ((Q8 L).fin a).s.la1 = a.s.la1 ∧ ((Q8 L).fin a).s.la2 = a.s.la2 ∧ ((Q8 L).fin a).s.er = a.s.er ∧ ((Q8 L).fin a).s.C = a.s.C ∧ ([]:LL) = [] ∧ ((Q8 L).fin a).R = a.R)]
end
theorem Jdz (L:LL) (a:AS) (hNeeds:∀ pN ∈ (JLb L a),pN):Q3 (XF (Q8 L) (QR Tryz.prog (JE Kx) JKb 12 0) 79 a) :=
  Q3.of (ps := (JLb L a)) (by kernel_rfl) (by kernel_rfl) hNeeds
theorem JRh {L:LL} {a:AS} (h:a.i < L.length):apN L (L.length - a.i) a = bif WX (JC (L.getD a.i [])) a.s != 0 then ⟨true,a.i,WX (JC (L.getD a.i [])) a.s,KQ (JC (L.getD a.i [])) a.s,a.R⟩
    else apN L (L.length - (a.i + 1)) ⟨a.i + 1,KQ (JC (L.getD a.i [])) a.s,a.R ++ JBp (JC (L.getD a.i [])) a.s⟩ := by
  have e:L.length - a.i = (L.length - (a.i + 1)) + 1 := by omega
  rw [e]; rfl
theorem JbQ (L:LL):Z0 (Q8 L) (QR Tryz.prog (JE Kx) JKb 12 0) 79 := by
  intro a hJ
  obtain ⟨h1,h2,h3,h4⟩:a.i ≤ L.length ∧ L.length ≤ 1000 ∧ a.s.C.length ≤ 8 ∧ a.R.length ≤ 11 * a.i := hJ
  have lt:JZ9 L a → a.i < L.length := by unfold JZ9; simp
  have ho := JNy (JC (L.getD a.i [])) a.s h3
  have hc := JZ0 (JC (L.getD a.i [])) a.s h3
  have e6:IntKind.i64.wrap (Int.ofNat a.i + 1) = Int.ofNat (a.i + 1) := Wu (by simp; omega) (by simp; omega)
  refine Jdz L a ?_
  unfold JLb
  simp only [awc,awn,and_true]
  have all {p q:Prop} (h:p) (k:q):p ∧ q := ⟨h,k⟩
  have e0 (h:a.i < L.length) (hb:(WX (JC (L.getD a.i [])) a.s != 0) = true):(Q8 L).fin a = ⟨true,a.i,WX (JC (L.getD a.i [])) a.s,KQ (JC (L.getD a.i [])) a.s,a.R⟩ := by
    show apN L (L.length - a.i) a = _
    rw [JRh h,hb]; rfl
  refine ⟨fun h => ⟨by simp,lt h,lt h,by omega,by omega,fun _ => ?_⟩,fun h => ⟨fun hb => ⟨fun _ => ?_,fun hf => ?_⟩,fun hb => ⟨⟨?_,h2,hc,?_⟩,?_,?_,e6.symm,?_⟩⟩,fun h => ?_⟩
  · have ho':(JZr L a).length ≤ 11 := ho
    omega
  · rw [e0 (lt h) hb]; exact ⟨rfl,rfl⟩
  · rw [e0 (lt h) hb] at hf; cases hf
  · have := lt h
    show a.i + 1 ≤ _; omega
  · show (a.R ++ JBp (JC (L.getD a.i [])) a.s).length ≤ 11 * (a.i + 1)
    rw [List.length_append]; omega
  · have := lt h
    show L.length - (a.i + 1) < L.length - a.i; omega
  · show apN L (L.length - (a.i + 1)) _ = apN L (L.length - a.i) a
    have hb':(WX (JC (L.getD a.i [])) a.s != 0) = false := hb
    rw [JRh (lt h),hb']; rfl
  · repeat' first | refine ⟨by kernel_rfl,?_⟩ | kernel_rfl | exact trivial | refine ⟨trivial,?_⟩
  · have hi:a.i = L.length := by simp at h; omega
    have e:(Q8 L).fin a = ⟨false,a.i,0,a.s,a.R⟩ := by
      show apN L (L.length - a.i) a = _
      rw [hi,Nat.sub_self]; unfold apN; rw [hi]
    rw [e]
    refine ⟨fun h => (by cases h),fun _ => ?_⟩
    repeat' first | refine ⟨by kernel_rfl,?_⟩ | kernel_rfl | exact trivial | refine ⟨trivial,?_⟩
def Jhp:Q5 := fun env mem m => match SX.J6 mem 0 with
  | some (.row _ _ _ (.lst _ _ L)) => qS (Q8 L) 79 (fun _ _ => some ⟨0,Zy,[]⟩) env mem m
  | _ => none
def JKy:FuncId → Nat → Option Q5 := kR JKb 12 4 Jhp
theorem JNa:Known Tryz.prog (JE Kx) JKy := by
  refine Qc 0 JBz (by kernel_rfl) (Z5 fun env mem m x h => ?_)
  unfold Jhp at h
  have hlen:(QC Tryz.prog 12).length = 1 := by kernel_rfl
  split at h
  · exact ⟨_,XX (Qg XB JBz (by omega)) (JbQ _),h⟩
  · cases h
section
variable (L:LL)
def apT:AT:= (Q8 L).fin (AS.mk 0 Zy [])
def apC:Int:= Y0 (apT L).s.op (apT L).s.cl (apT L).s.er
def apI:Int:= bif (apT L).bad then Int.ofNat (apT L).i else bif apC L != 0 then Int.ofNat L.length else Int.ofNat L.length
def apE:Int:= bif (apT L).bad then (apT L).e else bif apC L != 0 then apC L else 0
def apO:LL:= bif (apT L).bad then [] else bif apC L != 0 then [] else (apT L).R ++ Xy (apT L).s.op (apT L).s.cl (apT L).s.er []
end
theorem JgL (L:LL):∀ (k:Nat) (a:AS),a.s.C.length ≤ 8 → (apN L k a).R.length ≤ a.R.length + 11 * k ∧ (apN L k a).s.C.length ≤ 8
  | 0,a,h => ⟨Nat.le_refl _,h⟩
  | k + 1,a,h => by
    have ho := JNy (JC (L.getD a.i [])) a.s h
    have hc := JZ0 (JC (L.getD a.i [])) a.s h
    unfold apN
    cases hb:WX (JC (L.getD a.i [])) a.s != 0
    · have := JgL L k ⟨a.i + 1,KQ (JC (L.getD a.i [])) a.s,a.R ++ JBp (JC (L.getD a.i [])) a.s⟩ hc
      rw [cond_false]
      simp only [List.length_append] at this
      exact ⟨by omega,this.2⟩
    · exact ⟨by show a.R.length ≤ _; omega,hc⟩
def KL:Tpl := ⟨[.one (.wh 0)],[(0,.row false 40 22 1 ckI)],2⟩
section
variable (L:LL)
def Jfd:Int:=
 bif ((Q8 L).fin (AS.mk 0 Zy [])).bad then Int.ofNat ((Q8 L).fin (AS.mk 0 Zy [])).i else bif Y0 ((Q8 L).fin (AS.mk 0 Zy [])).s.op ((Q8 L).fin (AS.mk 0 Zy [])).s.cl ((Q8 L).fin (AS.mk 0 Zy [])).s.er != 0 then Int.ofNat L.length else Int.ofNat L.length
def JTS:Int:=
 Y0 ((Q8 L).fin (AS.mk 0 Zy [])).s.op ((Q8 L).fin (AS.mk 0 Zy [])).s.cl ((Q8 L).fin (AS.mk 0 Zy [])).s.er
def JfT:Int:=
 bif ((Q8 L).fin (AS.mk 0 Zy [])).bad then ((Q8 L).fin (AS.mk 0 Zy [])).e else bif JTS L != 0 then JTS L else 0
def Jfv:LL:=
 bif ((Q8 L).fin (AS.mk 0 Zy [])).bad then [] else bif Y0 ((Q8 L).fin (AS.mk 0 Zy [])).s.op ((Q8 L).fin (AS.mk 0 Zy [])).s.cl ((Q8 L).fin (AS.mk 0 Zy [])).s.er != 0 then [] else ((Q8 L).fin (AS.mk 0 Zy [])).R ++ Xy ((Q8 L).fin (AS.mk 0 Zy [])).s.op ((Q8 L).fin (AS.mk 0 Zy [])).s.cl ((Q8 L).fin (AS.mk 0 Zy [])).s.er []
def Yi:List Prop:=
 [0 ≤ L.length ∧ L.length ≤ 1000 ∧ 0 ≤ 8 ∧ 0 ≤ 0,Int.ofNat 0 = 0,Int.ofNat 0 = 0,Int.ofNat 0 = 0,Int.ofNat 0 = 0,Int.ofNat 0 = 0,Int.ofNat 0 = 0,Int.ofNat 0 = 0,Int.ofNat 0 = 0,Int.ofNat 0 = 0,Int.ofNat 0 = 0,Int.ofNat 0 = 0,Int.ofNat 0 = 0,Int.ofNat 0 = 0,Int.ofNat 0 = 0,false = false,Int.ofNat 0 = 0,false = false,Int.ofNat 0 = 0,Int.ofNat 0 = 0,Int.ofNat 0 = 0,Int.ofNat 0 = 0,Int.ofNat 0 = 0,false = false,Int.ofNat 0 = 0,Int.ofNat 0 = 0,Int.ofNat 0 = 0,Int.ofNat 0 = 0,Int.ofNat 0 = 0,Int.ofNat 0 = 0,Int.ofNat 0 = 0,Int.ofNat 0 = 0,Int.ofNat 0 = 0,Int.ofNat 0 = 0,Int.ofNat 0 = 0,Int.ofNat 0 = 0,Int.ofNat 0 = 0,false = false,Int.ofNat 0 = 0,false = false,Int.ofNat 0 = 0,Int.ofNat 0 = 0,Int.ofNat 0 = 0,Int.ofNat 0 = 0,Int.ofNat 0 = 0,false = false,Int.ofNat 0 = 0,Int.ofNat 0 = 0,false = false,false = false,false = false,false = false,false = false,Int.ofNat 0 = 0,Int.ofNat 0 = 0,Int.ofNat 0 = 0,Int.ofNat 0 = 0,(AS.mk 0 Zy []).s.C = [],([]:LL) = [],(AS.mk 0 Zy []).R = [],((Q8 L).fin (AS.mk 0 Zy [])).bad = false → (Y0 ((Q8 L).fin (AS.mk 0 Zy [])).s.op ((Q8 L).fin (AS.mk 0 Zy [])).s.cl ((Q8 L).fin (AS.mk 0 Zy [])).s.er != 0) = false → (((Q8 L).fin (AS.mk 0 Zy [])).R.length + (Xy ((Q8 L).fin (AS.mk 0 Zy [])).s.op ((Q8 L).fin (AS.mk 0 Zy [])).s.cl ((Q8 L).fin (AS.mk 0 Zy [])).s.er []).length) * 176 ≤ 140737488355328 ∧ ((Q8 L).fin (AS.mk 0 Zy [])).R.length + (Xy ((Q8 L).fin (AS.mk 0 Zy [])).s.op ((Q8 L).fin (AS.mk 0 Zy [])).s.cl ((Q8 L).fin (AS.mk 0 Zy [])).s.er []).length ≤ 9223372036854775807]
end
theorem JX9 {L:LL} (hW:∀ q ∈ ([L.length ≤ 1000]:List Prop),q):∀ q ∈ (Yi L),q := by
  simp only [awc,awn,and_true] at hW
  unfold Yi
  simp only [awc,awn,and_true]
  have hr := (JgL L (L.length - 0) ⟨0,Zy,[]⟩ (Nat.zero_le _)).1
  have e:(Q8 L).fin (AS.mk 0 Zy []) = apN L (L.length - 0) ⟨0,Zy,[]⟩ := rfl
  have h46:∀ op cl er,(Xy op cl er []).length = 0 := fun op cl er => Nat.le_zero.1 (by unfold Xy; exact WN ..)
  have hz:(AS.mk 0 Zy []).R.length = 0 := rfl
  refine ⟨⟨Nat.zero_le _,hW,by decide,by decide⟩,?_⟩
  repeat' first | refine ⟨by kernel_rfl,?_⟩ | kernel_rfl | exact trivial | (exact fun _ _ => by rw [h46,e]; omega) | refine ⟨rfl,?_⟩ | refine ⟨trivial,?_⟩
def JZk :=
 [CK.int IntKind.i64,CK.int IntKind.i64,CK.int IntKind.i64,CK.int IntKind.i64,CK.int IntKind.i64,CK.int IntKind.i64,CK.int IntKind.i64,CK.int IntKind.i64,CK.int IntKind.i64,CK.int IntKind.i64,CK.int IntKind.i64,CK.int IntKind.i64,CK.int IntKind.i64,CK.bool,CK.int IntKind.i64,CK.bool,CK.int IntKind.i64,CK.int IntKind.i64,CK.int IntKind.i64,CK.int IntKind.i64,CK.int IntKind.i64,CK.bool]
theorem JXm (L:LL) (hNeeds:∀ pN ∈ (Yi L),pN):Runs (Jl (JE Kx) JKy 12) (KL.args []) (KL.memo [] [L]) KL.n (SV.tup [(false,[SC.wh 499]),(false,[Ci (Jfd L)]),(false,[Ci (JfT L)])]) ([(499,Obj.row false 40 22 (RowC.lst 498 JZk (Jfv L))),(0,Obj.row false 40 22 (RowC.lst 1 JZk L))]) :=
  Runs.of1 (ps := (Yi L)) (by kernel_rfl) hNeeds
def JG9:List Pm → Qs → Option CRes
  | [],[L] => some ⟨SV.tup [(false,[SC.wh 499]),(false,[Ci ((apI L))]),(false,[Ci ((apE L))])],[(499,Obj.row false 40 22 (RowC.lst 498 JZk ((apO L)))),(0,Obj.row false 40 22 (RowC.lst 1 JZk L))],[L.length ≤ 1000],[],500⟩
  | _,_ => none
theorem JQc (L:LL) (hNeeds:∀ pN ∈ (Yi L),pN):Runs (Jl (JE Kx) JKy 12) (KL.args []) (KL.memo [] [L]) KL.n (SV.tup [(false,[SC.wh 499]),(false,[SC.int IntKind.i64 (SI.v ((apI L)))]),(false,[SC.int IntKind.i64 (SI.v ((apE L)))])])
    ([(499,
     Obj.row false 40 22
     (RowC.lst 498
     [CK.int IntKind.i64,CK.int IntKind.i64,CK.int IntKind.i64,CK.int IntKind.i64,CK.int IntKind.i64,CK.int IntKind.i64,CK.int IntKind.i64,CK.int IntKind.i64,CK.int IntKind.i64,
     CK.int IntKind.i64,CK.int IntKind.i64,CK.int IntKind.i64,CK.int IntKind.i64,CK.bool,CK.int IntKind.i64,CK.bool,CK.int IntKind.i64,CK.int IntKind.i64,CK.int IntKind.i64,
     CK.int IntKind.i64,CK.int IntKind.i64,CK.bool]
     ((apO L)))),
    (0,
     Obj.row false 40 22
     (RowC.lst 1
     [CK.int IntKind.i64,CK.int IntKind.i64,CK.int IntKind.i64,CK.int IntKind.i64,CK.int IntKind.i64,CK.int IntKind.i64,CK.int IntKind.i64,CK.int IntKind.i64,CK.int IntKind.i64,
     CK.int IntKind.i64,CK.int IntKind.i64,CK.int IntKind.i64,CK.int IntKind.i64,CK.bool,CK.int IntKind.i64,CK.bool,CK.int IntKind.i64,CK.int IntKind.i64,CK.int IntKind.i64,
     CK.int IntKind.i64,CK.int IntKind.i64,CK.bool]
     L))]) :=
  (JXm L hNeeds).to (by first | rfl | (simp only [])) (by first | rfl | (simp only []))
theorem Je3:Qf Tryz.prog 12 (JP KL JG9) := by
  refine JI (JF JNa 12) fun ps ls r hr hn _ => ?_
  unfold JG9 at hr
  split at hr
  · cases hr; exact ⟨_,JQc _ (JX9 (by exact hn)),fun _ => rfl⟩
  · cases hr
def JOO:List (Nat × JU) := (12,JP KL JG9) :: Kx
theorem JAW:Known Tryz.prog (JE JOO) JKy := J4 JNa Je3
def Ku:Tpl := ⟨[],[],0⟩
def jC:List Prop :=
 [4 ≤ 1000,true = true → 0 < 5,true = true → 0 < 5,true = true → 0 < 5,true = true → 1 < 5,true = true → 1 < 5,true = true → 1 < 5,true = true → 2 < 5,true = true → 2 < 5,true = true → 2 < 5,true = true → 2 < 5,true = true → 2 < 5,true = true → 2 < 5,true = true → 2 < 5,true = true → 2 < 5,true = true → 2 < 5,true = true → 3 < 5,true = true → 3 < 5,true = true → 3 < 5,true = true → 4 < 5,true = true → 4 < 5,true = true → 4 < 5]
theorem JJu:∀ q ∈ (jC),q := by
  unfold jC
  simp only [awc,awn,and_true]
  decide
theorem JJH (hNeeds:∀ pN ∈ (jC),pN):Runs (Jl (JE JOO) JKy 8) (Ku.args []) (Ku.memo [] []) Ku.n (SV.one (Cb true)) ([]) :=
  Runs.of1 (ps := (jC)) (by kernel_rfl) hNeeds
def JGj:List Pm → Qs → Option CRes
  | [],[] => some ⟨SV.one (Cb true),
 [],[],[],1018⟩
  | _,_ => none
theorem Jdq:Qf Tryz.prog 8 (JP Ku JGj) := by
  refine JI (JF JAW 8) fun ps ls r hr hn _ => ?_
  unfold JGj at hr
  split at hr
  · cases hr; exact ⟨_,JJH  (fun p hp => JJu p hp),fun _ => rfl⟩
  · cases hr
def W2:List (Nat × JU) := (8,JP Ku JGj) :: JOO
theorem JAZ:Known Tryz.prog (JE W2) JKy := J4 JAW Jdq
theorem JJc (e:Int):Jh e = e := by
  unfold Jh
  cases h:(e != 0)
  · rw [cond_false]; exact (by simpa using h:e = 0).symm
  · rfl
theorem Jb1 (x l y:List GC) (a0 a1:Int) (tr op cl en mo:Bool) (la0 la1 la2 er:Int) (C:LL) :
    zZ x l y a0 a1 tr op cl en mo la0 la1 la2 er C = j9 x l y a0 a1 tr op cl en mo la0 la1 la2 er C := by
  unfold zZ j9
  rw [JJc,JJc]
theorem Jam {L:LL} (h:kD L = true):L.length ≤ 120 := by
  unfold kD at h
  have := of_decide_eq_true h
  simp at this
  omega
def JKm (xs:LL) (tag:Nat):Je := [XS 0 2 xs,XS 1 tag xs]
def kO (xs:LL):Fam Nat Unit where
  k := 10
  E j := [(5,ent 20 (.one (I (Int.ofNat j)))),(4,ent 4 (.one (.bool (.c false)))),(0,ent 0 (.one (.wh 0))),(1,ent 2 (.one (.wh 1)))]
  M _ := JKm xs 21
  out _ := .leaf (.exit 0) [] (JKm xs 21)
  fin _ := ()
  next j _ := j + 1
  J j := j ≤ xs.length ∧ xs.length ≤ 1000000
  μ j := xs.length - j
section
variable (xs:LL) (j:Nat)
def JPy:Prop:=
 decide (Int.ofNat j < Int.ofNat xs.length) = true
def JDf:Int:=
 (xs.getD (Int.ofNat j).toNat []).getD 0 0
def JEa:Bool:=
 (xs.getD (Int.ofNat j).toNat []).getD 13 0 != 0
def JDx:Bool:=
 (xs.getD (Int.ofNat j).toNat []).getD 15 0 != 0
def JEG:Bool:=
 (xs.getD (Int.ofNat j).toNat []).getD 21 0 != 0
def JCP:List Prop:=
 [JPy xs j → 0 ≤ Int.ofNat j ∧ (Int.ofNat j).toNat < xs.length ∧ (Int.ofNat j).toNat < xs.length ∧ 0 ≤ Int.ofNat j ∧ (Int.ofNat j).toNat < xs.length ∧ (Int.ofNat j).toNat < xs.length,JPy xs j → ((!(JDf xs j == JDf xs j && ((xs.getD (Int.ofNat j).toNat []).getD 1 0 == (xs.getD (Int.ofNat j).toNat []).getD 1 0 && ((xs.getD (Int.ofNat j).toNat []).getD 2 0 == (xs.getD (Int.ofNat j).toNat []).getD 2 0 && ((xs.getD (Int.ofNat j).toNat []).getD 3 0 == (xs.getD (Int.ofNat j).toNat []).getD 3 0 && ((xs.getD (Int.ofNat j).toNat []).getD 4 0 == (xs.getD (Int.ofNat j).toNat []).getD 4 0 && ((xs.getD (Int.ofNat j).toNat []).getD 5 0 == (xs.getD (Int.ofNat j).toNat []).getD 5 0 && ((xs.getD (Int.ofNat j).toNat []).getD 6 0 == (xs.getD (Int.ofNat j).toNat []).getD 6 0 && ((xs.getD (Int.ofNat j).toNat []).getD 7 0 == (xs.getD (Int.ofNat j).toNat []).getD 7 0 && ((xs.getD (Int.ofNat j).toNat []).getD 8 0 == (xs.getD (Int.ofNat j).toNat []).getD 8 0 && ((xs.getD (Int.ofNat j).toNat []).getD 9 0 == (xs.getD (Int.ofNat j).toNat []).getD 9 0 && ((xs.getD (Int.ofNat j).toNat []).getD 10 0 == (xs.getD (Int.ofNat j).toNat []).getD 10 0 && ((xs.getD (Int.ofNat j).toNat []).getD 11 0 == (xs.getD (Int.ofNat j).toNat []).getD 11 0 && ((xs.getD (Int.ofNat j).toNat []).getD 12 0 == (xs.getD (Int.ofNat j).toNat []).getD 12 0 && (JEa xs j == JEa xs j && ((xs.getD (Int.ofNat j).toNat []).getD 14 0 == (xs.getD (Int.ofNat j).toNat []).getD 14 0 && (JDx xs j == JDx xs j && ((xs.getD (Int.ofNat j).toNat []).getD 16 0 == (xs.getD (Int.ofNat j).toNat []).getD 16 0 && ((xs.getD (Int.ofNat j).toNat []).getD 17 0 == (xs.getD (Int.ofNat j).toNat []).getD 17 0 && ((xs.getD (Int.ofNat j).toNat []).getD 18 0 == (xs.getD (Int.ofNat j).toNat []).getD 18 0 && ((xs.getD (Int.ofNat j).toNat []).getD 19 0 == (xs.getD (Int.ofNat j).toNat []).getD 19 0 && ((xs.getD (Int.ofNat j).toNat []).getD 20 0 == (xs.getD (Int.ofNat j).toNat []).getD 20 0 && JEG xs j == JEG xs j)))))))))))))))))))))) = true → False) ∧ ((!(JDf xs j == JDf xs j && ((xs.getD (Int.ofNat j).toNat []).getD 1 0 == (xs.getD (Int.ofNat j).toNat []).getD 1 0 && ((xs.getD (Int.ofNat j).toNat []).getD 2 0 == (xs.getD (Int.ofNat j).toNat []).getD 2 0 && ((xs.getD (Int.ofNat j).toNat []).getD 3 0 == (xs.getD (Int.ofNat j).toNat []).getD 3 0 && ((xs.getD (Int.ofNat j).toNat []).getD 4 0 == (xs.getD (Int.ofNat j).toNat []).getD 4 0 && ((xs.getD (Int.ofNat j).toNat []).getD 5 0 == (xs.getD (Int.ofNat j).toNat []).getD 5 0 && ((xs.getD (Int.ofNat j).toNat []).getD 6 0 == (xs.getD (Int.ofNat j).toNat []).getD 6 0 && ((xs.getD (Int.ofNat j).toNat []).getD 7 0 == (xs.getD (Int.ofNat j).toNat []).getD 7 0 && ((xs.getD (Int.ofNat j).toNat []).getD 8 0 == (xs.getD (Int.ofNat j).toNat []).getD 8 0 && ((xs.getD (Int.ofNat j).toNat []).getD 9 0 == (xs.getD (Int.ofNat j).toNat []).getD 9 0 && ((xs.getD (Int.ofNat j).toNat []).getD 10 0 == (xs.getD (Int.ofNat j).toNat []).getD 10 0 && ((xs.getD (Int.ofNat j).toNat []).getD 11 0 == (xs.getD (Int.ofNat j).toNat []).getD 11 0 && ((xs.getD (Int.ofNat j).toNat []).getD 12 0 == (xs.getD (Int.ofNat j).toNat []).getD 12 0 && (JEa xs j == JEa xs j && ((xs.getD (Int.ofNat j).toNat []).getD 14 0 == (xs.getD (Int.ofNat j).toNat []).getD 14 0 && (JDx xs j == JDx xs j && ((xs.getD (Int.ofNat j).toNat []).getD 16 0 == (xs.getD (Int.ofNat j).toNat []).getD 16 0 && ((xs.getD (Int.ofNat j).toNat []).getD 17 0 == (xs.getD (Int.ofNat j).toNat []).getD 17 0 && ((xs.getD (Int.ofNat j).toNat []).getD 18 0 == (xs.getD (Int.ofNat j).toNat []).getD 18 0 && ((xs.getD (Int.ofNat j).toNat []).getD 19 0 == (xs.getD (Int.ofNat j).toNat []).getD 19 0 && ((xs.getD (Int.ofNat j).toNat []).getD 20 0 == (xs.getD (Int.ofNat j).toNat []).getD 20 0 && JEG xs j == JEG xs j)))))))))))))))))))))) = false → ((kO xs).next j 1 ≤ xs.length ∧ xs.length ≤ 1000000) ∧ (kO xs).μ ((kO xs).next j 1) < (kO xs).μ j ∧ (kO xs).fin ((kO xs).next j 1) =
 (kO xs).fin j ∧ Int.ofNat ((kO xs).next j 1) = IntKind.i64.wrap (Int.ofNat j + 1))]
end
theorem JVZ (xs:LL) (j:Nat) (hNeeds:∀ pN ∈ (JCP xs j),pN):Q3 (XF (kO xs) (QR Tryz.prog (JE W2) JKy 14 0) 12 j) :=
  Q3.of (ps := (JCP xs j)) (by kernel_rfl) (by kernel_rfl) hNeeds
theorem JUF (xs:LL):Z0 (kO xs) (QR Tryz.prog (JE W2) JKy 14 0) 12 := by
  rintro j ⟨h1,h2⟩
  refine JVZ xs j fun q hq => ?_
  unfold JCP at hq
  simp only [List.mem_cons,List.not_mem_nil,or_false,JPy,JDf,JEa,JDx,JEG] at hq
  rcases hq with rfl | rfl
  · intro h; simp at h ⊢; omega
  · intro h
    simp at h
    refine ⟨fun h => by simp at h,fun _ => ?_⟩
    have e1:IntKind.i64.wrap (Int.ofNat j + 1) = Int.ofNat (j + 1) := Wu (by simp; omega) (by simp; omega)
    simp only [kO]
    exact ⟨⟨by omega,h2⟩,by omega,trivial,e1.symm⟩
def smF (A B:LL):Fam Nat Unit where
  k := 10
  E j := [(5,ent 20 (.one (I (Int.ofNat j)))),(4,ent 4 (.one (.bool (.c false)))),(0,ent 0 (.one (.sl 0 22 (.c 0) (.v B.length)))),(1,ent 2 (.one (.wh 1)))]
  M _ := [XS 0 2 A,XS 1 21 B]
  out _ := .leaf (.exit 0) [] [XS 0 2 A,XS 1 21 B]
  fin _ := ()
  next j _ := j + 1
  J j := j ≤ B.length ∧ B.length ≤ 1000000 ∧ A.take B.length = B
  μ j := B.length - j
def Jcw (B:LL) (j:Nat):Prop :=
 decide (Int.ofNat j < Int.ofNat B.length) = true
def JKz (A B:LL) (j:Nat):List Prop :=
 [Jcw B j → 0 ≤ Int.ofNat j ∧ (Int.ofNat j).toNat < B.length ∧ (Int.ofNat j).toNat < A.length ∧ (Int.ofNat j).toNat < A.length ∧ 0 ≤ Int.ofNat j ∧ (Int.ofNat j).toNat < B.length ∧ (Int.ofNat j).toNat < B.length,Jcw B j → ((!((A.getD (Int.ofNat j).toNat []).getD 0 0 == (B.getD (Int.ofNat j).toNat []).getD 0 0 && ((A.getD (Int.ofNat j).toNat []).getD 1 0 == (B.getD (Int.ofNat j).toNat []).getD 1 0 && ((A.getD (Int.ofNat j).toNat []).getD 2 0 == (B.getD (Int.ofNat j).toNat []).getD 2 0 && ((A.getD (Int.ofNat j).toNat []).getD 3 0 == (B.getD (Int.ofNat j).toNat []).getD 3 0 && ((A.getD (Int.ofNat j).toNat []).getD 4 0 == (B.getD (Int.ofNat j).toNat []).getD 4 0 && ((A.getD (Int.ofNat j).toNat []).getD 5 0 == (B.getD (Int.ofNat j).toNat []).getD 5 0 && ((A.getD (Int.ofNat j).toNat []).getD 6 0 == (B.getD (Int.ofNat j).toNat []).getD 6 0 && ((A.getD (Int.ofNat j).toNat []).getD 7 0 == (B.getD (Int.ofNat j).toNat []).getD 7 0 && ((A.getD (Int.ofNat j).toNat []).getD 8 0 == (B.getD (Int.ofNat j).toNat []).getD 8 0 && ((A.getD (Int.ofNat j).toNat []).getD 9 0 == (B.getD (Int.ofNat j).toNat []).getD 9 0 && ((A.getD (Int.ofNat j).toNat []).getD 10 0 == (B.getD (Int.ofNat j).toNat []).getD 10 0 && ((A.getD (Int.ofNat j).toNat []).getD 11 0 == (B.getD (Int.ofNat j).toNat []).getD 11 0 && ((A.getD (Int.ofNat j).toNat []).getD 12 0 == (B.getD (Int.ofNat j).toNat []).getD 12 0 && (((A.getD (Int.ofNat j).toNat []).getD 13 0 != 0) == ((B.getD (Int.ofNat j).toNat []).getD 13 0 != 0) && ((A.getD (Int.ofNat j).toNat []).getD 14 0 == (B.getD (Int.ofNat j).toNat []).getD 14 0 && (((A.getD (Int.ofNat j).toNat []).getD 15 0 != 0) == ((B.getD (Int.ofNat j).toNat []).getD 15 0 != 0) && ((A.getD (Int.ofNat j).toNat []).getD 16 0 == (B.getD (Int.ofNat j).toNat []).getD 16 0 && ((A.getD (Int.ofNat j).toNat []).getD 17 0 == (B.getD (Int.ofNat j).toNat []).getD 17 0 && ((A.getD (Int.ofNat j).toNat []).getD 18 0 == (B.getD (Int.ofNat j).toNat []).getD 18 0 && ((A.getD (Int.ofNat j).toNat []).getD 19 0 == (B.getD (Int.ofNat j).toNat []).getD 19 0 && ((A.getD (Int.ofNat j).toNat []).getD 20 0 == (B.getD (Int.ofNat j).toNat []).getD 20 0 && ((A.getD (Int.ofNat j).toNat []).getD 21 0 != 0) == ((B.getD (Int.ofNat j).toNat []).getD 21 0 != 0))))))))))))))))))))))) = true → False) ∧ ((!((A.getD (Int.ofNat j).toNat []).getD 0 0 == (B.getD (Int.ofNat j).toNat []).getD 0 0 && ((A.getD (Int.ofNat j).toNat []).getD 1 0 == (B.getD (Int.ofNat j).toNat []).getD 1 0 && ((A.getD (Int.ofNat j).toNat []).getD 2 0 == (B.getD (Int.ofNat j).toNat []).getD 2 0 && ((A.getD (Int.ofNat j).toNat []).getD 3 0 == (B.getD (Int.ofNat j).toNat []).getD 3 0 && ((A.getD (Int.ofNat j).toNat []).getD 4 0 == (B.getD (Int.ofNat j).toNat []).getD 4 0 && ((A.getD (Int.ofNat j).toNat []).getD 5 0 == (B.getD (Int.ofNat j).toNat []).getD 5 0 && ((A.getD (Int.ofNat j).toNat []).getD 6 0 == (B.getD (Int.ofNat j).toNat []).getD 6 0 && ((A.getD (Int.ofNat j).toNat []).getD 7 0 == (B.getD (Int.ofNat j).toNat []).getD 7 0 && ((A.getD (Int.ofNat j).toNat []).getD 8 0 == (B.getD (Int.ofNat j).toNat []).getD 8 0 && ((A.getD (Int.ofNat j).toNat []).getD 9 0 == (B.getD (Int.ofNat j).toNat []).getD 9 0 && ((A.getD (Int.ofNat j).toNat []).getD 10 0 == (B.getD (Int.ofNat j).toNat []).getD 10 0 && ((A.getD (Int.ofNat j).toNat []).getD 11 0 == (B.getD (Int.ofNat j).toNat []).getD 11 0 && ((A.getD (Int.ofNat j).toNat []).getD 12 0 == (B.getD (Int.ofNat j).toNat []).getD 12 0 && (((A.getD (Int.ofNat j).toNat []).getD 13 0 != 0) == ((B.getD (Int.ofNat j).toNat []).getD 13 0 != 0) && ((A.getD (Int.ofNat j).toNat []).getD 14 0 == (B.getD (Int.ofNat j).toNat []).getD 14 0 && (((A.getD (Int.ofNat j).toNat []).getD 15 0 != 0) == ((B.getD (Int.ofNat j).toNat []).getD 15 0 != 0) && ((A.getD (Int.ofNat j).toNat []).getD 16 0 == (B.getD (Int.ofNat j).toNat []).getD 16 0 && ((A.getD (Int.ofNat j).toNat []).getD 17 0 == (B.getD (Int.ofNat j).toNat []).getD 17 0 && ((A.getD (Int.ofNat j).toNat []).getD 18 0 == (B.getD
 (Int.ofNat j).toNat []).getD 18 0 && ((A.getD (Int.ofNat j).toNat []).getD 19 0 == (B.getD (Int.ofNat j).toNat []).getD 19 0 && ((A.getD (Int.ofNat j).toNat []).getD 20 0 == (B.getD (Int.ofNat j).toNat []).getD 20 0 && ((A.getD (Int.ofNat j).toNat []).getD 21 0 != 0) == ((B.getD (Int.ofNat j).toNat []).getD 21 0 != 0))))))))))))))))))))))) = false → ((smF A B).next j 1 ≤ B.length ∧ B.length ≤ 1000000 ∧ List.take B.length A = B) ∧ (smF A B).μ ((smF A B).next j 1) < (smF A B).μ j ∧ (smF A B).fin ((smF A B).next j 1) = (smF A B).fin j ∧ Int.ofNat ((smF A B).next j 1) = IntKind.i64.wrap (Int.ofNat j + 1) ∧ B.length = B.length)]
theorem Jct (A B:LL) (j:Nat) (hNeeds:∀ pN ∈ (JKz A B j),pN):Q3 (XF (smF A B) (QR Tryz.prog (JE W2) JKy 14 0) 12 j) :=
  Q3.of (ps := (JKz A B j)) (by kernel_rfl) (by kernel_rfl) hNeeds
theorem JZx (A B:LL):Z0 (smF A B) (QR Tryz.prog (JE W2) JKy 14 0) 12 := by
  rintro j ⟨h1,h2,hp⟩
  have hl:B.length ≤ A.length := by
    have := congrArg List.length hp
    rw [List.length_take] at this; omega
  have hj:j < B.length → A.getD j [] = B.getD j [] := fun h => by
    have h3:B.getD j [] = (A.take B.length).getD j [] := by rw [hp]
    rw [h3]
    simp [List.getD,List.getElem?_take,h]
  refine Jct A B j fun q hq => ?_
  unfold JKz at hq
  simp only [List.mem_cons,List.not_mem_nil,or_false,Jcw] at hq
  have e0:(Int.ofNat j).toNat = j := rfl
  simp only [e0] at hq
  rcases hq with rfl | rfl
  · intro h; simp at h ⊢; omega
  · intro h
    simp at h
    rw [hj (by omega)]
    refine ⟨fun h => by simp at h,fun _ => ?_⟩
    have e1:IntKind.i64.wrap (Int.ofNat j + 1) = Int.ofNat (j + 1) := Wu (by simp; omega) (by simp; omega)
    simp only [smF]
    exact ⟨⟨by omega,h2,hp⟩,by omega,trivial,e1.symm,trivial⟩
def JgT:Q5 := fun env mem m => match SX.J6 env 0 with
  | some ⟨_,_,_,.one (.sl _ _ _ _)⟩ => (match SX.J6 mem 0,SX.J6 mem 1 with
    | some (.row _ _ _ (.lst _ _ A)),some (.row _ _ _ (.lst _ _ B)) => qS (smF A B) 12 (fun _ _ => some 0) env mem m
    | _,_ => none)
  | _ => (match JPF CKi env mem 0 with
    | some xs => qS (kO xs) 12 (fun _ _ => some 0) env mem m
    | none => none)
def Xj:FuncId → Nat → Option Q5 := kR JKy 14 4 JgT
theorem JAr:Known Tryz.prog (JE W2) Xj := by
  refine Qc 0 JAZ (by kernel_rfl) (Z5 fun env mem m x h => ?_)
  unfold JgT at h
  have hlen:(QC Tryz.prog 14).length = 1 := by kernel_rfl
  split at h
  · split at h
    · exact ⟨_,XX (Qg XB JAZ (by omega)) (JZx _ _),h⟩
    · cases h
  · split at h
    · exact ⟨_,XX (Qg XB JAZ (by omega)) (JUF _),h⟩
    · cases h
def qw:Tpl := ⟨[.one (.wh 0),.one (.wh 1)],[(0,.row false 40 22 2 CKi),(1,.row false 40 22 3 CKi)],4⟩
section
variable (xs ys:LL)
def JZ1:Bool:=
 !Int.ofNat xs.length != Int.ofNat ys.length
def JZL:LL:=
 bif Int.ofNat xs.length != Int.ofNat ys.length then ys else xs
def jD:List Prop:=
 [(Int.ofNat xs.length != Int.ofNat ys.length) = false → (0 ≤ xs.length ∧ xs.length ≤ 1000000) ∧ Int.ofNat 0 = 0 ∧ xs = ys]
end
theorem JXe {xs:LL} {ys:LL} (hW:∀ q ∈ ([xs = ys,xs.length ≤ 1000000]:List Prop),q):∀ q ∈ (jD xs ys),q := by
  simp only [awc,awn,and_true] at hW
  intro q hq
  unfold jD at hq
  simp only [List.mem_cons,List.not_mem_nil,or_false] at hq
  obtain ⟨rfl,h2⟩ := hW
  subst hq
  exact fun _ => ⟨⟨Nat.zero_le _,h2⟩,rfl,rfl⟩
theorem JWD (xs ys:LL) (hNeeds:∀ pN ∈ (jD xs ys),pN):Runs (Jl (JE W2) Xj 14) (qw.args []) (qw.memo [] [xs,ys]) qw.n (SV.one (Cb (JZ1 xs ys))) ([(0,Obj.row false 40 22 (RowC.lst 2 ckI xs)),(1,Obj.row false 40 22 (RowC.lst 23 ckI (JZL xs ys)))]) :=
  Runs.of1 (ps := (jD xs ys)) (by kernel_rfl) hNeeds
def JGi:List Pm → Qs → Option CRes
  | [],[xs,ys] => some ⟨SV.one (SC.bool (SB.c true)),[XS 0 2 xs,XS 1 23 xs],[xs = ys,xs.length ≤ 1000000],[],30⟩
  | _,_ => none
theorem Jed:Qf Tryz.prog 14 (JP qw JGi) := by
  refine JI (JF JAr 14) fun ps ls r hr hn _ => ?_
  unfold JGi at hr
  split at hr
  · rename_i xs ys
    cases hr
    have h1:xs = ys := hn _ (by simp)
    have h2:xs.length ≤ 1000000 := hn _ (by simp)
    subst h1
    refine ⟨_,(JWD xs xs (JXe (by simp [h2]))).to rfl ?_,fun θ => ?_⟩
    · simp only [ckI,Cb,JZL,XS,CKi]
      cases (Int.ofNat xs.length != Int.ofNat xs.length) <;> rfl
    · simp [SV.den,SC.den,SB.val,Cb,JZ1]
  · cases hr
theorem Jdm (m:Nat) (xs ys:LL) (h:∀ p ∈ [(Int.ofNat m != Int.ofNat ys.length) = false → (0 ≤ ys.length ∧ ys.length ≤ 1000000 ∧ xs.take ys.length = ys) ∧ Int.ofNat 0 = 0 ∧ ys.length = m ∧ ys = ys],p) :
    Runs (Jl (JE W2) Xj 14) [.one (.sl 0 22 (.c 0) (.v m)),.one (.wh 1)] [XS 0 2 xs,XS 1 3 ys] 4 (.one (.bool (.v (!(Int.ofNat m != Int.ofNat ys.length))))) [XS 0 2 xs,XS 1 23 (bif Int.ofNat m != Int.ofNat ys.length then ys else ys)] :=
  Runs.of1 (ps := _) (by kernel_rfl) h
def Jgn:JU := fun vs mem n => match vs,mem,n with
  | [.one (.sl 0 22 (.c 0) (.v m)),.one (.wh 1)],[(0,.row false 40 22 (.lst 2 ks xs)),(1,.row false 40 22 (.lst 3 js ys))],4 =>
    bif K6 ks CKi && K6 js CKi then some ⟨.one (.bool (.c true)),[XS 0 2 xs,XS 1 23 ys],[m = ys.length,ys.length ≤ 1000000,xs.take ys.length = ys],[],30⟩ else none
  | _,_,_ => none
theorem Jg3:Qf Tryz.prog 14 Jgn := by
  intro vs mem n r hr hn he hwf hids θ w hm
  unfold Jgn at hr
  split at hr
  · rename_i m ks xs js ys
    cases hk:(K6 ks CKi && K6 js CKi)
    · rw [hk] at hr; cases hr
    rw [hk] at hr
    simp only [Bool.and_eq_true] at hk
    obtain rfl := Zc hk.1
    obtain rfl := Zc hk.2
    cases hr
    have h1:m = ys.length := hn _ (by simp)
    have h2:ys.length ≤ 1000000 := hn _ (by simp)
    have h3:xs.take ys.length = ys := hn _ (by simp)
    obtain ⟨r',q1,q2,q3,q4,q5⟩ := (Jdm m xs ys (by simp [h1,h2,h3])).run
    have := JF JAr 14 _ _ _ r' q1 q2 q3 hwf hids θ w hm
    have e1:(Int.ofNat m != Int.ofNat ys.length) = false := by rw [h1]; simp
    rw [q4,q5,e1] at this
    exact this
  · cases hr
def JeL:List (Nat × JU) := (14,orS (JP qw JGi) Jgn) :: W2
theorem JO2:Known Tryz.prog (JE JeL) Xj := J4 JAr (Jgu Jed Jg3)
def qC:Tpl := ⟨[.one (.int .i64),.one (.int .i64)],[],0⟩
theorem JWK (a b:Int):Runs (Jl (JE JeL) Xj 110) (qC.args [.i a,.i b]) (qC.memo [.i a,.i b] []) qC.n (SV.one (Ci (Qk a b))) ([]) :=
  Runs.of1 (ps := []) (by kernel_rfl) (by simp)
def JHN:List Pm → Qs → Option CRes
  | [.i a,.i b],[] => some ⟨SV.one (Ci (Qk a b)),
 [],[],[],17⟩
  | _,_ => none
theorem JdS:Qf Tryz.prog 110 (JP qC JHN) := by
  refine JI (JF JO2 110) fun ps ls r hr hn _ => ?_
  unfold JHN at hr
  split at hr
  · cases hr; exact ⟨_,JWK _ _,fun _ => rfl⟩
  · cases hr
def JOK:List (Nat × JU) := (110,JP qC JHN) :: JeL
theorem JHY:Known Tryz.prog (JE JOK) Xj := J4 JO2 JdS
def JDw:Tpl := ⟨[.one (.int .i64)],[],0⟩
theorem Jcc (a:Int):Runs (Jl (JE JOK) Xj 140) (JDw.args [.i a]) (JDw.memo [.i a] []) JDw.n (SV.one (SC.int IntKind.u64 (SI.v (JA a)))) ([]) :=
  Runs.of1 (ps := []) (by kernel_rfl) (by simp)
def JOS:List Pm → Qs → Option CRes
  | [.i a],[] => some ⟨SV.one (SC.int IntKind.u64 (SI.v (JA a))),
 [],[],[],12⟩
  | _,_ => none
theorem JhH:Qf Tryz.prog 140 (JP JDw JOS) := by
  refine JI (JF JHY 140) fun ps ls r hr hn _ => ?_
  unfold JOS at hr
  split at hr
  · cases hr; exact ⟨_,Jcc _,fun _ => rfl⟩
  · cases hr
def JcQ:List (Nat × JU) := (140,JP JDw JOS) :: JOK
theorem JNz:Known Tryz.prog (JE JcQ) Xj := J4 JHY JhH
def qM:Tpl := ⟨[.agg [.int .i64,.int .i64],.agg [.int .i64,.int .i64]],[],0⟩
theorem JWX (a b c d:Int):Runs (Jl (JE JcQ) Xj 79) (qM.args [.i a,.i b,.i c,.i d]) (qM.memo [.i a,.i b,.i c,.i d] []) qM.n (SV.agg [Ci (J3 a c),Ci (J3 b d)]) ([]) :=
  Runs.of1 (ps := []) (by kernel_rfl) (by simp)
def JGr:List Pm → Qs → Option CRes
  | [.i a,.i b,.i c,.i d],[] => some ⟨SV.agg [Ci (J3 a c),Ci (J3 b d)],
 [],[],[],26⟩
  | _,_ => none
theorem Jca:Qf Tryz.prog 79 (JP qM JGr) := by
  refine JI (JF JNz 79) fun ps ls r hr hn _ => ?_
  unfold JGr at hr
  split at hr
  · cases hr; exact ⟨_,JWX _ _ _ _,fun _ => rfl⟩
  · cases hr
def JR9:List (Nat × JU) := (79,JP qM JGr) :: JcQ
theorem JHi:Known Tryz.prog (JE JR9) Xj := J4 JNz Jca
def Wn:Tpl := ⟨[.agg [.int .i64,.int .i64],.agg [.int .i64,.int .i64]],[],0⟩
theorem JUe (a b c d:Int):Runs (Jl (JE JR9) Xj 82) (Wn.args [.i a,.i b,.i c,.i d]) (Wn.memo [.i a,.i b,.i c,.i d] []) Wn.n (SV.one (Ci (QQ a b c d))) ([]) :=
  Runs.of1 (ps := []) (by kernel_rfl) (by simp)
def JCv:List Pm → Qs → Option CRes
  | [.i a,.i b,.i c,.i d],[] => some ⟨SV.one (Ci (QQ a b c d)),
 [],[],[],21⟩
  | _,_ => none
theorem Jbl:Qf Tryz.prog 82 (JP Wn JCv) := by
  refine JI (JF JHi 82) fun ps ls r hr hn _ => ?_
  unfold JCv at hr
  split at hr
  · cases hr; exact ⟨_,JUe _ _ _ _,fun _ => rfl⟩
  · cases hr
def JKM:List (Nat × JU) := (82,JP Wn JCv) :: JR9
theorem JEu:Known Tryz.prog (JE JKM) Xj := J4 JHi Jbl
def Wp:Tpl := ⟨[.agg [.int .i64,.int .i64],.agg [.int .i64,.int .i64]],[],0⟩
theorem JRQ (a b c d:Int):Runs (Jl (JE JKM) Xj 80) (Wp.args [.i a,.i b,.i c,.i d]) (Wp.memo [.i a,.i b,.i c,.i d] []) Wp.n (SV.one (Ci (J7 a b c d))) ([]) :=
  Runs.of1 (ps := []) (by kernel_rfl) (by simp)
def JDA:List Pm → Qs → Option CRes
  | [.i a,.i b,.i c,.i d],[] => some ⟨SV.one (Ci (J7 a b c d)),
 [],[],[],21⟩
  | _,_ => none
theorem JaW:Qf Tryz.prog 80 (JP Wp JDA) := by
  refine JI (JF JEu 80) fun ps ls r hr hn _ => ?_
  unfold JDA at hr
  split at hr
  · cases hr; exact ⟨_,JRQ _ _ _ _,fun _ => rfl⟩
  · cases hr
def ql:List (Nat × JU) := (80,JP Wp JDA) :: JKM
theorem zj:Known Tryz.prog (JE ql) Xj := J4 JEu JaW
def JMa (id tag:Nat) (xs:Dg):Nat × SX.Obj := (id,.row false 140 1 (.lst tag [.int .u64] xs))
def JHQ (n:Int):Fam Nat Unit where
  k := 20
  E j := [(3,ent 1000000000 (.one (.wh 4))),(0,ent 1000000001 (.one (U (n / 65536 ^ j))))]
  M j := [JMa 4 1000000002 (Yg n j)]
  out _ := .leaf (.exit 0) [(3,ent 6 (.one (.wh 4)))] [JMa 4 7 (Z7 n)]
  fin _ := ()
  next j _ := j + 1
  J j := j ≤ nd n ∧ 0 ≤ n ∧ n < 18446744073709551616
  μ j := nd n - j
section
variable (n:Int) (j:Nat)
def JJh:Int:=
 n / 65536 ^ j
def JWh:Prop:=
 decide (JJh n j > 0) = true
def JGM:List Prop:=
 [JWh n j → (List.length (Yg n j) + 1) * 8 ≤ 140737488355328 ∧ List.length (Yg n j) + 1 ≤ 9223372036854775807,JWh n j → ((JHQ n).next j 0 ≤ nd n ∧ 0 ≤ n ∧ n < 18446744073709551616) ∧ (JHQ n).μ ((JHQ n).next j 0) < (JHQ n).μ j ∧ (JHQ n).fin ((JHQ n).next j 0) = (JHQ n).fin j ∧ n / 65536 ^ (JHQ n).next j 0 = JK BinOp.shr IntKind.u64 (JJh n j) 16 ∧ Yg n ((JHQ n).next j 0) = Yg n j ++ [[Qx BinOp.and IntKind.u64 (JJh n j) 65535]],decide (JJh n j > 0) = false → Z7 n = Yg n j]
end
theorem Jax (n:Int) (j:Nat) (hNeeds:∀ pN ∈ (JGM n j),pN):Q3 (XF (JHQ n) (QR Tryz.prog (JE ql) Xj 139 0) 2 j) :=
  Q3.of (ps := (JGM n j)) (by kernel_rfl) (by kernel_rfl) hNeeds
theorem JLu (n:Int):Z0 (JHQ n) (QR Tryz.prog (JE ql) Xj 139 0) 2 := by
  intro j hJ
  obtain ⟨h1,h2,h3⟩:j ≤ nd n ∧ 0 ≤ n ∧ n < 18446744073709551616 := hJ
  have h4 := (jY h2 h3 (j := 0) (by omega)).2
  have h5 := (jY h2 h3 (j := j) (by omega)).1
  obtain ⟨h6,h7⟩ := JfK h2 h3 j
  have e:JJh n j = n / 65536 ^ j := rfl
  refine Jax n j fun q hq => ?_
  unfold JGM at hq
  simp only [List.mem_cons,List.not_mem_nil,or_false] at hq
  rcases hq with rfl | rfl | rfl
  · intro _
    rw [Yc]; omega
  · intro h
    have h:0 < n / 65536 ^ j := by simpa [JWh,e] using h
    have h8 := h5.1 h
    refine ⟨⟨by show j + 1 ≤ nd n; omega,h2,h3⟩,by show nd n - (j + 1) < nd n - j; omega,trivial,?_,?_⟩
    · rw [e,JgF _ h6]; exact JZ6 n j
    · rw [e,Jgf _ h6 h7]; exact JNI n j
  · intro h
    have h:¬ 0 < n / 65536 ^ j := by simpa [e] using h
    have:j = nd n := by
      rcases Nat.lt_or_ge j (nd n) with h8 | h8
      · exact absurd (h5.2 h8) h
      · omega
    rw [this]; rfl
def JgJ:Q5 := fun env mem m => match SX.J6 env 0 with
  | some ⟨_,_,_,.one (.int .u64 (.v n))⟩ => qS (JHQ n) 2 (fun _ _ => some 0) env mem m
  | some ⟨_,_,_,.one (.int .u64 (.c n))⟩ => qS (JHQ n) 2 (fun _ _ => some 0) env mem m
  | _ => none
def JHl:FuncId → Nat → Option Q5 := kR Xj 139 2 JgJ
theorem JL3:Known Tryz.prog (JE ql) JHl := by
  refine Qc 0 zj (by kernel_rfl) (Z5 fun env mem m x h => ?_)
  unfold JgJ at h
  have hlen:(QC Tryz.prog 139).length = 1 := by kernel_rfl
  split at h
  · exact ⟨_,XX (Qg XB zj (by omega)) (JLu _),h⟩
  · exact ⟨_,XX (Qg XB zj (by omega)) (JLu _),h⟩
  · cases h
def qZ:Tpl := ⟨[.one (.int .u64)],[],0⟩
def j7 (n:Int):List Prop :=
 [0 ≤ nd n ∧ 0 ≤ n ∧ n < 18446744073709551616,n / 1 = n,Yg n 0 = []]
theorem JVk {n:Int} (hW:∀ q ∈ ([0 ≤ n,n < 18446744073709551616]:List Prop),q):∀ q ∈ (j7 n),q := by
  simp only [awc,awn,and_true] at hW
  intro q hq
  unfold j7 at hq
  simp only [List.mem_cons,List.not_mem_nil,or_false] at hq
  obtain ⟨h1,h2⟩ := hW
  rcases hq with rfl | rfl | rfl
  · exact ⟨Nat.zero_le _,h1,h2⟩
  · simp
  · rfl
theorem JXk (n:Int) (hNeeds:∀ pN ∈ (j7 n),pN):Runs (Jl (JE ql) JHl 139) (qZ.args [.i n]) (qZ.memo [.i n] []) qZ.n (SV.one (SC.wh 4)) ([(4,Obj.row false 140 1 (RowC.lst 7 [CK.int IntKind.u64] (Z7 n)))]) :=
  Runs.of1 (ps := (j7 n)) (by kernel_rfl) hNeeds
def JH7:List Pm → Qs → Option CRes
  | [.i n],[] => some ⟨SV.one (SC.wh 4),
 [(4,Obj.row false 140 1 (RowC.lst 7 [CK.int IntKind.u64] (Z7 n)))],[0 ≤ n,n < 18446744073709551616],[],24⟩
  | _,_ => none
theorem JdI:Qf Tryz.prog 139 (JP qZ JH7) := by
  refine JI (JF JL3 139) fun ps ls r hr hn _ => ?_
  unfold JH7 at hr
  split at hr
  · cases hr; exact ⟨_,JXk _ (JVk (by exact hn)),fun _ => rfl⟩
  · cases hr
def W5:List (Nat × JU) := (139,JP qZ JH7) :: ql
theorem JA7:Known Tryz.prog (JE W5) JHl := J4 JL3 JdI
def JIp (xs:Dg):Fam Nat Unit where
  k := 20
  E j := [(0,ent 1000000000 (.one (.wh 5)))]
  M j := [JMa 5 1000000001 (xs.take j)]
  out _ := .leaf (.exit 0) [(0,ent 7 (.one (.wh 5)))] [JMa 5 8 (JCD xs)]
  fin _ := ()
  next j _ := j - 1
  J j := j ≤ xs.length ∧ jp xs j = jp xs xs.length ∧ xs.length ≤ 1000000
  μ j := j
section
variable (xs:Dg) (j:Nat)
def JCc:Bool:=
 decide (Int.ofNat (List.take j xs).length > 0)
def WW:Int:=
 IntKind.i64.wrap (Int.ofNat (List.take j xs).length - 1)
def JQk:Prop:=
 (JCc xs j && ((List.take j xs).getD (WW xs j).toNat []).getD 0 0 == 0) = true
def JGX:List Prop:=
 [JCc xs j = true → 0 ≤ WW xs j,JCc xs j = true → (WW xs j).toNat < (List.take j xs).length,JCc xs j = true → (WW xs j).toNat < (List.take j xs).length,JQk xs j → 0 ≤ WW xs j ∧ (WW xs j).toNat ≤ (List.take j xs).length,JQk xs j → ((JIp xs).next j 0 ≤ List.length xs ∧ jp xs ((JIp xs).next j 0) = jp xs (List.length xs) ∧ List.length xs ≤ 1000000) ∧ (JIp xs).μ ((JIp xs).next j 0) < (JIp xs).μ j ∧ (JIp xs).fin ((JIp xs).next j 0) = (JIp xs).fin j ∧ List.take ((JIp xs).next j 0) xs = List.take (WW xs j).toNat (List.drop 0 (List.take j xs)),(JCc xs j && ((List.take j xs).getD (WW xs j).toNat []).getD 0 0 == 0) = false → JCD xs = List.take j xs]
end
theorem Jbw (xs:Dg) (j:Nat) (hNeeds:∀ pN ∈ (JGX xs j),pN):Q3 (XF (JIp xs) (QR Tryz.prog (JE W5) JHl 164 0) 3 j) :=
  Q3.of (ps := (JGX xs j)) (by kernel_rfl) (by kernel_rfl) hNeeds
theorem JVi (xs:Dg):Z0 (JIp xs) (QR Tryz.prog (JE W5) JHl 164 0) 3 := by
  intro j hJ
  obtain ⟨h1,h2,h3⟩:j ≤ xs.length ∧ jp xs j = jp xs xs.length ∧ xs.length ≤ 1000000 := hJ
  have hl:(xs.take j).length = j := by rw [List.length_take]; omega
  have e0:JCc xs j = decide (0 < j) := by unfold JCc; rw [hl]; simp
  have e1:0 < j → WW xs j = Int.ofNat (j - 1) := fun h => by
    unfold WW
    rw [hl,Wu (by simp; omega) (by simp; omega)]
    simp; omega
  have e2:0 < j → ((xs.take j).getD (WW xs j).toNat []).getD 0 0 = dg xs (j - 1) := fun h => by
    rw [e1 h]
    show dg (xs.take j) (j - 1) = _
    rw [JP4,if_pos (by omega)]
  have e3:0 < j → jp xs j = bif dg xs (j - 1) == 0 then jp xs (j - 1) else j := fun h => by
    obtain ⟨m,rfl⟩:∃ m,j = m + 1 := ⟨j - 1,by omega⟩
    rfl
  have e4:JQk xs j → 0 < j ∧ (dg xs (j - 1) == 0) = true := fun h => by
    unfold JQk at h
    rw [Bool.and_eq_true,e0,decide_eq_true_eq] at h
    rw [e2 h.1] at h
    exact h
  refine Jbw xs j fun q hq => ?_
  unfold JGX at hq
  simp only [List.mem_cons,List.not_mem_nil,or_false] at hq
  rcases hq with rfl | rfl | rfl | rfl | rfl | rfl
  · intro h
    rw [e0,decide_eq_true_eq] at h
    rw [e1 h]; simp
  · intro h
    rw [e0,decide_eq_true_eq] at h
    rw [e1 h,hl]; simp; omega
  · intro h
    rw [e0,decide_eq_true_eq] at h
    rw [e1 h,hl]; simp; omega
  · intro h
    obtain ⟨h4,h5⟩ := e4 h
    rw [e1 h4,hl]; simp
  · intro h
    obtain ⟨h4,h5⟩ := e4 h
    refine ⟨⟨?_,?_,h3⟩,?_,trivial,?_⟩
    · show j - 1 ≤ _; omega
    · have := e3 h4
      rw [h5,cond_true] at this
      show jp xs (j - 1) = _
      rw [← this,h2]
    · show j - 1 < j; omega
    · rw [e1 h4,List.drop_zero,List.take_take]
      show xs.take (j - 1) = xs.take (min (j - 1) j)
      rw [Nat.min_eq_left (by omega)]
  · intro h
    unfold JCD
    rw [← h2]
    rcases Nat.eq_zero_or_pos j with h4 | h4
    · subst h4; rfl
    · rw [e2 h4,e0,decide_eq_true h4,Bool.true_and] at h
      rw [e3 h4,h,cond_false]
def Jg8:Q5 := fun env mem m => match JPF [.int .u64] env mem 0 with
  | some xs => qS (JIp xs) 3 (fun _ _ => some xs.length) env mem m
  | none => none
def JgM:FuncId → Nat → Option Q5 := kR JHl 164 1 Jg8
theorem JWB:Known Tryz.prog (JE W5) JgM := by
  refine Qc 0 JA7 (by kernel_rfl) (Z5 fun env mem m x h => ?_)
  unfold Jg8 at h
  have hlen:(QC Tryz.prog 164).length = 1 := by kernel_rfl
  split at h
  · exact ⟨_,XX (Qg XB JA7 (by omega)) (JVi _),h⟩
  · cases h
def JSA (A B:Dg):Je := [JMa 0 2 A,JMa 1 3 B]
def zJ (A B:Dg):Fam Nat Int where
  k := 20
  E j := [(5,ent 1000000000 (.one (I (Int.ofNat j - 1)))),(0,ent 0 (.one (.wh 0))),(1,ent 2 (.one (.wh 1)))]
  M j := JSA A B
  out t := .ite (decide (t < 0)) (.leaf .ret [(4,ent 24 (.one (.int .i64 (.c (-1)))))] (JSA A B)) (.ite (decide (0 < t)) (.leaf .ret [(4,ent 25 (.one (.int .i64 (.c 1))))] (JSA A B)) (.leaf (.exit 0) [] (JSA A B)))
  fin j := qL A B j
  next j _ := j - 1
  J j := j ≤ A.length ∧ A.length = B.length ∧ A.length ≤ 1000000
  μ j := j
section
variable (A B:Dg) (j:Nat)
def JOR:Prop:=
 decide (Int.ofNat j - 1 ≥ 0) = true
def JL4:Prop:=
 (Int.ofNat j - 1).toNat < List.length B
def Yx:Int:=
 (List.getD A (Int.ofNat j - 1).toNat []).getD 0 0
def JXY:Prop:=
 decide (Yx A j < Yx B j) = false
def JLv:Prop:=
 decide ((zJ A B).fin j < 0) = false
def JPO:Prop:=
 decide (0 < (zJ A B).fin j) = true
def JVM:Prop:=
 decide (0 < (zJ A B).fin j) = false → False
def JQ9:Prop:=
 decide ((zJ A B).fin j < 0) = true
def JGk:List Prop:=
 [JOR j → 0 ≤ Int.ofNat j - 1 ∧ (Int.ofNat j - 1).toNat < List.length A ∧ (Int.ofNat j - 1).toNat < List.length A ∧ 0 ≤ Int.ofNat j - 1 ∧ JL4 B j ∧ JL4 B j ∧ (JXY A B j → 0 ≤ Int.ofNat j - 1 ∧ (Int.ofNat j - 1).toNat < List.length A ∧ (Int.ofNat j - 1).toNat < List.length A ∧ 0 ≤ Int.ofNat j - 1 ∧ JL4 B j ∧ JL4 B j),JOR j → (decide (Yx A j < Yx B j) = true → JLv A B j → (JPO A B j → Int.ofNat 1 = -1) ∧ JVM A B j) ∧ (JXY A B j → (decide (Yx A j > Yx B j) = true → (JQ9 A B j → -1 = 1) ∧ (JLv A B j → JVM A B j)) ∧ (decide (Yx A j > Yx B j) = false → ((zJ A B).next j 2 ≤ List.length A ∧ List.length A = List.length B ∧ List.length A ≤ 1000000) ∧ (zJ A B).μ ((zJ A B).next j 2) < (zJ A B).μ j ∧ (zJ A B).fin ((zJ A B).next j 2) = (zJ A B).fin j ∧ Int.ofNat ((zJ A B).next j 2) - 1 = IntKind.i64.wrap (Int.ofNat j - 1 - 1))),decide (Int.ofNat j - 1 ≥ 0) = false → (JQ9 A B j → False) ∧ (JLv A B j → JPO A B j → False)]
end
theorem Jaf (A B:Dg) (j:Nat) (hNeeds:∀ pN ∈ (JGk A B j),pN):Q3 (XF (zJ A B) (QR Tryz.prog (JE W5) JHl 111 0) 22 j) :=
  Q3.of (ps := (JGk A B j)) (by kernel_rfl) (by kernel_rfl) hNeeds
theorem JUN (A B:Dg):∀ j,qL A B j = -1 ∨ qL A B j = 0 ∨ qL A B j = 1
  | 0 => .inr (.inl rfl)
  | j + 1 => by
    rw [qL]
    cases decide (dg A j < dg B j)
    · rw [cond_false]
      cases decide (dg B j < dg A j)
      · rw [cond_false]; exact JUN A B j
      · exact .inr (.inr rfl)
    · exact .inl rfl
theorem JWw (A B:Dg):Z0 (zJ A B) (QR Tryz.prog (JE W5) JHl 111 0) 22 := by
  intro j hJ
  obtain ⟨h1,h2,h3⟩:j ≤ A.length ∧ A.length = B.length ∧ A.length ≤ 1000000 := hJ
  refine Jaf A B j fun q hq => ?_
  unfold JGk at hq
  rcases Nat.eq_zero_or_pos j with h0 | h0
  · subst h0
    have e0:¬ JOR 0 := by unfold JOR; simp
    have e1:(zJ A B).fin 0 = 0 := rfl
    simp only [List.mem_cons,List.not_mem_nil,or_false,JLv,JPO,JQ9,e1] at hq
    rcases hq with rfl | rfl | rfl
    · intro h; exact absurd h e0
    · intro h; exact absurd h e0
    · intro _; simp
  · obtain ⟨m,rfl⟩:∃ m,j = m + 1 := ⟨j - 1,by omega⟩
    have e1:Int.ofNat (m + 1) - 1 = Int.ofNat m := by simp
    have e2:(Int.ofNat m).toNat = m := rfl
    have e3:Yx A (m + 1) = dg A m := by unfold Yx; rw [e1]; rfl
    have e4:Yx B (m + 1) = dg B m := by unfold Yx; rw [e1]; rfl
    have e5:(zJ A B).fin (m + 1) = qL A B (m + 1) := rfl
    have e6:0 ≤ Int.ofNat m := by simp
    have e7:IntKind.i64.wrap (Int.ofNat m - 1) = Int.ofNat m - 1 := Wu (by simp; omega) (by simp; omega)
    simp only [List.mem_cons,List.not_mem_nil,or_false,JL4,JXY,JLv,JPO,JVM,JQ9,e1,e2,e3,e4,e5,e7] at hq
    rcases hq with rfl | rfl | rfl
    · intro _
      have h4:m < A.length := by omega
      have h5:m < B.length := by omega
      exact ⟨e6,h4,h4,e6,h5,h5,fun _ => ⟨e6,h4,h4,e6,h5,h5⟩⟩
    · intro _
      refine ⟨fun h => ?_,fun h => ⟨fun h4 => ?_,fun h4 => ⟨⟨?_,h2,h3⟩,?_,?_,?_⟩⟩⟩
      · have:qL A B (m + 1) = -1 := by rw [qL,h,cond_true]
        rw [this]
        intro h; simp at h
      · have h4:decide (dg B m < dg A m) = true := h4
        have:qL A B (m + 1) = 1 := by rw [qL,h,cond_false,h4,cond_true]
        rw [this]
        exact ⟨fun h => by simp at h,fun _ h => by simp at h⟩
      · show m ≤ _; omega
      · show m < m + 1; omega
      · have h4:decide (dg B m < dg A m) = false := h4
        show qL A B m = qL A B (m + 1)
        rw [qL,h,cond_false,h4,cond_false]
      · rfl
    · intro h; simp at h
def JgR:Q5 := fun env mem m => match JPF [.int .u64] env mem 0,JPF [.int .u64] env mem 1 with
  | some A,some B => qS (zJ A B) 22 (fun _ _ => some A.length) env mem m
  | _,_ => none
def JDa:FuncId → Nat → Option Q5 := kR JgM 111 6 JgR
theorem JLj:Known Tryz.prog (JE W5) JDa := by
  refine Qc 0 JWB (by kernel_rfl) (Z5 fun env mem m x h => ?_)
  unfold JgR at h
  have hlen:(QC Tryz.prog 111).length = 1 := by kernel_rfl
  split at h
  · exact ⟨_,XX (Qg XB JA7 (by omega)) (JWw _ _),h⟩
  · cases h
def JA8:Tpl := ⟨[.one (.wh 0)],[(0,.row false 140 1 1 [.int .u64])],2⟩
def zd (xs:LL):List Prop :=
 [xs.length ≤ xs.length ∧ jp xs xs.length = jp xs xs.length ∧ xs.length ≤ 1000000,List.take xs.length xs = xs]
theorem Jbo {xs:LL} (hW:∀ q ∈ ([xs.length ≤ 1000000]:List Prop),q):∀ q ∈ (zd xs),q := by
  simp only [awc,awn,and_true] at hW
  intro q hq
  unfold zd at hq
  simp only [List.mem_cons,List.not_mem_nil,or_false] at hq
  rcases hq with rfl | rfl
  · exact ⟨Nat.le_refl _,trivial,hW⟩
  · exact List.take_length
theorem Jaa (xs:LL) (hNeeds:∀ pN ∈ (zd xs),pN):Runs (Jl (JE W5) JDa 164) (JA8.args []) (JA8.memo [] [xs]) JA8.n (SV.one (SC.wh 5)) ([(5,Obj.row false 140 1 (RowC.lst 8 [CK.int IntKind.u64] (JCD xs)))]) :=
  Runs.of1 (ps := (zd xs)) (by kernel_rfl) hNeeds
def JKZ:List Pm → Qs → Option CRes
  | [],[xs] => some ⟨SV.one (SC.wh 5),
 [(5,Obj.row false 140 1 (RowC.lst 8 [CK.int IntKind.u64] (JCD xs)))],[xs.length ≤ 1000000],[],25⟩
  | _,_ => none
theorem Jfg:Qf Tryz.prog 164 (JP JA8 JKZ) := by
  refine JI (JF JLj 164) fun ps ls r hr hn _ => ?_
  unfold JKZ at hr
  split at hr
  · cases hr; exact ⟨_,Jaa _ (Jbo (by exact hn)),fun _ => rfl⟩
  · cases hr
def JQt:List (Nat × JU) := (164,JP JA8 JKZ) :: W5
theorem JLH:Known Tryz.prog (JE JQt) JDa := J4 JLj Jfg
def Ym:Tpl := ⟨[.one (.wh 0),.one (.wh 1)],[(0,.row false 140 1 2 [.int .u64]),(1,.row false 140 1 3 [.int .u64])],4⟩
def JVH (A B:LL):Int :=
 bif Int.ofNat A.length != Int.ofNat B.length then bif decide (Int.ofNat A.length < Int.ofNat B.length) then -1 else 1 else bif decide ((zJ A B).fin A.length < 0) then -1 else bif decide (0 < (zJ A B).fin A.length) then 1 else 0
def WS (A B:LL):List Prop :=
 [(Int.ofNat A.length != Int.ofNat B.length) = false → (A.length ≤ A.length ∧ A.length = B.length ∧ A.length ≤ 1000000) ∧ Int.ofNat A.length - 1 = IntKind.i64.wrap (Int.ofNat A.length - 1)]
theorem JZn (A B:LL):(JVH A B) = JVn A B := by
  unfold JVH JVn
  show (bif _ then _ else bif decide (qL A B A.length < 0) then (-1:Int) else bif decide (0 < qL A B A.length) then 1 else 0) = _
  rcases JUN A B A.length with h | h | h <;> rw [h] <;> rfl
theorem Jbb {A:LL} {B:LL} (hW:∀ q ∈ ([A.length ≤ 1000000]:List Prop),q):∀ q ∈ (WS A B),q := by
  simp only [awc,awn,and_true] at hW
  intro q hq
  unfold WS at hq
  simp only [List.mem_cons,List.not_mem_nil,or_false] at hq
  subst hq
  intro h
  simp at h
  exact ⟨⟨Nat.le_refl _,by omega,hW⟩,(Wu (by simp; omega) (by simp; omega)).symm⟩
theorem Ja7 (A B:LL) (hNeeds:∀ pN ∈ (WS A B),pN):Runs (Jl (JE JQt) JDa 111) (Ym.args []) (Ym.memo [] [A,B]) Ym.n (SV.one (Ci (JVH A B))) ([(0,Obj.row false 140 1 (RowC.lst 2 [CK.int IntKind.u64] A)),(1,Obj.row false 140 1 (RowC.lst 3 [CK.int IntKind.u64] B))]) :=
  Runs.of1 (ps := (WS A B)) (by kernel_rfl) hNeeds
def JL7:List Pm → Qs → Option CRes
  | [],[A,B] => some ⟨SV.one (Ci ((JVn A B))),[(0,Obj.row false 140 1 (RowC.lst 2 [CK.int IntKind.u64] A)),(1,Obj.row false 140 1 (RowC.lst 3 [CK.int IntKind.u64] B))],[A.length ≤ 1000000],[],43⟩
  | _,_ => none
theorem JRt (A B:LL) (hNeeds:∀ pN ∈ (WS A B),pN):Runs (Jl (JE JQt) JDa 111) (Ym.args []) (Ym.memo [] [A,B]) Ym.n (SV.one (SC.int IntKind.i64 (SI.v ((JVn A B)))))
    ([(0,Obj.row false 140 1 (RowC.lst 2 [CK.int IntKind.u64] A)),(1,Obj.row false 140 1 (RowC.lst 3 [CK.int IntKind.u64] B))]) :=
  (Ja7 A B hNeeds).to (by first | rfl | (simp only [Ci,Cb,ckI,JZn])) (by first | rfl | (simp only [Ci,Cb,ckI,JZn]))
theorem Jfl:Qf Tryz.prog 111 (JP Ym JL7) := by
  refine JI (JF JLH 111) fun ps ls r hr hn _ => ?_
  unfold JL7 at hr
  split at hr
  · cases hr; exact ⟨_,JRt _ _ (Jbb (by exact hn)),fun _ => rfl⟩
  · cases hr
def k6:List (Nat × JU) := (111,JP Ym JL7) :: JQt
theorem JK5:Known Tryz.prog (JE k6) JDa := J4 JLH Jfl
def inF (A B O:Dg) (i:Nat):Fam Nat Unit where
  k := 20
  E k := [(8,ent 1000000000 (.one (I (Int.ofNat k)))),(7,ent 1000000001 (.one (U (Xu (dg A i) B O i k).2))),(6,ent 1000000002 (.one (I (Int.ofNat i)))),(5,ent 1000000003 (.one (.wh 42))),(0,ent 0 (.one (.wh 0))),(1,ent 2 (.one (.wh 1)))]
  M k := JMa 42 1000000004 (Xu (dg A i) B O i k).1 :: JSA A B
  out _ := .leaf (.exit 2) [(7,ent 45 (.one (U (Xu (dg A i) B O i B.length).2))),(6,ent 46 (.one (I (Int.ofNat i)))),(5,ent 47 (.one (.wh 42))),(0,ent 0 (.one (.wh 0))),(1,ent 2 (.one (.wh 1)))] (JMa 42 48 (Xu (dg A i) B O i B.length).1 :: JSA A B)
  fin _ := ()
  next k _ := k + 1
  J k := k ≤ B.length ∧ i < A.length ∧ rng A ∧ rng B ∧ rng O ∧ O.length = A.length + B.length ∧ A.length + B.length ≤ 1000000
  μ k := B.length - k
section
variable (A B O:Dg) (i k:Nat)
def JQQ:Prop:=
 decide (Int.ofNat k < Int.ofNat (List.length B)) = true
def JGQ:Prop:=
 (IntKind.i64.wrap (Int.ofNat i + Int.ofNat k)).toNat < List.length (Xu (dg A i) B O i k).fst
def JQ7:List Int:=
 List.getD (Xu (dg A i) B O i k).fst (IntKind.i64.wrap (Int.ofNat i + Int.ofNat k)).toNat []
def JR6:Int:=
 IntKind.u64.wrap (IntKind.u64.wrap ((JQ7 A B O i k).getD 0 0 + IntKind.u64.wrap ((List.getD A (Int.ofNat i).toNat []).getD 0 0 * (List.getD B (Int.ofNat k).toNat []).getD 0 0)) + (Xu (dg A i) B O i k).snd)
end
def JGI (A:Dg) (B:Dg) (O:Dg) (i k:Nat):List Prop :=
 [JQQ B k → 0 ≤ IntKind.i64.wrap (Int.ofNat i + Int.ofNat k) ∧ JGQ A B O i k ∧ JGQ A B O i k ∧ 0 ≤ Int.ofNat i ∧ (Int.ofNat i).toNat < List.length A ∧ (Int.ofNat i).toNat < List.length A ∧ 0 ≤ Int.ofNat k ∧ (Int.ofNat k).toNat < List.length B ∧ (Int.ofNat k).toNat < List.length B ∧ 0 ≤ IntKind.i64.wrap (Int.ofNat i + Int.ofNat k) ∧ JGQ A B O i k ∧ JGQ A B O i k,JQQ B k → ((inF A B O i).next k 0 ≤ List.length B ∧ i < List.length A ∧ (∀ (i:Nat),0 ≤ dg A i ∧ dg A i < 65536) ∧ (∀ (i:Nat),0 ≤ dg B i ∧ dg B i < 65536) ∧ (∀ (i:Nat),0 ≤ dg O i ∧ dg O i < 65536) ∧ List.length O = List.length A + List.length B ∧ List.length A + List.length B ≤ 1000000) ∧ (inF A B O i).μ ((inF A B O i).next k 0) < (inF A B O i).μ k ∧ (inF A B O i).fin ((inF A B O i).next k 0) = (inF A B O i).fin k ∧ Int.ofNat ((inF A B O i).next k 0) = IntKind.i64.wrap (Int.ofNat k + 1) ∧ (Xu (dg A i) B O i ((inF A B O i).next k 0)).snd = JK BinOp.shr IntKind.u64 (JR6 A B O i k) 16 ∧ Int.ofNat i = Int.ofNat i ∧ (Xu (dg A i) B O i ((inF A B O i).next k 0)).fst = List.set (Xu (dg A i) B O i k).fst (IntKind.i64.wrap (Int.ofNat i + Int.ofNat k)).toNat (JHw 1 0 0 [Qx BinOp.and IntKind.u64 (JR6 A B O i k) 65535] (JQ7 A B O i k)),decide (Int.ofNat k < Int.ofNat (List.length B)) = false → (Xu (dg A i) B O i (List.length B)).snd = (Xu (dg A i) B O i k).snd ∧ Int.ofNat i = Int.ofNat i ∧ (Xu (dg A i) B O i (List.length B)).fst = (Xu (dg A i) B O i k).fst]
theorem JbK (A B O:Dg) (i k:Nat) (hNeeds:∀ pN ∈ (JGI A B O i k),pN):Q3 (XF (inF A B O i) (QR Tryz.prog (JE k6) JDa 138 1) 41 k) :=
  Q3.of (ps := (JGI A B O i k)) (by kernel_rfl) (by kernel_rfl) hNeeds
theorem JVA (A B O:Dg) (i:Nat):Z0 (inF A B O i) (QR Tryz.prog (JE k6) JDa 138 1) 41 := by
  intro k hJ
  have hJ' := hJ
  obtain ⟨h1,h2,hA,hB,hO,h3,h4⟩:k ≤ B.length ∧ i < A.length ∧ rng A ∧ rng B ∧ rng O ∧ O.length = A.length + B.length ∧ A.length + B.length ≤ 1000000 := hJ
  have hl:List.length (Xu (dg A i) B O i k).fst = A.length + B.length := by rw [Y5,h3]
  refine JbK A B O i k fun q hq => ?_
  unfold JGI at hq
  simp only [List.mem_cons,List.not_mem_nil,or_false] at hq
  have ew:IntKind.i64.wrap (Int.ofNat i + Int.ofNat k) = Int.ofNat (i + k) := by rw [Wu (by simp; omega) (by simp; omega)]; simp
  have ew2:(IntKind.i64.wrap (Int.ofNat i + Int.ofNat k)).toNat = i + k := by rw [ew]; rfl
  have es:JQQ B k → k < B.length := fun h => by simpa [JQQ] using h
  have e2:JQ7 A B O i k = (Xu (dg A i) B O i k).1.getD (i + k) [] := by unfold JQ7; rw [ew2]
  rcases hq with rfl | rfl | rfl
  · intro h
    have hk := es h
    have e1:JGQ A B O i k := by unfold JGQ; rw [ew2,hl]; omega
    have e0:0 ≤ IntKind.i64.wrap (Int.ofNat i + Int.ofNat k) := by rw [ew]; exact Int.natCast_nonneg _
    exact ⟨e0,e1,e1,by simp,h2,h2,by simp,hk,hk,e0,e1,e1⟩
  · intro h
    have hk := es h
    obtain ⟨hr,hc⟩ := JJD (i := i) (hA i) hB hO k (by omega)
    obtain ⟨d1,d2⟩ := hr (i + k)
    obtain ⟨p1,p2⟩ := JSF (hA i) (hB k)
    have e3:JR6 A B O i k = dg (Xu (dg A i) B O i k).1 (i + k) + dg A i * dg B k + (Xu (dg A i) B O i k).2 := by
      unfold JR6
      rw [e2]
      show IntKind.u64.wrap (IntKind.u64.wrap (dg (Xu (dg A i) B O i k).1 (i + k) + IntKind.u64.wrap (dg A i * dg B k)) + _) = _
      rw [zI p1 (by omega),zI (x := _ + dg A i * dg B k) (by omega) (by omega),zI (by omega) (by omega)]
    have e4:0 ≤ dg (Xu (dg A i) B O i k).1 (i + k) + dg A i * dg B k + (Xu (dg A i) B O i k).2 := by omega
    refine ⟨⟨hk,h2,hA,hB,hO,h3,h4⟩,?_,trivial,?_,?_,trivial,?_⟩
    · show B.length - (k + 1) < B.length - k; omega
    · rw [Wu (by simp; omega) (by simp; omega)]; rfl
    · rw [e3,JgF _ e4]; rfl
    · rw [e3,Jgf _ e4 (by omega),ew2]; rfl
  · intro h
    have hk:k = B.length := by simp at h; omega
    subst hk
    exact ⟨rfl,trivial,rfl⟩
def Jhj:Q5 := fun env mem m => match JPF [.int .u64] env mem 0,JPF [.int .u64] env mem 1,JPF [.int .u64] env mem 5,jl env 6 with
  | some A,some B,some O,some i => qS (inF A B O i.toNat) 41 (fun _ _ => some 0) env mem m
  | _,_,_,_ => none
def JZa:FuncId → Nat → Option Q5 := kR JDa 138 7 Jhj
theorem JKx:Known Tryz.prog (JE k6) JZa := by
  refine Qc 1 JK5 (by kernel_rfl) (Z5 fun env mem m x h => ?_)
  unfold Jhj at h
  have hlen:(QC Tryz.prog 138).length = 2 := by kernel_rfl
  split at h
  · exact ⟨_,XX (Qg XB JK5 (by omega)) (JVA _ _ _ _),h⟩
  · cases h
def JIi (A B:Dg):Fam Nat Unit where
  k := 20
  E i := [(6,ent 1000000000 (.one (I (Int.ofNat i)))),(5,ent 1000000001 (.one (.wh 16))),(0,ent 0 (.one (.wh 0))),(1,ent 2 (.one (.wh 1)))]
  M i := JMa 16 1000000002 (Zg A B i) :: JSA A B
  out _ := .leaf (.exit 0) [(5,ent 18 (.one (.wh 16)))] (JMa 16 19 (Zg A B A.length) :: JSA A B)
  fin _ := ()
  next i _ := i + 1
  J i := i ≤ A.length ∧ rng A ∧ rng B ∧ A.length + B.length ≤ 1000000
  μ i := A.length - i
section
variable (A B:Dg) (i:Nat)
def JOu:Prop:=
 decide (Int.ofNat i < Int.ofNat (List.length A)) = true
def Jd8:Prop:=
 List.length A + List.length B ≤ 1000000
def k9:Int:=
 IntKind.i64.wrap (Int.ofNat (Int.ofNat i).toNat + Int.ofNat (List.length B))
def JGH:Prop:=
 (k9 B i).toNat < List.length (Xu (dg A (Int.ofNat i).toNat) B (Zg A B i) (Int.ofNat i).toNat (List.length B)).fst
def JRG:List Int:=
 List.getD (Xu (dg A (Int.ofNat i).toNat) B (Zg A B i) (Int.ofNat i).toNat (List.length B)).fst (k9 B i).toNat []
end
def JHI (A:Dg) (B:Dg) (i:Nat):List Prop :=
 [JOu A i → (0 ≤ List.length B ∧ (Int.ofNat i).toNat < List.length A ∧ (∀ (i:Nat),0 ≤ dg A i ∧ dg A i < 65536) ∧ (∀ (i:Nat),0 ≤ dg B i ∧ dg B i < 65536) ∧ (∀ (i_1:Nat),0 ≤ dg (Zg A B i) i_1 ∧ dg (Zg A B i) i_1 < 65536) ∧ List.length (Zg A B i) = List.length A + List.length B ∧ Jd8 A B) ∧ Int.ofNat 0 = 0 ∧ (Xu (dg A (Int.ofNat i).toNat) B (Zg A B i) (Int.ofNat i).toNat 0).snd = 0 ∧ Int.ofNat (Int.ofNat i).toNat = Int.ofNat i ∧ (Xu (dg A (Int.ofNat i).toNat) B (Zg A B i) (Int.ofNat i).toNat 0).fst = Zg A B i ∧ 0 ≤ k9 B i ∧ JGH A B i ∧ JGH A B i ∧ 0 ≤ k9 B i ∧ JGH A B i ∧ JGH A B i,JOu A i → ((JIi A B).next i 0 ≤ List.length A ∧ (∀ (i:Nat),0 ≤ dg A i ∧ dg A i < 65536) ∧ (∀ (i:Nat),0 ≤ dg B i ∧ dg B i < 65536) ∧ Jd8 A B) ∧ (JIi A B).μ ((JIi A B).next i 0) < (JIi A B).μ i ∧ (JIi A B).fin ((JIi A B).next i 0) = (JIi A B).fin i ∧ Int.ofNat ((JIi A B).next i 0) = IntKind.i64.wrap (Int.ofNat (Int.ofNat i).toNat + 1) ∧ Zg A B ((JIi A B).next i 0) = List.set (Xu (dg A (Int.ofNat i).toNat) B (Zg A B i) (Int.ofNat i).toNat (List.length B)).fst (k9 B i).toNat (JHw 1 0 0 [IntKind.u64.wrap ((JRG A B i).getD 0 0 + (Xu (dg A (Int.ofNat i).toNat) B (Zg A B i) (Int.ofNat i).toNat (List.length B)).snd)] (JRG A B i)),decide (Int.ofNat i < Int.ofNat (List.length A)) = false → Zg A B (List.length A) = Zg A B i]
theorem JaB (A B:Dg) (i:Nat) (hNeeds:∀ pN ∈ (JHI A B i),pN):Q3 (XF (JIi A B) (QR Tryz.prog (JE k6) JZa 138 0) 15 i) :=
  Q3.of (ps := (JHI A B i)) (by kernel_rfl) (by kernel_rfl) hNeeds
theorem JW7 (A B:Dg):Z0 (JIi A B) (QR Tryz.prog (JE k6) JZa 138 0) 15 := by
  intro i hJ
  obtain ⟨h1,hA,hB,h4⟩:i ≤ A.length ∧ rng A ∧ rng B ∧ A.length + B.length ≤ 1000000 := hJ
  have e0:(Int.ofNat i).toNat = i := rfl
  have e1:k9 B i = Int.ofNat (i + B.length) := by unfold k9; rw [e0,Wu (by simp; omega) (by simp; omega)]; simp
  have e2:(k9 B i).toNat = i + B.length := by rw [e1]; rfl
  have hl := KU A B i
  have hn:List.length (Xu (dg A i) B (Zg A B i) i B.length).fst = A.length + B.length := by rw [Y5,hl]
  have es:JOu A i → i < A.length := fun h => by simpa [JOu] using h
  have e3:JRG A B i = (Xu (dg A i) B (Zg A B i) i B.length).1.getD (i + B.length) [] := by unfold JRG; rw [e2,e0]
  refine JaB A B i fun q hq => ?_
  unfold JHI at hq
  simp only [List.mem_cons,List.not_mem_nil,or_false,e0] at hq
  rcases hq with rfl | rfl | rfl
  · intro h
    have hi := es h
    have e4:JGH A B i := by unfold JGH; rw [e2,e0,hn]; omega
    have e5:0 ≤ k9 B i := by rw [e1]; exact Int.natCast_nonneg _
    exact ⟨⟨Nat.zero_le _,hi,hA,hB,JEK hA hB i (by omega),hl,h4⟩,rfl,rfl,trivial,rfl,e5,e4,e4,e5,e4,e4⟩
  · intro h
    have hi := es h
    obtain ⟨hr,c1,c2⟩ := JJD (i := i) (hA i) hB (JEK hA hB i (by omega)) B.length (by omega)
    obtain ⟨d1,d2⟩ := hr (i + B.length)
    refine ⟨⟨hi,hA,hB,h4⟩,?_,trivial,?_,?_⟩
    · show A.length - (i + 1) < A.length - i; omega
    · rw [Wu (by simp; omega) (by simp; omega)]; rfl
    · rw [e2,e3]
      have:IntKind.u64.wrap (dg (Xu (dg A i) B (Zg A B i) i B.length).1 (i + B.length) + (Xu (dg A i) B (Zg A B i) i B.length).2) = dg (Xu (dg A i) B (Zg A B i) i B.length).1 (i + B.length) + (Xu (dg A i) B (Zg A B i) i B.length).2 := zI (by omega) (by omega)
      show _ = List.set _ _ [IntKind.u64.wrap (dg (Xu (dg A i) B (Zg A B i) i B.length).1 (i + B.length) + (Xu (dg A i) B (Zg A B i) i B.length).2)]
      rw [this]; rfl
  · intro h
    have:i = A.length := by simp at h; omega
    rw [this]
def JgG:Q5 := fun env mem m => match JPF [.int .u64] env mem 0,JPF [.int .u64] env mem 1 with
  | some A,some B => qS (JIi A B) 15 (fun _ _ => some 0) env mem m
  | _,_ => none
def QN:FuncId → Nat → Option Q5 := kR JZa 138 3 JgG
theorem JKI:Known Tryz.prog (JE k6) QN := by
  refine Qc 0 JKx (by kernel_rfl) (Z5 fun env mem m x h => ?_)
  unfold JgG at h
  have hlen:(QC Tryz.prog 138).length = 2 := by kernel_rfl
  split at h
  · exact ⟨_,XX (Qg XB JKx (by omega)) (JW7 _ _),h⟩
  · cases h
def JAu:Tpl := ⟨[.one (.wh 0),.one (.wh 1)],[(0,.row false 140 1 2 [.int .u64]),(1,.row false 140 1 3 [.int .u64])],4⟩
def kr (A B:LL):Dg :=
 JCD (Zg A B A.length)
def zg (A B:LL):Int :=
 IntKind.i64.wrap (Int.ofNat A.length + Int.ofNat B.length)
def za (A B:LL):List Prop :=
 [0 ≤ zg A B,((zg A B).toNat + 0) * 8 ≤ 140737488355328,(zg A B).toNat + 0 ≤ 9223372036854775807,0 ≤ A.length ∧ (∀ (i:Nat),0 ≤ dg A i ∧ dg A i < 65536) ∧ (∀ (i:Nat),0 ≤ dg B i ∧ dg B i < 65536) ∧ A.length + B.length ≤ 1000000,Int.ofNat 0 = 0,Zg A B 0 = List.replicate (zg A B).toNat [0],List.length (Zg A B A.length) ≤ 1000000]
theorem JaV {A:LL} {B:LL} (hW:∀ q ∈ ([rng A,rng B,A.length + B.length ≤ 1000000]:List Prop),q):∀ q ∈ (za A B),q := by
  simp only [awc,awn,and_true] at hW
  intro q hq
  unfold za at hq
  simp only [List.mem_cons,List.not_mem_nil,or_false] at hq
  obtain ⟨hA,hB,h⟩ := hW
  have e:zg A B = Int.ofNat (A.length + B.length) := by unfold zg; rw [Wu (by simp; omega) (by simp; omega)]; simp
  have e2:(zg A B).toNat = A.length + B.length := by rw [e]; rfl
  rcases hq with rfl | rfl | rfl | rfl | rfl | rfl | rfl
  · rw [e]; exact Int.natCast_nonneg _
  · rw [e2]; omega
  · rw [e2]; omega
  · exact ⟨Nat.zero_le _,hA,hB,h⟩
  · rfl
  · rw [e2]; rfl
  · rw [KU]; exact h
def JZw (A B:LL):Je :=
 [(41,Obj.row false 140 1 (RowC.lst 44 [CK.int IntKind.u64] (kr A B))),(0,Obj.row false 140 1 (RowC.lst 2 [CK.int IntKind.u64] A)),(1,Obj.row false 140 1 (RowC.lst 3 [CK.int IntKind.u64] B))]
theorem JbO (A B:LL) (hNeeds:∀ pN ∈ (za A B),pN):Runs (Jl (JE k6) QN 138) (JAu.args []) (JAu.memo [] [A,B]) JAu.n (SV.one (SC.wh 41)) (JZw A B) :=
  Runs.of1 (ps := (za A B)) (by kernel_rfl) hNeeds
def JLe:List Pm → Qs → Option CRes
  | [],[A,B] => some ⟨SV.one (SC.wh 41),
 JZw A B,[rng A,rng B,A.length + B.length ≤ 1000000],[],63⟩
  | _,_ => none
theorem JfM:Qf Tryz.prog 138 (JP JAu JLe) := by
  refine JI (JF JKI 138) fun ps ls r hr hn _ => ?_
  unfold JLe at hr
  split at hr
  · cases hr; exact ⟨_,JbO _ _ (JaV (by exact hn)),fun _ => rfl⟩
  · cases hr
def JVN:List (Nat × JU) := (138,JP JAu JLe) :: k6
theorem JLT:Known Tryz.prog (JE JVN) QN := J4 JKI JfM
def jx:Tpl := ⟨[.one (.int .i64),.one (.int .i64)],[],0⟩
def jT (a b:Int):List Prop :=
 [0 ≤ JA a,JA a < 18446744073709551616,0 ≤ JA b,JA b < 18446744073709551616,∀ (i:Nat),0 ≤ dg (Z7 (JA a)) i ∧ dg (Z7 (JA a)) i < 65536,∀ (i:Nat),0 ≤ dg (Z7 (JA b)) i ∧ dg (Z7 (JA b)) i < 65536,List.length (Z7 (JA a)) + List.length (Z7 (JA b)) ≤ 1000000]
theorem JXq {a:Int} {b:Int} (hW:∀ q ∈ ([KI a,KI b]:List Prop),q):∀ q ∈ (jT a b),q := by
  simp only [awc,awn,and_true] at hW
  intro q hq
  unfold jT at hq
  simp only [List.mem_cons,List.not_mem_nil,or_false] at hq
  obtain ⟨ha,hb⟩ := hW
  obtain ⟨a1,a2⟩ := X4 ha
  obtain ⟨b1,b2⟩ := X4 hb
  have la:(Z7 (JA a)).length ≤ 4 := by rw [Z7,Yc]; exact (jY a1 a2 (j := 0) (by omega)).2
  have lb:(Z7 (JA b)).length ≤ 4 := by rw [Z7,Yc]; exact (jY b1 b2 (j := 0) (by omega)).2
  rcases hq with rfl | rfl | rfl | rfl | rfl | rfl | rfl
  · exact a1
  · exact a2
  · exact b1
  · exact b2
  · exact JE5 _ _
  · exact JE5 _ _
  · omega
theorem JWH (a b:Int) (hNeeds:∀ pN ∈ (jT a b),pN):Runs (Jl (JE JVN) QN 112) (jx.args [.i a,.i b]) (jx.memo [.i a,.i b] []) jx.n (SV.one (SC.wh 120)) ([(120,Obj.row false 140 1 (RowC.lst 123 [CK.int IntKind.u64] (kr (Z7 (JA a)) (Z7 (JA b)))))]) :=
  Runs.of1 (ps := (jT a b)) (by kernel_rfl) hNeeds
def JFt:List Pm → Qs → Option CRes
  | [.i a,.i b],[] => some ⟨SV.one (SC.wh 120),
 [(120,Obj.row false 140 1 (RowC.lst 123 [CK.int IntKind.u64] (kr (Z7 (JA a)) (Z7 (JA b)))))],[KI a,KI b],[],144⟩
  | _,_ => none
theorem JeB:Qf Tryz.prog 112 (JP jx JFt) := by
  refine JI (JF JLT 112) fun ps ls r hr hn _ => ?_
  unfold JFt at hr
  split at hr
  · cases hr; exact ⟨_,JWH _ _ (JXq (by exact hn)),fun _ => rfl⟩
  · cases hr
def JPx:List (Nat × JU) := (112,JP jx JFt) :: JVN
theorem JHt:Known Tryz.prog (JE JPx) QN := J4 JLT JeB
def JAj:Tpl := ⟨[.one (.int .i64),.one (.int .i64),.one (.int .i64),.one (.int .i64)],[],0⟩
def JHL (a b c d:Int):Int :=
 bif decide (Qk a b < Qk c d) then -1 else bif decide (Qk a b > Qk c d) then 1 else IntKind.i64.wrap (Qk a b * JVn (kr (Z7 (JA a)) (Z7 (JA b))) (kr (Z7 (JA c)) (Z7 (JA d))))
def zk (a b c d:Int):List Prop :=
 [decide (Qk a b < Qk c d) = false → decide (Qk a b > Qk c d) = false → (-9223372036854775808 ≤ a ∧ a < 9223372036854775808) ∧ (-9223372036854775808 ≤ b ∧ b < 9223372036854775808) ∧ (-9223372036854775808 ≤ c ∧ c < 9223372036854775808) ∧ (-9223372036854775808 ≤ d ∧ d < 9223372036854775808) ∧ List.length (kr (Z7 (JA a)) (Z7 (JA b))) ≤ 1000000]
theorem JfW (a b c d:Int) (ha:KI a) (hb:KI b) (hc:KI c) (hd:KI d):(JHL a b c d) = X7 (a * b) (c * d) := by
  unfold JHL
  obtain ⟨x1,x2,x3⟩ := JU5 (X4 ha) (X4 hb)
  obtain ⟨y1,y2,y3⟩ := JU5 (X4 hc) (X4 hd)
  have h0 := JfJ x1 y1 x2 y2
  rw [x3,y3] at h0
  unfold JUj at h0
  unfold kr
  rw [h0,Ka a ha,Ka b hb,Ka c hc,Ka d hd]
  have s1 := JFF a b
  have s2 := JFF c d
  generalize (if a < 0 then -a else a) * (if b < 0 then -b else b) = X at *
  generalize (if c < 0 then -c else c) * (if d < 0 then -d else d) = Y at *
  generalize a * b = P at *
  generalize c * d = Q at *
  have w:∀ x:Int,-1 ≤ x ∧ x ≤ 1 → IntKind.i64.wrap x = x := fun x h => Wu (by omega) (by omega)
  have hcm:X7 X Y = -1 ∧ X < Y ∨ X7 X Y = 0 ∧ X = Y ∨ X7 X Y = 1 ∧ Y < X := by unfold X7; (repeat' split) <;> omega
  have hcp:X7 P Q = -1 ∧ P < Q ∨ X7 P Q = 0 ∧ P = Q ∨ X7 P Q = 1 ∧ Q < P := by unfold X7; (repeat' split) <;> omega
  clear h0
  generalize X7 X Y = m at *
  generalize X7 P Q = n at *
  rcases s1 with ⟨e1,p1⟩ | ⟨e1,p1,q1⟩ | ⟨e1,p1,q1⟩ <;> rcases s2 with ⟨e2,p2⟩ | ⟨e2,p2,q2⟩ | ⟨e2,p2,q2⟩ <;> rw [e1,e2]
  · show IntKind.i64.wrap (0 * m) = n; rw [w _ (by omega)]; omega
  · show (-1:Int) = n; omega
  · show (1:Int) = n; omega
  · show (1:Int) = n; omega
  · show IntKind.i64.wrap (1 * m) = n; rw [w _ (by omega)]; omega
  · show (1:Int) = n; omega
  · show (-1:Int) = n; omega
  · show (-1:Int) = n; omega
  · show IntKind.i64.wrap (-1 * m) = n; rw [w _ (by omega)]; omega
theorem Jb3 {a:Int} {b:Int} {c:Int} {d:Int} (hW:∀ q ∈ ([KI a,KI b,KI c,KI d]:List Prop),q):∀ q ∈ (zk a b c d),q := by
  simp only [awc,awn,and_true] at hW
  intro q hq
  unfold zk at hq
  simp only [List.mem_cons,List.not_mem_nil,or_false] at hq
  obtain ⟨ha,hb,hc,hd⟩ := hW
  subst hq
  intro _ _
  refine ⟨ha,hb,hc,hd,?_⟩
  obtain ⟨a1,a2⟩ := X4 ha
  obtain ⟨b1,b2⟩ := X4 hb
  have la:(Z7 (JA a)).length ≤ 4 := by rw [Z7,Yc]; exact (jY a1 a2 (j := 0) (by omega)).2
  have lb:(Z7 (JA b)).length ≤ 4 := by rw [Z7,Yc]; exact (jY b1 b2 (j := 0) (by omega)).2
  unfold kr
  rw [JTC]
  have := JRI (Zg (Z7 (JA a)) (Z7 (JA b)) (Z7 (JA a)).length) (Zg (Z7 (JA a)) (Z7 (JA b)) (Z7 (JA a)).length).length
  rw [KU] at this
  rw [KU]
  omega
theorem Ja8 (a b c d:Int) (hNeeds:∀ pN ∈ (zk a b c d),pN):Runs (Jl (JE JPx) QN 81) (JAj.args [.i a,.i b,.i c,.i d]) (JAj.memo [.i a,.i b,.i c,.i d] []) JAj.n (SV.one (Ci (JHL a b c d))) ([]) :=
  Runs.of1 (ps := (zk a b c d)) (by kernel_rfl) hNeeds
def JKU:List Pm → Qs → Option CRes
  | [.i a,.i b,.i c,.i d],[] => some ⟨SV.one (Ci (JHL a b c d)),
 [],[KI a,KI b,KI c,KI d],[],394⟩
  | _,_ => none
theorem JfI:Qf Tryz.prog 81 (JP JAj JKU) := by
  refine JI (JF JHt 81) fun ps ls r hr hn _ => ?_
  unfold JKU at hr
  split at hr
  · cases hr; exact ⟨_,Ja8 _ _ _ _ (Jb3 (by exact hn)),fun _ => rfl⟩
  · cases hr
def JWE:List (Nat × JU) := (81,JP JAj JKU) :: JPx
theorem JLE:Known Tryz.prog (JE JWE) QN := J4 JHt JfI
def kV:Tpl := ⟨[.one (.int .i64)],[],0⟩
def XZ (k:Int):Bool :=
  decide (k ≥ 1) && decide (k ≤ 6)
theorem JaY (k:Int):Runs (Jl (JE JWE) QN 30) (kV.args [.i k]) (kV.memo [.i k] []) kV.n (SV.one (SC.bool (SB.v (XZ k))))
    ([]) :=
  Runs.of1 (ps := []) (by kernel_rfl) (by simp)
def JKd:List Pm → Qs → Option CRes
  | [.i k],[] => some ⟨SV.one (SC.bool (SB.v (XZ k))),
    [],
    [],[],8⟩
  | _,_ => none
theorem JfL:Qf Tryz.prog 30 (JP kV JKd) := by
  refine JI (JF JLE 30) fun ps ls r hr hn _ => ?_
  unfold JKd at hr
  split at hr
  · cases hr; exact ⟨_,JaY _,fun _ => rfl⟩
  · cases hr
def JVJ:List (Nat × JU) := (30,JP kV JKd) :: JWE
theorem JMK:Known Tryz.prog (JE JVJ) QN := J4 JLE JfL
def JAG:Tpl := ⟨[.one (.int .i64),.one (.int .i64)],[],0⟩
def JGS (n:Int) (m:Int):Bool :=
  decide (n ≥ IntKind.i64.wrap (0 - m)) && decide (n ≤ m)
theorem JaO (n m:Int):Runs (Jl (JE JVJ) QN 55) (JAG.args [.i n,.i m]) (JAG.memo [.i n,.i m] []) JAG.n (SV.one (SC.bool (SB.v (JGS n m))))
    ([]) :=
  Runs.of1 (ps := []) (by kernel_rfl) (by simp)
def JM6:List Pm → Qs → Option CRes
  | [.i n,.i m],[] => some ⟨SV.one (SC.bool (SB.v (JGS n m))),
    [],
    [],[],11⟩
  | _,_ => none
theorem Jfu:Qf Tryz.prog 55 (JP JAG JM6) := by
  refine JI (JF JMK 55) fun ps ls r hr hn _ => ?_
  unfold JM6 at hr
  split at hr
  · cases hr; exact ⟨_,JaO _ _,fun _ => rfl⟩
  · cases hr
def JWk:List (Nat × JU) := (55,JP JAG JM6) :: JVJ
theorem JLW:Known Tryz.prog (JE JWk) QN := J4 JMK Jfu
def KW:Tpl := ⟨[.agg [.int .i64,.int .i64,.int .i64]],[],0⟩
def XI (a:Int) (b:Int) (c:Int):Bool :=
  JGS a 1048576 && JGS b 1048576 && JGS c 1048576
theorem JMd (a b c:Int):Runs (Jl (JE JWk) QN 41) (KW.args [.i a,.i b,.i c]) (KW.memo [.i a,.i b,.i c] []) KW.n (SV.one (SC.bool (SB.v (XI a b c))))
    ([]) :=
  Runs.of1 (ps := []) (by kernel_rfl) (by simp)
def ze:List Pm → Qs → Option CRes
  | [.i a,.i b,.i c],[] => some ⟨SV.one (SC.bool (SB.v (XI a b c))),
    [],
    [],[],53⟩
  | _,_ => none
theorem JUs:Qf Tryz.prog 41 (JP KW ze) := by
  refine JI (JF JLW 41) fun ps ls r hr hn _ => ?_
  unfold ze at hr
  split at hr
  · cases hr; exact ⟨_,JMd _ _ _,fun _ => rfl⟩
  · cases hr
def JCl:List (Nat × JU) := (41,JP KW ze) :: JWk
theorem JAU:Known Tryz.prog (JE JCl) QN := J4 JLW JUs
def Ya:Tpl := ⟨[.one (.int .i64)],[],0⟩
def WI (p:Int):Bool :=
  p == 17 || p == 18 || p == 19
theorem JOm (p:Int):Runs (Jl (JE JCl) QN 42) (Ya.args [.i p]) (Ya.memo [.i p] []) Ya.n (SV.one (SC.bool (SB.v (WI p))))
    ([]) :=
  Runs.of1 (ps := []) (by kernel_rfl) (by simp)
def JAO:List Pm → Qs → Option CRes
  | [.i p],[] => some ⟨SV.one (SC.bool (SB.v (WI p))),
    [],
    [],[],12⟩
  | _,_ => none
theorem JVE:Qf Tryz.prog 42 (JP Ya JAO) := by
  refine JI (JF JAU 42) fun ps ls r hr hn _ => ?_
  unfold JAO at hr
  split at hr
  · cases hr; exact ⟨_,JOm _,fun _ => rfl⟩
  · cases hr
def JHB:List (Nat × JU) := (42,JP Ya JAO) :: JCl
theorem JBw:Known Tryz.prog (JE JHB) QN := J4 JAU JVE
def Wm:Tpl := ⟨[.one (.int .i64),.agg [.int .i64,.int .i64,.int .i64]],[],0⟩
section
variable (p a b c:Int)
def ZS:Int:=
  bif p == 17 then a else bif p == 18 then c else bif p == 19 then b else 0
def ZQ:Int:=
  bif p == 17 then b else bif p == 18 then a else bif p == 19 then c else 0
def qu:Int:=
  bif p == 17 then c else bif p == 18 then b else bif p == 19 then a else 0
def JDl:Bool:=
  p == 17 || (p == 18 || p == 19)
end
theorem JRX (p a b c:Int):Runs (Jl (JE JHB) QN 77) (Wm.args [.i p,.i a,.i b,.i c]) (Wm.memo [.i p,.i a,.i b,.i c] []) Wm.n (SV.tup
    [(true,[SC.int IntKind.i64 (SI.v (ZS p a b c)),SC.int IntKind.i64 (SI.v (ZQ p a b c))]),(false,[SC.int IntKind.i64 (SI.v (qu p a b c))]),
     (false,[SC.bool (SB.v (JDl p))])])
    ([]) :=
  Runs.of1 (ps := []) (by kernel_rfl) (by simp)
def JD0:List Pm → Qs → Option CRes
  | [.i p,.i a,.i b,.i c],[] => some ⟨SV.tup
    [(true,[SC.int IntKind.i64 (SI.v (ZS p a b c)),SC.int IntKind.i64 (SI.v (ZQ p a b c))]),(false,[SC.int IntKind.i64 (SI.v (qu p a b c))]),
     (false,[SC.bool (SB.v (JDl p))])],
    [],
    [],[],66⟩
  | _,_ => none
theorem JbW:Qf Tryz.prog 77 (JP Wm JD0) := by
  refine JI (JF JBw 77) fun ps ls r hr hn _ => ?_
  unfold JD0 at hr
  split at hr
  · cases hr; exact ⟨_,JRX _ _ _ _,fun _ => rfl⟩
  · cases hr
def JMA:List (Nat × JU) := (77,JP Wm JD0) :: JHB
theorem JEd:Known Tryz.prog (JE JMA) QN := J4 JBw JbW
def JAK:Tpl := ⟨[.one (.int .i64),.agg [.int .i64,.int .i64,.int .i64]],[],0⟩
theorem Jbc (p a b c:Int):Runs (Jl (JE JMA) QN 78) (JAK.args [.i p,.i a,.i b,.i c]) (JAK.memo [.i p,.i a,.i b,.i c] []) JAK.n (SV.agg [SC.int IntKind.i64 (SI.v (ZS p a b c)),SC.int IntKind.i64 (SI.v (ZQ p a b c))])
    ([]) :=
  Runs.of1 (ps := []) (by kernel_rfl) (by simp)
def JKJ:List Pm → Qs → Option CRes
  | [.i p,.i a,.i b,.i c],[] => some ⟨SV.agg [SC.int IntKind.i64 (SI.v (ZS p a b c)),SC.int IntKind.i64 (SI.v (ZQ p a b c))],
    [],
    [],[],95⟩
  | _,_ => none
theorem Jfy:Qf Tryz.prog 78 (JP JAK JKJ) := by
  refine JI (JF JEd 78) fun ps ls r hr hn _ => ?_
  unfold JKJ at hr
  split at hr
  · cases hr; exact ⟨_,Jbc _ _ _ _,fun _ => rfl⟩
  · cases hr
def JVy:List (Nat × JU) := (78,JP JAK JKJ) :: JMA
theorem JJq:Known Tryz.prog (JE JVy) QN := J4 JEd Jfy
def JEy:Tpl := ⟨[.one (.int .i64),.agg [.int .i64,.int .i64,.int .i64]],[],0⟩
theorem Jc5 (p a b c:Int):Runs (Jl (JE JVy) QN 56) (JEy.args [.i p,.i a,.i b,.i c]) (JEy.memo [.i p,.i a,.i b,.i c] []) JEy.n (SV.one (SC.int IntKind.i64 (SI.v (qu p a b c))))
    ([]) :=
  Runs.of1 (ps := []) (by kernel_rfl) (by simp)
def JP7:List Pm → Qs → Option CRes
  | [.i p,.i a,.i b,.i c],[] => some ⟨SV.one (SC.int IntKind.i64 (SI.v (qu p a b c))),
    [],
    [],[],90⟩
  | _,_ => none
theorem JhT:Qf Tryz.prog 56 (JP JEy JP7) := by
  refine JI (JF JJq 56) fun ps ls r hr hn _ => ?_
  unfold JP7 at hr
  split at hr
  · cases hr; exact ⟨_,Jc5 _ _ _ _,fun _ => rfl⟩
  · cases hr
def Jc3:List (Nat × JU) := (56,JP JEy JP7) :: JVy
theorem JO4:Known Tryz.prog (JE Jc3) QN := J4 JJq JhT
def Yt:Tpl := ⟨[.one (.int .i64),.agg [.int .i64,.int .i64],.one (.int .i64)],[],0⟩
section
variable (p u w h:Int)
def Kz:Int:=
  bif p == 17 then u else bif p == 18 then w else bif p == 19 then h else 0
def Kg:Int:=
  bif p == 17 then w else bif p == 18 then h else bif p == 19 then u else 0
def Kl:Int:=
  bif p == 17 then h else bif p == 18 then u else bif p == 19 then w else 0
end
theorem JR0 (p u w h:Int):Runs (Jl (JE Jc3) QN 76) (Yt.args [.i p,.i u,.i w,.i h]) (Yt.memo [.i p,.i u,.i w,.i h] []) Yt.n (SV.tup [(true,[SC.int IntKind.i64 (SI.v (Kz p u w h)),SC.int IntKind.i64 (SI.v (Kg p u w h)),SC.int IntKind.i64 (SI.v (Kl p u w h))]),(false,[SC.bool (SB.v (JDl p))])])
    ([]) :=
  Runs.of1 (ps := []) (by kernel_rfl) (by simp)
def JAp:List Pm → Qs → Option CRes
  | [.i p,.i u,.i w,.i h],[] => some ⟨SV.tup [(true,[SC.int IntKind.i64 (SI.v (Kz p u w h)),SC.int IntKind.i64 (SI.v (Kg p u w h)),SC.int IntKind.i64 (SI.v (Kl p u w h))]),(false,[SC.bool (SB.v (JDl p))])],
    [],
    [],[],65⟩
  | _,_ => none
theorem JXx:Qf Tryz.prog 76 (JP Yt JAp) := by
  refine JI (JF JO4 76) fun ps ls r hr hn _ => ?_
  unfold JAp at hr
  split at hr
  · cases hr; exact ⟨_,JR0 _ _ _ _,fun _ => rfl⟩
  · cases hr
def JFm:List (Nat × JU) := (76,JP Yt JAp) :: Jc3
theorem JBg:Known Tryz.prog (JE JFm) QN := J4 JO4 JXx
def JAk:Tpl := ⟨[.one (.int .i64),.agg [.int .i64,.int .i64],.one (.int .i64)],[],0⟩
theorem Ja4 (p u w h:Int):Runs (Jl (JE JFm) QN 53) (JAk.args [.i p,.i u,.i w,.i h]) (JAk.memo [.i p,.i u,.i w,.i h] []) JAk.n (SV.agg [SC.int IntKind.i64 (SI.v (Kz p u w h)),SC.int IntKind.i64 (SI.v (Kg p u w h)),SC.int IntKind.i64 (SI.v (Kl p u w h))])
    ([]) :=
  Runs.of1 (ps := []) (by kernel_rfl) (by simp)
def JLB:List Pm → Qs → Option CRes
  | [.i p,.i u,.i w,.i h],[] => some ⟨SV.agg [SC.int IntKind.i64 (SI.v (Kz p u w h)),SC.int IntKind.i64 (SI.v (Kg p u w h)),SC.int IntKind.i64 (SI.v (Kl p u w h))],
    [],
    [],[],96⟩
  | _,_ => none
theorem Jg1:Qf Tryz.prog 53 (JP JAk JLB) := by
  refine JI (JF JBg 53) fun ps ls r hr hn _ => ?_
  unfold JLB at hr
  split at hr
  · cases hr; exact ⟨_,Ja4 _ _ _ _,fun _ => rfl⟩
  · cases hr
def JWC:List (Nat × JU) := (53,JP JAk JLB) :: JFm
theorem JKN:Known Tryz.prog (JE JWC) QN := J4 JBg Jg1
def JEv:Tpl := ⟨[.agg [.int .i64,.int .i64],.agg [.int .i64,.int .i64],.one (.bool)],[],0⟩
section
variable (a b c d:Int) (e:Bool)
def Yw:Int:=
  bif decide (J7 a b a b > J7 c d c d) then J7 c d c d else J7 a b a b
def KZ:Int:=
  IntKind.i64.wrap (IntKind.i64.wrap ((bif decide (J7 a b a b > J7 c d c d) then J7 a b a b else J7 c d c d) - Yw a b c d) - 16)
def JNV:Bool:=
  bif decide (Yw a b c d < 64) then false
  else
   bif decide (KZ a b c d > 0) && decide (JHL (KZ a b c d) (KZ a b c d) 64 (Yw a b c d) > 0) then false
   else bif e then a == c && b == d else !(QQ a b c d == 0 && decide (J7 a b c d > 0))
def JOe:Prop:=
  decide (KZ a b c d > 0) = true
def JAz:List Prop:=
  [decide (Yw a b c d < 64) = false →
   (JOe a b c d → -9223372036854775808 ≤ KZ a b c d ∧ KZ a b c d < 9223372036854775808) ∧
   (JOe a b c d → -9223372036854775808 ≤ KZ a b c d ∧ KZ a b c d < 9223372036854775808) ∧
   (JOe a b c d → -9223372036854775808 ≤ 64 ∧ Int.ofNat 64 < 9223372036854775808) ∧ (JOe a b c d → -9223372036854775808 ≤ Yw a b c d ∧ Yw a b c d < 9223372036854775808)]
end
theorem Jen {a:Int} {b:Int} {c:Int} {d:Int}:∀ q ∈ (JAz a b c d),q := by
  intro q hq
  unfold JAz at hq
  simp only [List.mem_cons,List.not_mem_nil,or_false] at hq
  subst hq
  intro _
  have h0:KI (Yw a b c d) := by
    unfold Yw
    cases decide (J7 a b a b > J7 c d c d)
    · exact ZH _
    · exact ZH _
  have h1:KI (KZ a b c d) := ZH _
  exact ⟨fun _ => h1,fun _ => h1,fun _ => ⟨by decide,by decide⟩,fun _ => h0⟩
theorem JeM (a b c d:Int) (e:Bool) (hNeeds:∀ pN ∈ (JAz a b c d),pN):Runs (Jl (JE JWC) QN 58) (JEv.args [.i a,.i b,.i c,.i d,.b e]) (JEv.memo [.i a,.i b,.i c,.i d,.b e] []) JEv.n (SV.one (SC.bool (SB.v (JNV a b c d e))))
    ([]) :=
  Runs.of1 (ps := (JAz a b c d)) (by kernel_rfl) hNeeds
def JQU:List Pm → Qs → Option CRes
  | [.i a,.i b,.i c,.i d,.b e],[] => some ⟨SV.one (SC.bool (SB.v (JNV a b c d e))),
    [],
    [],[],539⟩
  | _,_ => none
theorem Jgz:Qf Tryz.prog 58 (JP JEv JQU) := by
  refine JI (JF JKN 58) fun ps ls r hr hn _ => ?_
  unfold JQU at hr
  split at hr
  · cases hr; exact ⟨_,JeM _ _ _ _ _ (fun p hp => Jen p hp),fun _ => rfl⟩
  · cases hr
def JcY:List (Nat × JU) := (58,JP JEv JQU) :: JWC
theorem JNN:Known Tryz.prog (JE JcY) QN := J4 JKN Jgz
def YN:Tpl := ⟨[.agg [.int .i64,.int .i64,.int .i64,.int .i64,.int .i64,.int .i64,.int .i64,.int .i64,.int .i64,.int .i64,.int .i64,.int .i64,.int .i64,.bool,.int .i64,.bool,.int .i64,.int .i64,.int .i64,.int .i64,.int .i64,.bool]],[],0⟩
theorem JPk (k bl f0 f1 f2 t0 t1 t2 p c0 c1 c2 d:Int) (fu:Bool) (fe:Int) (pr:Bool) (si ra be n sp:Int) (on:Bool):Runs (Jl (JE JcY) QN 57) (YN.args [.i k,.i bl,.i f0,.i f1,.i f2,.i t0,.i t1,.i t2,.i p,.i c0,.i c1,.i c2,.i d,.b fu,.i fe,.b pr,.i si,.i ra,.i be,.i n,.i sp,.b on]) (YN.memo [.i k,.i bl,.i f0,.i f1,.i f2,.i t0,.i t1,.i t2,.i p,.i c0,.i c1,.i c2,.i d,.b fu,.i fe,.b pr,.i si,.i ra,.i be,.i n,.i sp,.b on] []) YN.n (SV.tup
    [(true,[SC.int IntKind.i64 (SI.v (J3 (ZS p f0 f1 f2) (ZS p c0 c1 c2))),SC.int IntKind.i64 (SI.v (J3 (ZQ p f0 f1 f2) (ZQ p c0 c1 c2)))]),
     (true,[SC.int IntKind.i64 (SI.v (J3 (ZS p t0 t1 t2) (ZS p c0 c1 c2))),SC.int IntKind.i64 (SI.v (J3 (ZQ p t0 t1 t2) (ZQ p c0 c1 c2)))])])
    ([]) :=
  Runs.of1 (ps := []) (by kernel_rfl) (by simp)
def JAn:List Pm → Qs → Option CRes
  | [.i k,.i bl,.i f0,.i f1,.i f2,.i t0,.i t1,.i t2,.i p,.i c0,.i c1,.i c2,.i d,.b fu,.i fe,.b pr,.i si,.i ra,.i be,.i n,.i sp,.b on],[] => some ⟨SV.tup
    [(true,[SC.int IntKind.i64 (SI.v (J3 (ZS p f0 f1 f2) (ZS p c0 c1 c2))),SC.int IntKind.i64 (SI.v (J3 (ZQ p f0 f1 f2) (ZQ p c0 c1 c2)))]),
     (true,[SC.int IntKind.i64 (SI.v (J3 (ZS p t0 t1 t2) (ZS p c0 c1 c2))),SC.int IntKind.i64 (SI.v (J3 (ZQ p t0 t1 t2) (ZQ p c0 c1 c2)))])],
    [],
    [],[],401⟩
  | _,_ => none
theorem JY2:Qf Tryz.prog 57 (JP YN JAn) := by
  refine JI (JF JNN 57) fun ps ls r hr hn _ => ?_
  unfold JAn at hr
  split at hr
  · cases hr; exact ⟨_,JPk _ _ _ _ _ _ _ _ _ _ _ _ _ _ _ _ _ _ _ _ _ _,fun _ => rfl⟩
  · cases hr
def JH9:List (Nat × JU) := (57,JP YN JAn) :: JcY
theorem JC7:Known Tryz.prog (JE JH9) QN := J4 JNN JY2
def WM:Tpl := ⟨[.agg [.int .i64,.int .i64,.int .i64,.int .i64,.int .i64,.int .i64,.int .i64,.int .i64,.int .i64,.int .i64,.int .i64,.int .i64,.int .i64,.bool,.int .i64,.bool,.int .i64,.int .i64,.int .i64,.int .i64,.int .i64,.bool]],[],0⟩
def JAQ (k:Int) (f0:Int) (f1:Int) (f2:Int) (t0:Int) (t1:Int) (t2:Int) (p:Int) (c0:Int) (c1:Int) (c2:Int) (d:Int) (fu:Bool):Int :=
  bif k != 3 || !WI p || !XI f0 f1 f2 || !XI t0 t1 t2 || !XI c0 c1 c2 || d != 1 && d != -1 || qu p f0 f1 f2 != qu p c0 c1 c2 then 1
  else
   bif
   !JNV (J3 (ZS p f0 f1 f2) (ZS p c0 c1 c2)) (J3 (ZQ p f0 f1 f2) (ZQ p c0 c1 c2)) (J3 (ZS p t0 t1 t2) (ZS p c0 c1 c2))
   (J3 (ZQ p t0 t1 t2) (ZQ p c0 c1 c2)) fu then
   12
   else 0
theorem JSt (k bl f0 f1 f2 t0 t1 t2 p c0 c1 c2 d:Int) (fu:Bool) (fe:Int) (pr:Bool) (si ra be n sp:Int) (on:Bool):Runs (Jl (JE JH9) QN 44) (WM.args [.i k,.i bl,.i f0,.i f1,.i f2,.i t0,.i t1,.i t2,.i p,.i c0,.i c1,.i c2,.i d,.b fu,.i fe,.b pr,.i si,.i ra,.i be,.i n,.i sp,.b on]) (WM.memo [.i k,.i bl,.i f0,.i f1,.i f2,.i t0,.i t1,.i t2,.i p,.i c0,.i c1,.i c2,.i d,.b fu,.i fe,.b pr,.i si,.i ra,.i be,.i n,.i sp,.b on] []) WM.n (SV.one (SC.int IntKind.i64 (SI.v (JAQ k f0 f1 f2 t0 t1 t2 p c0 c1 c2 d fu))))
    ([]) :=
  Runs.of1 (ps := []) (by kernel_rfl) (by simp)
def JCx:List Pm → Qs → Option CRes
  | [.i k,.i bl,.i f0,.i f1,.i f2,.i t0,.i t1,.i t2,.i p,.i c0,.i c1,.i c2,.i d,.b fu,.i fe,.b pr,.i si,.i ra,.i be,.i n,.i sp,.b on],[] => some ⟨SV.one (SC.int IntKind.i64 (SI.v (JAQ k f0 f1 f2 t0 t1 t2 p c0 c1 c2 d fu))),
    [],
    [],[],1394⟩
  | _,_ => none
theorem Jaz:Qf Tryz.prog 44 (JP WM JCx) := by
  refine JI (JF JC7 44) fun ps ls r hr hn _ => ?_
  unfold JCx at hr
  split at hr
  · cases hr; exact ⟨_,JSt _ _ _ _ _ _ _ _ _ _ _ _ _ _ _ _ _ _ _ _ _ _,fun _ => rfl⟩
  · cases hr
def JLm:List (Nat × JU) := (44,JP WM JCx) :: JH9
theorem JDN:Known Tryz.prog (JE JLm) QN := J4 JC7 Jaz
def q6:Tpl := ⟨[.one (.int .i64),.one (.int .i64),.one (.int .i64)],[],0⟩
def Zj (n:Int) (m:Int) (k:Int):Bool :=
  decide (n ≥ m) && decide (n ≤ k)
theorem JVV (n m k:Int):Runs (Jl (JE JLm) QN 39) (q6.args [.i n,.i m,.i k]) (q6.memo [.i n,.i m,.i k] []) q6.n (SV.one (SC.bool (SB.v (Zj n m k))))
    ([]) :=
  Runs.of1 (ps := []) (by kernel_rfl) (by simp)
def JGT:List Pm → Qs → Option CRes
  | [.i n,.i m,.i k],[] => some ⟨SV.one (SC.bool (SB.v (Zj n m k))),
    [],
    [],[],10⟩
  | _,_ => none
theorem JdH:Qf Tryz.prog 39 (JP q6 JGT) := by
  refine JI (JF JDN 39) fun ps ls r hr hn _ => ?_
  unfold JGT at hr
  split at hr
  · cases hr; exact ⟨_,JVV _ _ _,fun _ => rfl⟩
  · cases hr
def JOn:List (Nat × JU) := (39,JP q6 JGT) :: JLm
theorem JHy:Known Tryz.prog (JE JOn) QN := J4 JDN JdH
def Yq:Tpl := ⟨[.agg [.int .i64,.int .i64,.int .i64,.int .i64,.int .i64,.int .i64,.int .i64,.int .i64,.int .i64,.int .i64,.int .i64,.int .i64,.int .i64,.bool,.int .i64,.bool,.int .i64,.int .i64,.int .i64,.int .i64,.int .i64,.bool]],[],0⟩
def zf:List GK := [.v QV]
section
variable (x:List GC)
def JG1:Int:=
  bif XZ (xi x 0) then xi x 2 else 0
def JGe:Int:=
  bif XZ (xi x 0) then xi x 3 else 0
def JGd:Int:=
  bif XZ (xi x 0) then xi x 4 else 0
def JFp:Int:=
  bif XZ (xi x 0) then xi x 5 else 0
def JGO:Int:=
  bif XZ (xi x 0) then xi x 6 else 0
def JH2:Int:=
  bif XZ (xi x 0) then xi x 7 else 0
def JGn:Int:=
  bif bif xi x 0 == 1 then xi x 0 == 1 else bif xi x 0 == 2 then xi x 0 == 2 else xi x 0 == 3 then xi x 8 else 0
def JGF:Int:=
  bif xi x 0 == 2 then 0 else bif xi x 0 == 3 then xi x 9 else 0
def JDC:Int:=
  bif xi x 0 == 2 then 0 else bif xi x 0 == 3 then xi x 10 else 0
def JC8:Int:=
  bif xi x 0 == 2 then 0 else bif xi x 0 == 3 then xi x 11 else 0
def JCg:Int:=
  bif xi x 0 == 2 then 0 else bif xi x 0 == 3 then xi x 12 else 0
def JD5:Bool:=
  bif xi x 0 == 2 then false else xi x 0 == 3 && xb x 13
def JCt:Int:=
  bif Zj (xi x 0) 2 6 then xi x 14 else 0
def JCV:Bool:=
  Zj (xi x 0) 2 6 && xb x 15
def JCy:Int:=
  bif bif xi x 0 == 1 then xi x 0 == 1 else bif xi x 0 == 2 then xi x 0 == 2 else xi x 0 == 3 then xi x 16 else 0
def JCM:Int:=
  bif bif xi x 0 == 1 then xi x 0 == 1 else bif xi x 0 == 2 then xi x 0 == 2 else xi x 0 == 3 then xi x 17 else 0
def JCN:Int:=
  bif xi x 0 == 2 then xi x 18 else bif xi x 0 == 3 then xi x 18 else 0
def JCo:Int:=
  bif xi x 0 == 2 then 0
  else
   bif xi x 0 == 3 then 0
   else
   bif bif xi x 0 == 6 then xi x 0 == 6 else bif xi x 0 == 7 then xi x 0 == 7 else xi x 0 == 11 then xi x 19
   else bif xi x 0 == 8 then xi x 19 else bif bif xi x 0 == 9 then xi x 0 == 9 else xi x 0 == 10 then xi x 19 else 0
def JCW:Int:=
  bif xi x 0 == 2 then 0 else bif xi x 0 == 3 then 0 else bif bif xi x 0 == 6 then xi x 0 == 6 else bif xi x 0 == 7 then xi x 0 == 7 else xi x 0 == 11 then 0 else bif xi x 0 == 8 then xi x 20 else 0
def JCu:Bool:=
  bif xi x 0 == 2 then false
  else
   bif xi x 0 == 3 then false
   else
   bif bif xi x 0 == 6 then xi x 0 == 6 else bif xi x 0 == 7 then xi x 0 == 7 else xi x 0 == 11 then false
   else bif xi x 0 == 8 then false else (bif xi x 0 == 9 then xi x 0 == 9 else xi x 0 == 10) && xb x 21
end
theorem JRM (x:List GC):Runs (Jl (JE JOn) QN 40) (Yq.args (Jp zf [.v x])) (Yq.memo (Jp zf [.v x]) []) Yq.n (SV.agg
    [SC.int IntKind.i64 (SI.v (xi x 0)),SC.int IntKind.i64 (SI.v (xi x 1)),SC.int IntKind.i64 (SI.v (JG1 x)),SC.int IntKind.i64 (SI.v (JGe x)),SC.int IntKind.i64 (SI.v (JGd x)),
     SC.int IntKind.i64 (SI.v (JFp x)),SC.int IntKind.i64 (SI.v (JGO x)),SC.int IntKind.i64 (SI.v (JH2 x)),SC.int IntKind.i64 (SI.v (JGn x)),
     SC.int IntKind.i64 (SI.v (JGF x)),SC.int IntKind.i64 (SI.v (JDC x)),SC.int IntKind.i64 (SI.v (JC8 x)),SC.int IntKind.i64 (SI.v (JCg x)),
     SC.bool (SB.v (JD5 x)),SC.int IntKind.i64 (SI.v (JCt x)),SC.bool (SB.v (JCV x)),SC.int IntKind.i64 (SI.v (JCy x)),SC.int IntKind.i64 (SI.v (JCM x)),
     SC.int IntKind.i64 (SI.v (JCN x)),SC.int IntKind.i64 (SI.v (JCo x)),SC.int IntKind.i64 (SI.v (JCW x)),SC.bool (SB.v (JCu x))])
    ([]) :=
  Runs.of1 (ps := []) (by kernel_rfl) (by simp)
def kq:List Gm → Qs → Option CRes
  | [.v x],[] => some ⟨SV.agg
    [SC.int IntKind.i64 (SI.v (xi x 0)),SC.int IntKind.i64 (SI.v (xi x 1)),SC.int IntKind.i64 (SI.v (JG1 x)),SC.int IntKind.i64 (SI.v (JGe x)),SC.int IntKind.i64 (SI.v (JGd x)),
     SC.int IntKind.i64 (SI.v (JFp x)),SC.int IntKind.i64 (SI.v (JGO x)),SC.int IntKind.i64 (SI.v (JH2 x)),SC.int IntKind.i64 (SI.v (JGn x)),
     SC.int IntKind.i64 (SI.v (JGF x)),SC.int IntKind.i64 (SI.v (JDC x)),SC.int IntKind.i64 (SI.v (JC8 x)),SC.int IntKind.i64 (SI.v (JCg x)),
     SC.bool (SB.v (JD5 x)),SC.int IntKind.i64 (SI.v (JCt x)),SC.bool (SB.v (JCV x)),SC.int IntKind.i64 (SI.v (JCy x)),SC.int IntKind.i64 (SI.v (JCM x)),
     SC.int IntKind.i64 (SI.v (JCN x)),SC.int IntKind.i64 (SI.v (JCo x)),SC.int IntKind.i64 (SI.v (JCW x)),SC.bool (SB.v (JCu x))],
    [],
    [],[],307⟩
  | _,_ => none
theorem JV9:Qf Tryz.prog 40 (X5 zf Yq kq) := by
  refine ZN (JF JHy 40) fun ps ls r hr hn _ => ?_
  unfold kq at hr
  split at hr
  · cases hr; exact ⟨_,JRM _,fun _ => rfl⟩
  · cases hr
def JG6:List (Nat × JU) := (40,X5 zf Yq kq) :: JOn
theorem JC6:Known Tryz.prog (JE JG6) QN := J4 JHy JV9
def Wh:Tpl := ⟨[.agg [.int .i64,.int .i64,.int .i64,.int .i64,.int .i64,.int .i64,.int .i64,.int .i64,.int .i64,.int .i64,.int .i64,.int .i64,.int .i64,.bool,.int .i64,.bool,.int .i64,.int .i64,.int .i64,.int .i64,.int .i64,.bool]],[],0⟩
def JBU:List GK := [.v QV]
def JLU (x:List GC):Bool :=
  bif xi x 0 == 5 then xb x 15
  else
   bif xi x 0 == 6 then xb x 15 && Zj (xi x 19) 3 4
   else
   bif xi x 0 == 7 then Zj (xi x 19) 0 60000
   else
   bif xi x 0 == 8 then Zj (xi x 19) 3 5 && Zj (xi x 20) 0 30000 && (xi x 19 != 5 || xi x 20 == 0)
   else bif xi x 0 == 9 then Zj (xi x 19) 7 8 else bif xi x 0 == 10 then Zj (xi x 19) 0 15 else bif xi x 0 == 11 then Zj (xi x 19) 0 32 else true
theorem JUc (x:List GC):Runs (Jl (JE JG6) QN 43) (Wh.args (Jp JBU [.v x])) (Wh.memo (Jp JBU [.v x]) []) Wh.n (SV.one (SC.bool (SB.v (JLU x))))
    ([]) :=
  Runs.of1 (ps := []) (by kernel_rfl) (by simp)
def JCk:List Gm → Qs → Option CRes
  | [.v x],[] => some ⟨SV.one (SC.bool (SB.v (JLU x))),
    [],
    [],[],158⟩
  | _,_ => none
theorem JbY:Qf Tryz.prog 43 (X5 JBU Wh JCk) := by
  refine ZN (JF JC6 43) fun ps ls r hr hn _ => ?_
  unfold JCk at hr
  split at hr
  · cases hr; exact ⟨_,JUc _,fun _ => rfl⟩
  · cases hr
def JLP:List (Nat × JU) := (43,X5 JBU Wh JCk) :: JG6
theorem JDU:Known Tryz.prog (JE JLP) QN := J4 JC6 JbY
def Wz:Tpl := ⟨[.agg [.int .i64,.int .i64,.int .i64,.int .i64,.int .i64,.int .i64,.int .i64,.int .i64,.int .i64,.int .i64,.int .i64,.int .i64,.int .i64,.bool,.int .i64,.bool,.int .i64,.int .i64,.int .i64,.int .i64,.int .i64,.bool]],[],0⟩
def JB8:List GK := [.v QV]
def Wx (x:List GC):Bool :=
  bif
   !Zj (xi x 0) 1 14 || !Zj (xi x 1) 0 1999 ||
   !(xi x 0 == xi x 0 &&
   (xi x 1 == xi x 1 &&
   (JG1 (J1 x) == xi x 2 &&
   (JGe (J1 x) == xi x 3 &&
   (JGd (J1 x) == xi x 4 &&
   (JFp (J1 x) == xi x 5 &&
   (JGO (J1 x) == xi x 6 &&
   (JH2 (J1 x) == xi x 7 &&
   (JGn (J1 x) == xi x 8 &&
   (JGF (J1 x) == xi x 9 &&
   (JDC (J1 x) == xi x 10 &&
   (JC8 (J1 x) == xi x 11 &&
   (JCg (J1 x) == xi x 12 &&
   (JD5 (J1 x) == xb x 13 &&
   (JCt (J1 x) == xi x 14 &&
   (JCV (J1 x) == xb x 15 &&
   (JCy (J1 x) == xi x 16 &&
   (JCM (J1 x) == xi x 17 &&
   (JCN (J1 x) == xi x 18 &&
   (JCo (J1 x) == xi x 19 && (JCW (J1 x) == xi x 20 && JCu (J1 x) == xb x 21))))))))))))))))))))) ||
   !XI (xi x 2) (xi x 3) (xi x 4) ||
   !XI (xi x 5) (xi x 6) (xi x 7) ||
   !Zj (xi x 18) 0 1000 ||
   !Zj (xi x 16) (-1) 1 then
   false
  else
   bif Zj (xi x 0) 2 6 && !Zj (xi x 14) 1 60000000 then false
   else
   bif xi x 16 == 0 && (xi x 17 != 0 || xi x 8 != 0 && xi x 0 != 3) || xi x 16 != 0 && (!WI (xi x 8) || !Zj (xi x 17) 0 32768) then false
   else JLU (J1 x) && (xi x 0 != 3 || JAQ (xi x 0) (xi x 2) (xi x 3) (xi x 4) (xi x 5) (xi x 6) (xi x 7) (xi x 8) (xi x 9) (xi x 10) (xi x 11) (xi x 12) (xb x 13) == 0)
theorem JRU (x:List GC):Runs (Jl (JE JLP) QN 29) (Wz.args (Jp JB8 [.v x])) (Wz.memo (Jp JB8 [.v x]) []) Wz.n (SV.one (SC.bool (SB.v (Wx x))))
    ([]) :=
  Runs.of1 (ps := []) (by kernel_rfl) (by simp)
def JD8:List Gm → Qs → Option CRes
  | [.v x],[] => some ⟨SV.one (SC.bool (SB.v (Wx x))),
    [],
    [],[],2172⟩
  | _,_ => none
theorem Ja1:Qf Tryz.prog 29 (X5 JB8 Wz JD8) := by
  refine ZN (JF JDU 29) fun ps ls r hr hn _ => ?_
  unfold JD8 at hr
  split at hr
  · cases hr; exact ⟨_,JRU _,fun _ => rfl⟩
  · cases hr
def JJf:List (Nat × JU) := (29,X5 JB8 Wz JD8) :: JLP
theorem JF7:Known Tryz.prog (JE JJf) QN := J4 JDU Ja1
theorem JdA (a b c d:Int) (e:Bool):(decide (J7 a b a b < 64) || decide (J7 c d c d < 64) || !Kh (J7 a b a b) (J7 c d c d) || e && !(a == c && b == d) || !e && jv a b c d) = !JNV a b c d e := by
  have hx:KI (J7 a b a b) := ZH _
  have hy:KI (J7 c d c d) := ZH _
  unfold JNV
  have e0:Yw a b c d = if J7 c d c d < J7 a b a b then J7 c d c d else J7 a b a b := by
    unfold Yw
    by_cases g:J7 a b a b > J7 c d c d
    · rw [decide_eq_true g,cond_true,if_pos g]
    · rw [decide_eq_false g,cond_false,if_neg g]
  have e1:KZ a b c d = KE (J7 a b a b) (J7 c d c d) := by
    unfold KZ KE
    rw [e0]
    by_cases g:J7 a b a b > J7 c d c d
    · rw [decide_eq_true g,cond_true,if_neg (show ¬ J7 c d c d > J7 a b a b by omega)]
    · rw [decide_eq_false g,cond_false]
      by_cases g2:J7 c d c d > J7 a b a b
      · rw [if_pos g2]
      · rw [if_neg g2,show J7 c d c d = J7 a b a b by omega]
  have hm:KI (if J7 c d c d < J7 a b a b then J7 c d c d else J7 a b a b) := by split <;> assumption
  have hs:KI (KE (J7 a b a b) (J7 c d c d)) := ZH _
  have e2:(decide (KZ a b c d > 0) && decide (JHL (KZ a b c d) (KZ a b c d) 64 (Yw a b c d) > 0)) = !Kh (J7 a b a b) (J7 c d c d) := by
    unfold Kh JL1
    rw [e1,e0,JfW _ _ _ _ hs hs (by decide) hm,Jfi _ _ _ _ hs hs (by decide) hm]
    generalize X7 _ _ = k
    generalize KE _ _ = s
    rw [Bool.eq_iff_iff]
    simp
  have e3:decide (Yw a b c d < 64) = (decide (J7 a b a b < 64) || decide (J7 c d c d < 64)) := by
    rw [e0,Bool.eq_iff_iff]
    simp only [Bool.or_eq_true,decide_eq_true_eq]
    split <;> omega
  have e4:jv a b c d = (QQ a b c d == 0 && decide (J7 a b c d > 0)) := rfl
  rw [e2,e3,e4]
  generalize (decide (J7 a b a b < 64) || decide (J7 c d c d < 64)) = u
  generalize Kh _ _ = v
  generalize (QQ a b c d == 0 && decide (J7 a b c d > 0)) = w
  generalize (a == c && b == d) = z
  revert u v w z e
  decide
theorem JRV (p:Int):WI p = zy p := by
  unfold zy WI
  rw [Bool.or_assoc]
theorem qU (a b c:Int):XI a b c = Za a b c := by
  unfold XI Za JGS
  rw [show IntKind.i64.wrap (0 - 1048576) = -1048576 from by decide]
theorem JWp (k f0 f1 f2 t0 t1 t2 p c0 c1 c2 d:Int) (fu:Bool):Xk k f0 f1 f2 t0 t1 t2 p c0 c1 c2 d fu = JAQ k f0 f1 f2 t0 t1 t2 p c0 c1 c2 d fu := by
  unfold Xk JAQ
  rw [JdA,JRV,qU,qU,qU]
  rfl
theorem JVS (k x1 x2 x3 x4 x5 x6 x7 x8 x9 x10 x11 x12 x14 x16 x17 x18 x19 x20 ac:Int) (b13 b15 b21 w1 w2 p:Bool) (h1:x2 = 0 → x3 = 0 → x4 = 0 → w1 = true) (h2:x5 = 0 → x6 = 0 → x7 = 0 → w2 = true) :
    (bif decide (x1 < 0) || decide (x1 ≥ 2000) then false
  else
   bif J5 k then
   bif
   !w1 || !w2 || x20 != 0 || b21 ||
   !bif x16 == 0 then x17 == 0 && (x8 == 0 || k == 3)
   else (k == 1 || k == 2 || k == 3) && p && (x16 == 1 || x16 == -1) && decide (x17 ≥ 0) && decide (x17 ≤ 32768) then
   false
   else
   bif k == 3 then bif ac != 0 then false else (bif k == 6 then bif x19 != 3 && x19 != 4 then false else (bif k == 1 then x14 == 0 && !b15 && x18 == 0 else bif decide (x14 < 1) || decide (x14 > 60000000) then false else bif bif k == 2 then k == 2 else k == 3 then decide (x18 ≥ 0) && decide (x18 ≤ 1000) else bif bif k == 5 then k == 5 else k == 6 then x18 == 0 && b15 else x18 == 0) else bif x19 != 0 then false else (bif k == 1 then x14 == 0 && !b15 && x18 == 0 else bif decide (x14 < 1) || decide (x14 > 60000000) then false else bif bif k == 2 then k == 2 else k == 3 then decide (x18 ≥ 0) && decide (x18 ≤ 1000) else bif bif k == 5 then k == 5 else k == 6 then x18 == 0 && b15 else x18 == 0))
   else bif !(x9 == 0 && (x10 == 0 && x11 == 0)) || x12 != 0 || b13 then false else (bif k == 6 then bif x19 != 3 && x19 != 4 then false else (bif k == 1 then x14 == 0 && !b15 && x18 == 0 else bif decide (x14 < 1) || decide (x14 > 60000000) then false else bif bif k == 2 then k == 2 else k == 3 then decide (x18 ≥ 0) && decide (x18 ≤ 1000) else bif bif k == 5 then k == 5 else k == 6 then x18 == 0 && b15 else x18 == 0) else bif x19 != 0 then false else (bif k == 1 then x14 == 0 && !b15 && x18 == 0 else bif decide (x14 < 1) || decide (x14 > 60000000) then false else bif bif k == 2 then k == 2 else k == 3 then decide (x18 ≥ 0) && decide (x18 ≤ 1000) else bif bif k == 5 then k == 5 else k == 6 then x18 == 0 && b15 else x18 == 0))
   else
   bif
   !(k == k && (x1 == x1 && (x2 == 0 && (x3 == 0 && (x4 == 0 && (x5 == 0 && (x6 == 0 && (x7 == 0 && (x8 == 0 && (x9 == 0 && (x10 == 0 && (x11 == 0 && (x12 == 0 && (b13 == false && (x14 == 0 && (b15 == false && (x16 == 0 && (x17 == 0 && (x18 == 0 && (x19 == x19 && (x20 == x20 && b21 == b21))))))))))))))))))))) then
   false
   else
   bif k == 8 then !b21 && decide (x19 ≥ 3) && decide (x19 ≤ 5) && decide (x20 ≥ 0) && decide (x20 ≤ 30000) && (x19 != 5 || x20 == 0)
   else
   bif k == 9 then x20 == 0 && (x19 == 7 || x19 == 8)
   else
   bif k == 10 then x20 == 0 && decide (x19 ≥ 0) && decide (x19 < 16)
   else
   bif k == 7 then !b21 && x20 == 0 && decide (x19 ≥ 0) && decide (x19 ≤ 60000)
   else
   bif k == 11 then !b21 && x20 == 0 && decide (x19 ≥ 0) && decide (x19 ≤ 32)
   else (bif k == 12 then k == 12 else bif k == 13 then k == 13 else k == 14) && (!b21 && x20 == 0 && x19 == 0)) =
    (bif
   !(decide (k ≥ 1) && decide (k ≤ 14)) || !(decide (x1 ≥ 0) && decide (x1 ≤ 1999)) ||
   !(k == k && (x1 == x1 &&
   ((bif J5 k then x2 else 0) == x2 &&
   ((bif J5 k then x3 else 0) == x3 &&
   ((bif J5 k then x4 else 0) == x4 &&
   ((bif J5 k then x5 else 0) == x5 &&
   ((bif J5 k then x6 else 0) == x6 &&
   ((bif J5 k then x7 else 0) == x7 &&
   ((bif bif k == 1 then k == 1 else bif k == 2 then k == 2 else k == 3 then x8 else 0) == x8 &&
   ((bif k == 2 then 0 else bif k == 3 then x9 else 0) == x9 &&
   ((bif k == 2 then 0 else bif k == 3 then x10 else 0) == x10 &&
   ((bif k == 2 then 0 else bif k == 3 then x11 else 0) == x11 &&
   ((bif k == 2 then 0 else bif k == 3 then x12 else 0) == x12 &&
   ((bif k == 2 then false else k == 3 && b13) == b13 &&
   ((bif (decide (k ≥ 2) && decide (k ≤ 6)) then x14 else 0) == x14 &&
   (((decide (k ≥ 2) && decide (k ≤ 6)) && b15) == b15 &&
   ((bif bif k == 1 then k == 1 else bif k == 2 then k == 2 else k == 3 then x16 else 0) == x16 &&
   ((bif bif k == 1 then k == 1 else bif k == 2 then k == 2 else k == 3 then x17 else 0) == x17 &&
   ((bif k == 2 then x18 else bif k == 3 then x18 else 0) == x18 &&
   ((bif k == 2 then 0 else bif k == 3 then 0 else bif bif k == 6 then k == 6 else bif k == 7 then k == 7 else k == 11 then x19 else bif k == 8 then x19 else bif bif k == 9 then k == 9 else k == 10 then x19 else 0) == x19 &&
   ((bif k == 2 then 0 else bif k == 3 then 0 else bif bif k == 6 then k == 6 else bif k == 7 then k == 7 else k == 11 then 0 else bif k == 8 then x20 else 0) == x20 &&
   (bif k == 2 then false else bif k == 3 then false else bif bif k == 6 then k == 6 else bif k == 7 then k == 7 else k == 11 then false else bif k == 8 then false else (bif k == 9 then k == 9 else k == 10) && b21) == b21))))))))))))))))))))) ||
   !w1 || !w2 || !(decide (x18 ≥ 0) && decide (x18 ≤ 1000)) || !(decide (x16 ≥ -1) && decide (x16 ≤ 1)) then
   false
  else
   bif (decide (k ≥ 2) && decide (k ≤ 6)) && !(decide (x14 ≥ 1) && decide (x14 ≤ 60000000)) then false
   else
   bif x16 == 0 && (x17 != 0 || x8 != 0 && k != 3) || x16 != 0 && (!p || !(decide (x17 ≥ 0) && decide (x17 ≤ 32768))) then false
   else (bif k == 5 then b15 else bif k == 6 then b15 && (decide (x19 ≥ 3) && decide (x19 ≤ 4)) else bif k == 7 then (decide (x19 ≥ 0) && decide (x19 ≤ 60000)) else bif k == 8 then (decide (x19 ≥ 3) && decide (x19 ≤ 5)) && (decide (x20 ≥ 0) && decide (x20 ≤ 30000)) && (x19 != 5 || x20 == 0) else bif k == 9 then (decide (x19 ≥ 7) && decide (x19 ≤ 8)) else bif k == 10 then (decide (x19 ≥ 0) && decide (x19 ≤ 15)) else bif k == 11 then (decide (x19 ≥ 0) && decide (x19 ≤ 32)) else true) && (k != 3 || ac == 0)) := by
  have hk:k < 1 ∨ 14 < k ∨ k = 1 ∨ k = 2 ∨ k = 3 ∨ k = 4 ∨ k = 5 ∨ k = 6 ∨ k = 7 ∨ k = 8 ∨ k = 9 ∨ k = 10 ∨ k = 11 ∨ k = 12 ∨ k = 13 ∨ k = 14 := by omega
  have two:∀ a b:Bool,(a = true ↔ b = true) → a = b := fun a b h => Bool.eq_iff_iff.2 h
  rcases hk with hk | hk | rfl | rfl | rfl | rfl | rfl | rfl | rfl | rfl | rfl | rfl | rfl | rfl | rfl | rfl
  · have e:∀ c:Int,1 ≤ c → c ≤ 14 → (k == c) = false := fun c h h' => by simpa using (by omega:¬ k = c)
    have c0:J5 k = false := by
      unfold J5
      rw [Bool.and_eq_false_iff,decide_eq_false_iff_not,decide_eq_false_iff_not]; omega
    have c1:(decide (k ≥ 1) && decide (k ≤ 14)) = false := by
      rw [Bool.and_eq_false_iff,decide_eq_false_iff_not,decide_eq_false_iff_not]; omega
    simp only [c0,c1,e 8 (by decide) (by decide),e 9 (by decide) (by decide),e 10 (by decide) (by decide),e 7 (by decide) (by decide),e 11 (by decide) (by decide),e 12 (by decide) (by decide),e 13 (by decide) (by decide),e 14 (by decide) (by decide),Bool.not_false,Bool.true_or,cond_true,cond_false,Bool.false_and]
    cases (decide (x1 < 0) || decide (x1 ≥ 2000)) <;> simp
  · have e:∀ c:Int,1 ≤ c → c ≤ 14 → (k == c) = false := fun c h h' => by simpa using (by omega:¬ k = c)
    have c0:J5 k = false := by
      unfold J5
      rw [Bool.and_eq_false_iff,decide_eq_false_iff_not,decide_eq_false_iff_not]; omega
    have c1:(decide (k ≥ 1) && decide (k ≤ 14)) = false := by
      rw [Bool.and_eq_false_iff,decide_eq_false_iff_not,decide_eq_false_iff_not]; omega
    simp only [c0,c1,e 8 (by decide) (by decide),e 9 (by decide) (by decide),e 10 (by decide) (by decide),e 7 (by decide) (by decide),e 11 (by decide) (by decide),e 12 (by decide) (by decide),e 13 (by decide) (by decide),e 14 (by decide) (by decide),Bool.not_false,Bool.true_or,cond_true,cond_false,Bool.false_and]
    cases (decide (x1 < 0) || decide (x1 ≥ 2000)) <;> simp
  all_goals
    refine two _ _ ?_
    simp only [show ∀ a b:Int,(a == b) = decide (a = b) from fun a b => rfl,bne]
    simp (config := {decide := true}) [J5,-Bool.not_eq_true]
    try grind
theorem JXb (x:List GC):QP x = Wx x := by
  have h1:xi x 2 = 0 → xi x 3 = 0 → xi x 4 = 0 → Za (xi x 2) (xi x 3) (xi x 4) = true := fun a b c => by rw [a,b,c]; rfl
  have h2:xi x 5 = 0 → xi x 6 = 0 → xi x 7 = 0 → Za (xi x 5) (xi x 6) (xi x 7) = true := fun a b c => by rw [a,b,c]; rfl
  have := JVS (xi x 0) (xi x 1) (xi x 2) (xi x 3) (xi x 4) (xi x 5) (xi x 6) (xi x 7) (xi x 8) (xi x 9) (xi x 10) (xi x 11) (xi x 12) (xi x 14) (xi x 16) (xi x 17) (xi x 18) (xi x 19) (xi x 20)
    (Xk (xi x 0) (xi x 2) (xi x 3) (xi x 4) (xi x 5) (xi x 6) (xi x 7) (xi x 8) (xi x 9) (xi x 10) (xi x 11) (xi x 12) (xb x 13)) (xb x 13) (xb x 15) (xb x 21) (Za (xi x 2) (xi x 3) (xi x 4)) (Za (xi x 5) (xi x 6) (xi x 7)) (zy (xi x 8)) h1 h2
  refine (show QP x = _ from this).trans ?_
  unfold Wx
  rw [qU,qU,JRV,← JWp]
  rfl
theorem Jfo {c:Bool} {a b n m:Int} (h:n ≤ a ∧ a ≤ m) (h':n ≤ b ∧ b ≤ m):n ≤ (bif c then a else b) ∧ (bif c then a else b) ≤ m := by cases c <;> assumption
theorem JcX {c:Bool} {a b:Int} (h:0 ≤ a) (h':0 ≤ b):0 ≤ (bif c then a else b) := by cases c <;> assumption
def JEx:Tpl := ⟨[.one (.ptr 0 0),.one (.int .i64)],[(0,.blk 57 [(2,.wh 1),(3,.int .i64)]),(1,.row true 3 1 4 [.int .i64])],5⟩
def JAw (n:Int) (a:Int) (L:LL):List Prop :=
  [0 ≤ a,L.length ≤ 1000000,IntKind.i64.wrap (0 - n) ≤ n ∧ -1000000 ≤ IntKind.i64.wrap (0 - n) ∧ n ≤ 1000000,0 ≤ J0 a L,L.length ≤ 1000000,
   IntKind.i64.wrap (0 - n) ≤ n ∧ -1000000 ≤ IntKind.i64.wrap (0 - n) ∧ n ≤ 1000000]
theorem JcB {n:Int} {a:Int} {L:LL} (hW:∀ q ∈ ([0 ≤ a,L.length ≤ 1000000,0 ≤ n ∧ n ≤ 1000000]:List Prop),q):∀ q ∈ (JAw n a L),q := by
  simp only [awc,awn,and_true] at hW
  unfold JAw
  simp only [awc,awn,and_true]
  obtain ⟨h1,h2,h3⟩ := hW
  have e:IntKind.i64.wrap (0 - n) = 0 - n := Wu (by omega) (by omega)
  rw [e]
  exact ⟨h1,h2,by omega,Zo _ _ h1 h2,h2,by omega⟩
theorem Jcd (n a:Int) (L:LL) (hNeeds:∀ pN ∈ (JAw n a L),pN):Runs (Jl (JE JJf) QN 52) (JEx.args [.i n,.i a]) (JEx.memo [.i n,.i a] [L]) JEx.n (SV.agg [SC.int IntKind.i64 (SI.v (Js n a L)),SC.int IntKind.i64 (SI.v (Jt n a L))])
    ([(0,Obj.blk 57 [(2,SC.wh 1),(156,SC.int IntKind.i64 (SI.v (J0 (J0 a L) L)))]),(1,Obj.row true 3 1 (RowC.lst 4 [CK.int IntKind.i64] L))]) :=
  Runs.of1 (ps := (JAw n a L)) (by kernel_rfl) hNeeds
def JOt:List Pm → Qs → Option CRes
  | [.i n,.i a],[L] => some ⟨SV.agg [SC.int IntKind.i64 (SI.v (Js n a L)),SC.int IntKind.i64 (SI.v (Jt n a L))],
    [(0,Obj.blk 57 [(2,SC.wh 1),(156,SC.int IntKind.i64 (SI.v (J0 (J0 a L) L)))]),(1,Obj.row true 3 1 (RowC.lst 4 [CK.int IntKind.i64] L))],
    [0 ≤ a,L.length ≤ 1000000,0 ≤ n ∧ n ≤ 1000000],[],165⟩
  | _,_ => none
theorem Jgl:Qf Tryz.prog 52 (JP JEx JOt) := by
  refine JI (JF JF7 52) fun ps ls r hr hn _ => ?_
  unfold JOt at hr
  split at hr
  · cases hr; exact ⟨_,Jcd _ _ _ (JcB (by exact hn)),fun _ => rfl⟩
  · cases hr
def Jcn:List (Nat × JU) := (52,JP JEx JOt) :: JJf
theorem JNh:Known Tryz.prog (JE Jcn) QN := J4 JF7 Jgl
def YX:Tpl := ⟨[.one (.ptr 0 0)],[(0,.blk 57 [(2,.wh 1),(3,.int .i64)]),(1,.row true 3 1 4 [.int .i64])],5⟩
section
variable (a:Int) (L:LL)
def qo:Int:=
  Js (bif (J2 3 a L).toNat.beq 0 then 20 else bif (J2 3 a L).toNat.beq 1 then 300 else 20000) (J0 a L) L
def qJ:Int:=
  Jt (bif (J2 3 a L).toNat.beq 0 then 20 else bif (J2 3 a L).toNat.beq 1 then 300 else 20000) (J0 a L) L
def Ju:Int:=
  bif (J2 3 a L).toNat.beq 0 then 20 else bif (J2 3 a L).toNat.beq 1 then 300 else 20000
def JJU:Int:=
  bif J2 4 (J0 (J0 (J0 (J0 a L) L) L) L) L == 0 then IntKind.i64.wrap (0 - Jt (Ju a L) (J0 a L) L)
  else
   bif J2 4 (J0 (J0 (J0 (J0 a L) L) L) L) L == 1 then IntKind.i64.wrap (0 - Js (Ju a L) (J0 a L) L)
   else bif J2 4 (J0 (J0 (J0 (J0 a L) L) L) L) L == 2 then Jt (Ju a L) (J0 a L) L else Jt (Ju a L) (J0 a L) L
def qI:Int:=
  bif J2 8 (J0 (J0 (J0 a L) L) L) L == 0 then Js (Ju a L) (J0 a L) L
  else
   bif J2 3 (J0 (J0 (J0 (J0 (J0 a L) L) L) L) L) L == 0 then
   IntKind.i64.wrap (JJU a L + JG (-2) 2 (J0 (J0 (J0 (J0 (J0 (J0 a L) L) L) L) L) L) L)
   else JJU a L
def qO:Int:=
  bif J2 8 (J0 (J0 (J0 a L) L) L) L == 0 then Jt (Ju a L) (J0 a L) L
  else
   bif J2 4 (J0 (J0 (J0 (J0 a L) L) L) L) L == 0 then Js (Ju a L) (J0 a L) L
   else
   bif J2 4 (J0 (J0 (J0 (J0 a L) L) L) L) L == 1 then IntKind.i64.wrap (0 - Jt (Ju a L) (J0 a L) L)
   else bif J2 4 (J0 (J0 (J0 (J0 a L) L) L) L) L == 2 then Js (Ju a L) (J0 a L) L else IntKind.i64.wrap (0 - Js (Ju a L) (J0 a L) L)
def WG:Bool:=
  J2 8 (J0 (J0 (J0 a L) L) L) L == 0
def JLQ:Int:=
  IntKind.i64.wrap (0 - Jt (Ju a L) (J0 a L) L)
def JJs:Int:=
  IntKind.i64.wrap (0 - Js (Ju a L) (J0 a L) L)
def JKv:Int:=
  bif J2 4 (J0 (J0 (J0 (J0 a L) L) L) L) L == 0 then JLQ a L
  else
   bif J2 4 (J0 (J0 (J0 (J0 a L) L) L) L) L == 1 then JJs a L
   else bif J2 4 (J0 (J0 (J0 (J0 a L) L) L) L) L == 2 then Jt (Ju a L) (J0 a L) L else Jt (Ju a L) (J0 a L) L
def ZD:Bool:=
  JNV (Js (Ju a L) (J0 a L) L) (Jt (Ju a L) (J0 a L) L)
   (bif WG a L then Js (Ju a L) (J0 a L) L
   else
   bif J2 3 (J0 (J0 (J0 (J0 (J0 a L) L) L) L) L) L == 0 then
   IntKind.i64.wrap (JKv a L + JG (-2) 2 (J0 (J0 (J0 (J0 (J0 (J0 a L) L) L) L) L) L) L)
   else JKv a L)
   (bif WG a L then Jt (Ju a L) (J0 a L) L
   else
   bif J2 4 (J0 (J0 (J0 (J0 a L) L) L) L) L == 0 then Js (Ju a L) (J0 a L) L
   else
   bif J2 4 (J0 (J0 (J0 (J0 a L) L) L) L) L == 1 then JLQ a L
   else bif J2 4 (J0 (J0 (J0 (J0 a L) L) L) L) L == 2 then Js (Ju a L) (J0 a L) L else JJs a L)
   (WG a L)
def JN:Int:=
  bif J2 8 (J0 (J0 (J0 a L) L) L) L == 0 then J0 (J0 (J0 (J0 (J0 a L) L) L) L) L
  else
   bif J2 3 (J0 (J0 (J0 (J0 (J0 a L) L) L) L) L) L == 0 then J0 (J0 (J0 (J0 (J0 (J0 (J0 a L) L) L) L) L) L) L
   else J0 (J0 (J0 (J0 (J0 (J0 a L) L) L) L) L) L
def Y4:List Prop:=
  [0 ≤ a,L.length ≤ 1000000,Int.ofNat 3 ≠ 0,0 ≤ J2 3 a L,(J2 3 a L).toNat < 3,(J2 3 a L).toNat < 3,0 ≤ J0 a L,L.length ≤ 1000000,0 ≤ Ju a L ∧ Ju a L ≤ 1000000,
   0 ≤ J0 (J0 (J0 a L) L) L,L.length ≤ 1000000,Int.ofNat 8 ≠ 0,0 ≤ J0 (J0 (J0 (J0 a L) L) L) L,L.length ≤ 1000000,Int.ofNat 4 ≠ 0,
   (J2 8 (J0 (J0 (J0 a L) L) L) L == 0) = false →
   0 ≤ J0 (J0 (J0 (J0 (J0 a L) L) L) L) L ∧
   L.length ≤ 1000000 ∧
   Int.ofNat 3 ≠ 0 ∧
   ((J2 3 (J0 (J0 (J0 (J0 (J0 a L) L) L) L) L) L == 0) = true →
   0 ≤ J0 (J0 (J0 (J0 (J0 (J0 a L) L) L) L) L) L ∧ L.length ≤ 1000000 ∧ -2 ≤ 2 ∧ -1000000 ≤ -2 ∧ Int.ofNat 2 ≤ 1000000)]
end
theorem kI {a:Int} {L:LL} (h1:0 ≤ a) (h2:L.length ≤ 1000000):0 ≤ JN a L := by
  have nn:∀ x,0 ≤ x → 0 ≤ J0 x L := fun x h => Zo x L h h2
  unfold JN
  repeat' first | exact h1 | refine nn _ ?_ | refine JcX ?_ ?_
theorem JP0 {a:Int} {L:LL} (hW:∀ q ∈ ([0 ≤ a,L.length ≤ 1000000]:List Prop),q):∀ q ∈ (Y4 a L),q := by
  simp only [awc,awn,and_true] at hW
  unfold Y4
  simp only [awc,awn,and_true]
  obtain ⟨h1,h2⟩ := hW
  have nn:∀ x,0 ≤ x → 0 ≤ J0 x L := fun x h => Zo x L h h2
  have r3:∀ x,0 ≤ J2 3 x L ∧ (J2 3 x L).toNat < 3 := fun x => by have := XJ 3 x L (by omega) (by omega); omega
  have s0:0 ≤ Ju a L ∧ Ju a L ≤ 1000000 := by
    unfold Ju
    repeat' first | exact ⟨by decide,by decide⟩ | refine Jfo ?_ ?_
  repeat' first | exact h2 | exact h1 | exact (r3 _).1 | exact (r3 _).2 | refine nn _ ?_ | exact s0 | decide | refine And.intro ?_ ?_ | intro _
theorem JQC (a:Int) (L:LL) (hNeeds:∀ pN ∈ (Y4 a L),pN):Runs (Jl (JE Jcn) QN 51) (YX.args [.i a]) (YX.memo [.i a] [L]) YX.n (SV.tup
    [(true,[SC.int IntKind.i64 (SI.v (qo a L)),SC.int IntKind.i64 (SI.v (qJ a L))]),(true,[SC.int IntKind.i64 (SI.v (qI a L)),SC.int IntKind.i64 (SI.v (qO a L))]),
     (false,[SC.bool (SB.v (WG a L))]),(false,[SC.bool (SB.v (ZD a L))])])
    ([(0,Obj.blk 57 [(2,SC.wh 1),(568,SC.int IntKind.i64 (SI.v (JN a L)))]),(1,Obj.row true 3 1 (RowC.lst 4 [CK.int IntKind.i64] L))]) :=
  Runs.of1 (ps := (Y4 a L)) (by kernel_rfl) hNeeds
def JAI:List Pm → Qs → Option CRes
  | [.i a],[L] => some ⟨SV.tup
    [(true,[SC.int IntKind.i64 (SI.v (qo a L)),SC.int IntKind.i64 (SI.v (qJ a L))]),(true,[SC.int IntKind.i64 (SI.v (qI a L)),SC.int IntKind.i64 (SI.v (qO a L))]),
     (false,[SC.bool (SB.v (WG a L))]),(false,[SC.bool (SB.v (ZD a L))])],
    [(0,Obj.blk 57 [(2,SC.wh 1),(568,SC.int IntKind.i64 (SI.v (JN a L)))]),(1,Obj.row true 3 1 (RowC.lst 4 [CK.int IntKind.i64] L))],
    [0 ≤ a,L.length ≤ 1000000],[],1125⟩
  | _,_ => none
theorem JVg:Qf Tryz.prog 51 (JP YX JAI) := by
  refine JI (JF JNh 51) fun ps ls r hr hn _ => ?_
  unfold JAI at hr
  split at hr
  · cases hr; exact ⟨_,JQC _ _ (JP0 (by exact hn)),fun _ => rfl⟩
  · cases hr
def JGG:List (Nat × JU) := (51,JP YX JAI) :: Jcn
theorem JBt:Known Tryz.prog (JE JGG) QN := J4 JNh JVg
def JAd:Tpl := ⟨[.one (.ptr 0 0)],[(0,.blk 57 [(2,.wh 1),(3,.int .i64)]),(1,.row true 3 1 4 [.int .i64])],5⟩
section
variable (a:Int) (L:LL)
def JQg:Int:=
  Kz (JG 17 19 a L) (IntKind.i64.wrap (Js 30000 (JN (J0 a L) L) L + bif !ZD (J0 a L) L then 50 else qo (J0 a L) L))
   (IntKind.i64.wrap (Jt 30000 (JN (J0 a L) L) L + bif !ZD (J0 a L) L then 0 else qJ (J0 a L) L))
   (JG (-500) 500 (J0 (J0 (JN (J0 a L) L) L) L) L)
def JQi:Int:=
  Kg (JG 17 19 a L) (IntKind.i64.wrap (Js 30000 (JN (J0 a L) L) L + bif !ZD (J0 a L) L then 50 else qo (J0 a L) L))
   (IntKind.i64.wrap (Jt 30000 (JN (J0 a L) L) L + bif !ZD (J0 a L) L then 0 else qJ (J0 a L) L))
   (JG (-500) 500 (J0 (J0 (JN (J0 a L) L) L) L) L)
def JOh:Int:=
  Kl (JG 17 19 a L) (IntKind.i64.wrap (Js 30000 (JN (J0 a L) L) L + bif !ZD (J0 a L) L then 50 else qo (J0 a L) L))
   (IntKind.i64.wrap (Jt 30000 (JN (J0 a L) L) L + bif !ZD (J0 a L) L then 0 else qJ (J0 a L) L))
   (JG (-500) 500 (J0 (J0 (JN (J0 a L) L) L) L) L)
def JY1:Int:=
  Kz (JG 17 19 a L) (IntKind.i64.wrap (Js 30000 (JN (J0 a L) L) L + bif !ZD (J0 a L) L then 0 else qI (J0 a L) L))
   (IntKind.i64.wrap (Jt 30000 (JN (J0 a L) L) L + bif !ZD (J0 a L) L then 50 else qO (J0 a L) L))
   (JG (-500) 500 (J0 (J0 (J0 (JN (J0 a L) L) L) L) L) L)
def JVY:Int:=
  Kg (JG 17 19 a L) (IntKind.i64.wrap (Js 30000 (JN (J0 a L) L) L + bif !ZD (J0 a L) L then 0 else qI (J0 a L) L))
   (IntKind.i64.wrap (Jt 30000 (JN (J0 a L) L) L + bif !ZD (J0 a L) L then 50 else qO (J0 a L) L))
   (JG (-500) 500 (J0 (J0 (J0 (JN (J0 a L) L) L) L) L) L)
def JW0:Int:=
  Kl (JG 17 19 a L) (IntKind.i64.wrap (Js 30000 (JN (J0 a L) L) L + bif !ZD (J0 a L) L then 0 else qI (J0 a L) L))
   (IntKind.i64.wrap (Jt 30000 (JN (J0 a L) L) L + bif !ZD (J0 a L) L then 50 else qO (J0 a L) L))
   (JG (-500) 500 (J0 (J0 (J0 (JN (J0 a L) L) L) L) L) L)
def JVc:Int:=
  Kz (JG 17 19 a L) (Js 30000 (JN (J0 a L) L) L) (Jt 30000 (JN (J0 a L) L) L) (JG (-500) 500 (J0 (J0 (JN (J0 a L) L) L) L) L)
def JXR:Int:=
  Kg (JG 17 19 a L) (Js 30000 (JN (J0 a L) L) L) (Jt 30000 (JN (J0 a L) L) L) (JG (-500) 500 (J0 (J0 (JN (J0 a L) L) L) L) L)
def JY4:Int:=
  Kl (JG 17 19 a L) (Js 30000 (JN (J0 a L) L) L) (Jt 30000 (JN (J0 a L) L) L) (JG (-500) 500 (J0 (J0 (JN (J0 a L) L) L) L) L)
def JVt:Int:=
  IntKind.i64.wrap (1 - IntKind.i64.wrap (2 * J2 2 (J0 (J0 (J0 (J0 (JN (J0 a L) L) L) L) L) L) L))
def JPm:Bool:=
  bif !ZD (J0 a L) L then false else WG (J0 a L) L
def JQy:Bool:=
  J2 4 (J0 (J0 (J0 (J0 (J0 (J0 (JN (J0 a L) L) L) L) L) L) L) L) L == 0
def zp:List Prop:=
  [0 ≤ a,L.length ≤ 1000000,Int.ofNat 17 ≤ 19 ∧ -1000000 ≤ 17 ∧ Int.ofNat 19 ≤ 1000000,0 ≤ J0 a L,L.length ≤ 1000000,0 ≤ JN (J0 a L) L,L.length ≤ 1000000,
   Int.ofNat 0 ≤ 30000 ∧ Int.ofNat 30000 ≤ 1000000,0 ≤ J0 (J0 (JN (J0 a L) L) L) L,L.length ≤ 1000000,-500 ≤ 500 ∧ -1000000 ≤ -500 ∧ Int.ofNat 500 ≤ 1000000,
   0 ≤ J0 (J0 (J0 (JN (J0 a L) L) L) L) L,L.length ≤ 1000000,-500 ≤ 500 ∧ -1000000 ≤ -500 ∧ Int.ofNat 500 ≤ 1000000,
   0 ≤ J0 (J0 (J0 (J0 (JN (J0 a L) L) L) L) L) L,L.length ≤ 1000000,Int.ofNat 2 ≠ 0,0 ≤ J0 (J0 (J0 (J0 (J0 (JN (J0 a L) L) L) L) L) L) L,
   L.length ≤ 1000000,Int.ofNat 1 ≤ 90000 ∧ -1000000 ≤ 1 ∧ Int.ofNat 90000 ≤ 1000000,0 ≤ J0 (J0 (J0 (J0 (J0 (J0 (JN (J0 a L) L) L) L) L) L) L) L,
   L.length ≤ 1000000,Int.ofNat 4 ≠ 0,0 ≤ J0 (J0 (J0 (J0 (J0 (J0 (J0 (JN (J0 a L) L) L) L) L) L) L) L) L,L.length ≤ 1000000,Int.ofNat 200 ≠ 0,
   0 ≤ J0 (J0 (J0 (J0 (J0 (J0 (J0 (J0 (JN (J0 a L) L) L) L) L) L) L) L) L) L,L.length ≤ 1000000,Int.ofNat 20 ≠ 0]
end
theorem Jb8 {a:Int} {L:LL} (hW:∀ q ∈ ([0 ≤ a,L.length ≤ 1000000]:List Prop),q):∀ q ∈ (zp a L),q := by
  simp only [awc,awn,and_true] at hW
  unfold zp
  simp only [awc,awn,and_true]
  obtain ⟨h1,h2⟩ := hW
  have nn:∀ x,0 ≤ x → 0 ≤ J0 x L := fun x h => Zo x L h h2
  have r3:∀ x,0 ≤ J2 3 x L ∧ (J2 3 x L).toNat < 3 := fun x => by have := XJ 3 x L (by omega) (by omega); omega
  have sp:∀ x,0 ≤ x → 0 ≤ JN x L := fun x h => kI h h2
  repeat' first | exact h2 | exact h1 | exact (r3 _).1 | exact (r3 _).2 | refine nn _ ?_ | refine sp _ ?_ | decide | refine And.intro ?_ ?_ | intro _
theorem JaJ (a:Int) (L:LL) (hNeeds:∀ pN ∈ (zp a L),pN):Runs (Jl (JE JGG) QN 38) (JAd.args [.i a]) (JAd.memo [.i a] [L]) JAd.n (SV.agg
    [SC.int IntKind.i64 (SI.c 3),SC.int IntKind.i64 (SI.v (J2 20 (J0 (J0 (J0 (J0 (J0 (J0 (J0 (J0 (JN (J0 a L) L) L) L) L) L) L) L) L) L) L)),
     SC.int IntKind.i64 (SI.v (JQg a L)),SC.int IntKind.i64 (SI.v (JQi a L)),SC.int IntKind.i64 (SI.v (JOh a L)),SC.int IntKind.i64 (SI.v (JY1 a L)),
     SC.int IntKind.i64 (SI.v (JVY a L)),SC.int IntKind.i64 (SI.v (JW0 a L)),SC.int IntKind.i64 (SI.v (JG 17 19 a L)),SC.int IntKind.i64 (SI.v (JVc a L)),
     SC.int IntKind.i64 (SI.v (JXR a L)),SC.int IntKind.i64 (SI.v (JY4 a L)),SC.int IntKind.i64 (SI.v (JVt a L)),SC.bool (SB.v (JPm a L)),
     SC.int IntKind.i64 (SI.v (JG 1 90000 (J0 (J0 (J0 (J0 (J0 (JN (J0 a L) L) L) L) L) L) L) L)),SC.bool (SB.v (JQy a L)),SC.int IntKind.i64 (SI.c 0),
     SC.int IntKind.i64 (SI.c 0),SC.int IntKind.i64 (SI.v (J2 200 (J0 (J0 (J0 (J0 (J0 (J0 (J0 (JN (J0 a L) L) L) L) L) L) L) L) L) L)),
     SC.int IntKind.i64 (SI.c 0),SC.int IntKind.i64 (SI.c 0),SC.bool (SB.c false)])
    ([(0,Obj.blk 57 [(2,SC.wh 1),(2247,SC.int IntKind.i64 (SI.v (J0 (J0 (J0 (J0 (J0 (J0 (J0 (J0 (J0 (JN (J0 a L) L) L) L) L) L) L) L) L) L) L)))]),
    (1,Obj.row true 3 1 (RowC.lst 4 [CK.int IntKind.i64] L))]) :=
  Runs.of1 (ps := (zp a L)) (by kernel_rfl) hNeeds
def JMD:List Pm → Qs → Option CRes
  | [.i a],[L] => some ⟨SV.agg
    [SC.int IntKind.i64 (SI.c 3),SC.int IntKind.i64 (SI.v (J2 20 (J0 (J0 (J0 (J0 (J0 (J0 (J0 (J0 (JN (J0 a L) L) L) L) L) L) L) L) L) L) L)),
     SC.int IntKind.i64 (SI.v (JQg a L)),SC.int IntKind.i64 (SI.v (JQi a L)),SC.int IntKind.i64 (SI.v (JOh a L)),SC.int IntKind.i64 (SI.v (JY1 a L)),
     SC.int IntKind.i64 (SI.v (JVY a L)),SC.int IntKind.i64 (SI.v (JW0 a L)),SC.int IntKind.i64 (SI.v (JG 17 19 a L)),SC.int IntKind.i64 (SI.v (JVc a L)),
     SC.int IntKind.i64 (SI.v (JXR a L)),SC.int IntKind.i64 (SI.v (JY4 a L)),SC.int IntKind.i64 (SI.v (JVt a L)),SC.bool (SB.v (JPm a L)),
     SC.int IntKind.i64 (SI.v (JG 1 90000 (J0 (J0 (J0 (J0 (J0 (JN (J0 a L) L) L) L) L) L) L) L)),SC.bool (SB.v (JQy a L)),SC.int IntKind.i64 (SI.c 0),
     SC.int IntKind.i64 (SI.c 0),SC.int IntKind.i64 (SI.v (J2 200 (J0 (J0 (J0 (J0 (J0 (J0 (J0 (JN (J0 a L) L) L) L) L) L) L) L) L) L)),
     SC.int IntKind.i64 (SI.c 0),SC.int IntKind.i64 (SI.c 0),SC.bool (SB.c false)],
    [(0,Obj.blk 57 [(2,SC.wh 1),(2247,SC.int IntKind.i64 (SI.v (J0 (J0 (J0 (J0 (J0 (J0 (J0 (J0 (J0 (JN (J0 a L) L) L) L) L) L) L) L) L) L) L)))]),
    (1,Obj.row true 3 1 (RowC.lst 4 [CK.int IntKind.i64] L))],
    [0 ≤ a,L.length ≤ 1000000],[],2273⟩
  | _,_ => none
theorem Jg0:Qf Tryz.prog 38 (JP JAd JMD) := by
  refine JI (JF JBt 38) fun ps ls r hr hn _ => ?_
  unfold JMD at hr
  split at hr
  · cases hr; exact ⟨_,JaJ _ _ (Jb8 (by exact hn)),fun _ => rfl⟩
  · cases hr
def JV5:List (Nat × JU) := (38,JP JAd JMD) :: JGG
theorem JJk:Known Tryz.prog (JE JV5) QN := J4 JBt Jg0
def qx:Tpl := ⟨[.one (.ptr 0 0),.agg [.int .i64,.int .i64,.int .i64]],[(0,.blk 57 [(2,.wh 1),(3,.int .i64)]),(1,.row true 3 1 4 [.int .i64])],5⟩
section
variable (z y x a:Int) (L:LL)
def JZ:Bool:=
  J2 14 (J0 a L) L == 1
def Ja:Bool:=
  J2 14 (J0 a L) L == 2
def Jc:Bool:=
  J2 14 (J0 a L) L == 3
def Jb:Bool:=
  J2 14 (J0 a L) L == 5
def Qy:Int:=
  bif J2 14 (J0 a L) L == 0 then 1
  else
   bif bif JZ a L then JZ a L else bif Ja a L then Ja a L else bif Jc a L then Jc a L else J2 14 (J0 a L) L == 4 then 2
   else
   bif bif Jb a L then Jb a L else J2 14 (J0 a L) L == 6 then 3
   else
   bif J2 14 (J0 a L) L == 7 then 4
   else
   bif J2 14 (J0 a L) L == 8 then 6
   else
   bif J2 14 (J0 a L) L == 9 then 7
   else
   bif J2 14 (J0 a L) L == 10 then 8
   else
   bif J2 14 (J0 a L) L == 11 then 9
   else
   bif J2 14 (J0 a L) L == 12 then 10 else bif (J2 3 (J0 (J0 a L) L) L).toNat.beq 0 then 11 else bif (J2 3 (J0 (J0 a L) L) L).toNat.beq 1 then 12 else 13
def JBD:Int:=
  bif J2 14 (J0 a L) L == 0 then J2 30 a L
  else
   bif bif JZ a L then JZ a L else bif Ja a L then Ja a L else bif Jc a L then Jc a L else J2 14 (J0 a L) L == 4 then J2 30 a L
   else bif bif Jb a L then Jb a L else J2 14 (J0 a L) L == 6 then J2 30 a L else J2 30 a L
def ZL:Int:=
  bif J2 14 (J0 a L) L == 0 then x
  else
   bif bif JZ a L then JZ a L else bif Ja a L then Ja a L else bif Jc a L then Jc a L else J2 14 (J0 a L) L == 4 then x
   else bif bif Jb a L then Jb a L else J2 14 (J0 a L) L == 6 then x else bif J2 14 (J0 a L) L == 7 then x else bif J2 14 (J0 a L) L == 8 then x else 0
def WA:Int:=
  bif J2 14 (J0 a L) L == 0 then JD x (Js 300 (J0 (J0 a L) L) L)
  else
   bif bif JZ a L then JZ a L else bif Ja a L then Ja a L else bif Jc a L then Jc a L else J2 14 (J0 a L) L == 4 then
   JD x (Js 300 (J0 (J0 a L) L) L)
   else
   bif bif Jb a L then Jb a L else J2 14 (J0 a L) L == 6 then JD (JY1 (J0 (J0 a L) L) L) (J3 x (JQg (J0 (J0 a L) L) L))
   else bif J2 14 (J0 a L) L == 7 then JD x (Js 300 (J0 (J0 a L) L) L) else bif J2 14 (J0 a L) L == 8 then JD x (Js 300 (J0 (J0 a L) L) L) else 0
def W7:Int:=
  bif J2 14 (J0 a L) L == 0 then JD y (Jt 300 (J0 (J0 a L) L) L)
  else
   bif bif JZ a L then JZ a L else bif Ja a L then Ja a L else bif Jc a L then Jc a L else J2 14 (J0 a L) L == 4 then
   JD y (Jt 300 (J0 (J0 a L) L) L)
   else
   bif bif Jb a L then Jb a L else J2 14 (J0 a L) L == 6 then JD (JVY (J0 (J0 a L) L) L) (J3 y (JQi (J0 (J0 a L) L) L))
   else bif J2 14 (J0 a L) L == 7 then JD y (Jt 300 (J0 (J0 a L) L) L) else bif J2 14 (J0 a L) L == 8 then JD y (Jt 300 (J0 (J0 a L) L) L) else 0
def WD:Int:=
  bif J2 14 (J0 a L) L == 0 then JD z (Jw 300 (J0 (J0 a L) L) L)
  else
   bif bif JZ a L then JZ a L else bif Ja a L then Ja a L else bif Jc a L then Jc a L else J2 14 (J0 a L) L == 4 then
   JD z (Jw 300 (J0 (J0 a L) L) L)
   else
   bif bif Jb a L then Jb a L else J2 14 (J0 a L) L == 6 then JD (JW0 (J0 (J0 a L) L) L) (J3 z (JOh (J0 (J0 a L) L) L))
   else bif J2 14 (J0 a L) L == 7 then JD z (Jw 300 (J0 (J0 a L) L) L) else bif J2 14 (J0 a L) L == 8 then JD z (Jw 300 (J0 (J0 a L) L) L) else 0
def JB6:Int:=
  bif J2 14 (J0 a L) L == 0 then 0
  else
   bif bif JZ a L then JZ a L else bif Ja a L then Ja a L else bif Jc a L then Jc a L else J2 14 (J0 a L) L == 4 then 0
   else bif bif Jb a L then Jb a L else J2 14 (J0 a L) L == 6 then JG 17 19 (J0 (J0 a L) L) L else 0
def JBW:Int:=
  bif J2 14 (J0 a L) L == 0 then 0
  else
   bif bif JZ a L then JZ a L else bif Ja a L then Ja a L else bif Jc a L then Jc a L else J2 14 (J0 a L) L == 4 then 0
   else bif bif Jb a L then Jb a L else J2 14 (J0 a L) L == 6 then JD (JVc (J0 (J0 a L) L) L) (J3 x (JQg (J0 (J0 a L) L) L)) else 0
def qX:Int:=
  bif J2 14 (J0 a L) L == 0 then 0
  else
   bif bif JZ a L then JZ a L else bif Ja a L then Ja a L else bif Jc a L then Jc a L else J2 14 (J0 a L) L == 4 then 0
   else bif bif Jb a L then Jb a L else J2 14 (J0 a L) L == 6 then JD (JXR (J0 (J0 a L) L) L) (J3 y (JQi (J0 (J0 a L) L) L)) else 0
def zB:Int:=
  bif J2 14 (J0 a L) L == 0 then 0
  else
   bif bif JZ a L then JZ a L else bif Ja a L then Ja a L else bif Jc a L then Jc a L else J2 14 (J0 a L) L == 4 then 0
   else bif bif Jb a L then Jb a L else J2 14 (J0 a L) L == 6 then JD (JY4 (J0 (J0 a L) L) L) (J3 z (JOh (J0 (J0 a L) L) L)) else 0
def q7:Int:=
  bif J2 14 (J0 a L) L == 0 then 0
  else
   bif bif JZ a L then JZ a L else bif Ja a L then Ja a L else bif Jc a L then Jc a L else J2 14 (J0 a L) L == 4 then 0
   else bif bif Jb a L then Jb a L else J2 14 (J0 a L) L == 6 then JVt (J0 (J0 a L) L) L else 0
def z9:Bool:=
  bif J2 14 (J0 a L) L == 0 then false
  else
   bif bif JZ a L then JZ a L else bif Ja a L then Ja a L else bif Jc a L then Jc a L else J2 14 (J0 a L) L == 4 then false
   else (bif Jb a L then Jb a L else J2 14 (J0 a L) L == 6) && JPm (J0 (J0 a L) L) L
def qr:Int:=
  bif J2 14 (J0 a L) L == 0 then 0
  else
   bif bif JZ a L then JZ a L else bif Ja a L then Ja a L else bif Jc a L then Jc a L else J2 14 (J0 a L) L == 4 then
   JG 1 90000 (J0 (J0 (J0 (J0 (J0 a L) L) L) L) L) L
   else
   bif bif Jb a L then Jb a L else J2 14 (J0 a L) L == 6 then
   JG 1 90000 (J0 (J0 (J0 (J0 (J0 (JN (J0 (J0 (J0 a L) L) L) L) L) L) L) L) L) L
   else
   bif J2 14 (J0 a L) L == 7 then JG 1 90000 (J0 (J0 (J0 (J0 (J0 a L) L) L) L) L) L
   else bif J2 14 (J0 a L) L == 8 then JG 1 9000 (J0 (J0 (J0 (J0 (J0 a L) L) L) L) L) L else 0
def qg:Bool:=
  bif J2 14 (J0 a L) L == 0 then false
  else
   bif bif JZ a L then JZ a L else bif Ja a L then Ja a L else bif Jc a L then Jc a L else J2 14 (J0 a L) L == 4 then
   J2 5 (J0 (J0 (J0 (J0 (J0 (J0 a L) L) L) L) L) L) L == 0
   else
   bif bif Jb a L then Jb a L else J2 14 (J0 a L) L == 6 then JQy (J0 (J0 a L) L) L
   else bif J2 14 (J0 a L) L == 7 then false else J2 14 (J0 a L) L == 8
def qf:Int:=
  bif J2 14 (J0 a L) L == 0 then 0
  else
   bif bif JZ a L then JZ a L else bif Ja a L then Ja a L else bif Jc a L then Jc a L else J2 14 (J0 a L) L == 4 then
   J2 50 (J0 (J0 (J0 (J0 (J0 (J0 (J0 a L) L) L) L) L) L) L) L
   else
   bif bif Jb a L then Jb a L else J2 14 (J0 a L) L == 6 then
   J2 200 (J0 (J0 (J0 (J0 (J0 (J0 (J0 (JN (J0 (J0 (J0 a L) L) L) L) L) L) L) L) L) L) L) L
   else 0
def qe:Int:=
  bif J2 14 (J0 a L) L == 0 then 0
  else
   bif bif JZ a L then JZ a L else bif Ja a L then Ja a L else bif Jc a L then Jc a L else J2 14 (J0 a L) L == 4 then 0
   else
   bif bif Jb a L then Jb a L else J2 14 (J0 a L) L == 6 then 0
   else
   bif J2 14 (J0 a L) L == 7 then 0
   else
   bif J2 14 (J0 a L) L == 8 then JG 3 4 (J0 (J0 (J0 (J0 (J0 (J0 a L) L) L) L) L) L) L
   else
   bif J2 14 (J0 a L) L == 9 then J2 100 (J0 (J0 a L) L) L
   else
   bif J2 14 (J0 a L) L == 10 then JG 3 5 (J0 (J0 a L) L) L
   else bif J2 14 (J0 a L) L == 11 then JG 7 8 (J0 (J0 a L) L) L else bif J2 14 (J0 a L) L == 12 then J2 16 (J0 (J0 a L) L) L else 0
def qp:Int:=
  bif J2 14 (J0 a L) L == 0 then 0
  else
   bif bif JZ a L then JZ a L else bif Ja a L then Ja a L else bif Jc a L then Jc a L else J2 14 (J0 a L) L == 4 then 0
   else
   bif bif Jb a L then Jb a L else J2 14 (J0 a L) L == 6 then 0
   else
   bif J2 14 (J0 a L) L == 7 then 0
   else
   bif J2 14 (J0 a L) L == 8 then 0
   else
   bif J2 14 (J0 a L) L == 9 then 0
   else bif J2 14 (J0 a L) L == 10 then bif decide (JG 3 5 (J0 (J0 a L) L) L < 5) then J2 9000 (J0 (J0 (J0 a L) L) L) L else 0 else 0
def JSN:Bool:=
  J2 2 (J0 (J0 (J0 a L) L) L) L == 0
def q8:Bool:=
  bif J2 14 (J0 a L) L == 0 then false
  else
   bif bif JZ a L then JZ a L else bif Ja a L then Ja a L else bif Jc a L then Jc a L else J2 14 (J0 a L) L == 4 then false
   else
   bif bif Jb a L then Jb a L else J2 14 (J0 a L) L == 6 then false
   else
   bif J2 14 (J0 a L) L == 7 then false
   else
   bif J2 14 (J0 a L) L == 8 then false
   else
   bif J2 14 (J0 a L) L == 9 then false
   else bif J2 14 (J0 a L) L == 10 then false else bif J2 14 (J0 a L) L == 11 then JSN a L else J2 14 (J0 a L) L == 12 && JSN a L
def Yo:Int:=
  bif J2 14 (J0 a L) L == 0 then J0 (J0 (J0 (J0 (J0 a L) L) L) L) L
  else
   bif bif JZ a L then JZ a L else bif Ja a L then Ja a L else bif Jc a L then Jc a L else J2 14 (J0 a L) L == 4 then
   J0 (J0 (J0 (J0 (J0 (J0 (J0 (J0 a L) L) L) L) L) L) L) L
   else
   bif bif Jb a L then Jb a L else J2 14 (J0 a L) L == 6 then
   J0 (J0 (J0 (J0 (J0 (J0 (J0 (J0 (J0 (JN (J0 (J0 (J0 a L) L) L) L) L) L) L) L) L) L) L) L) L
   else
   bif J2 14 (J0 a L) L == 7 then J0 (J0 (J0 (J0 (J0 (J0 a L) L) L) L) L) L
   else
   bif J2 14 (J0 a L) L == 8 then J0 (J0 (J0 (J0 (J0 (J0 (J0 a L) L) L) L) L) L) L
   else
   bif J2 14 (J0 a L) L == 9 then J0 (J0 (J0 a L) L) L
   else
   bif J2 14 (J0 a L) L == 10 then bif decide (JG 3 5 (J0 (J0 a L) L) L < 5) then J0 (J0 (J0 (J0 a L) L) L) L else J0 (J0 (J0 a L) L) L
   else
   bif J2 14 (J0 a L) L == 11 then J0 (J0 (J0 (J0 a L) L) L) L
   else bif J2 14 (J0 a L) L == 12 then J0 (J0 (J0 (J0 a L) L) L) L else J0 (J0 (J0 a L) L) L
def JTr:Prop:=
  0 ≤ J0 (J0 (J0 a L) L) L ∧ L.length ≤ 1000000 ∧ Int.ofNat 2 ≠ 0
def jK:List Prop:=
  [0 ≤ a,L.length ≤ 1000000,Int.ofNat 30 ≠ 0,0 ≤ J0 a L,L.length ≤ 1000000,Int.ofNat 14 ≠ 0,
   (J2 14 (J0 a L) L == 0) = true → 0 ≤ J0 (J0 a L) L ∧ L.length ≤ 1000000 ∧ Int.ofNat 0 ≤ 300 ∧ Int.ofNat 300 ≤ 1000000,
   (J2 14 (J0 a L) L == 0) = false →
   ((bif JZ a L then JZ a L else bif Ja a L then Ja a L else bif Jc a L then Jc a L else J2 14 (J0 a L) L == 4) = true →
   0 ≤ J0 (J0 a L) L ∧
   L.length ≤ 1000000 ∧
   (Int.ofNat 0 ≤ 300 ∧ Int.ofNat 300 ≤ 1000000) ∧
   0 ≤ J0 (J0 (J0 (J0 (J0 a L) L) L) L) L ∧
   L.length ≤ 1000000 ∧
   (Int.ofNat 1 ≤ 90000 ∧ -1000000 ≤ 1 ∧ Int.ofNat 90000 ≤ 1000000) ∧
   0 ≤ J0 (J0 (J0 (J0 (J0 (J0 a L) L) L) L) L) L ∧
   L.length ≤ 1000000 ∧ Int.ofNat 5 ≠ 0 ∧ 0 ≤ J0 (J0 (J0 (J0 (J0 (J0 (J0 a L) L) L) L) L) L) L ∧ L.length ≤ 1000000 ∧ Int.ofNat 50 ≠ 0) ∧
   ((bif JZ a L then JZ a L else bif Ja a L then Ja a L else bif Jc a L then Jc a L else J2 14 (J0 a L) L == 4) = false →
   ((bif Jb a L then Jb a L else J2 14 (J0 a L) L == 6) = true → 0 ≤ J0 (J0 a L) L ∧ L.length ≤ 1000000) ∧
   ((bif Jb a L then Jb a L else J2 14 (J0 a L) L == 6) = false →
   ((J2 14 (J0 a L) L == 7) = true →
   0 ≤ J0 (J0 a L) L ∧
   L.length ≤ 1000000 ∧
   (Int.ofNat 0 ≤ 300 ∧ Int.ofNat 300 ≤ 1000000) ∧
   0 ≤ J0 (J0 (J0 (J0 (J0 a L) L) L) L) L ∧ L.length ≤ 1000000 ∧ Int.ofNat 1 ≤ 90000 ∧ -1000000 ≤ 1 ∧ Int.ofNat 90000 ≤ 1000000) ∧
   ((J2 14 (J0 a L) L == 7) = false →
   ((J2 14 (J0 a L) L == 8) = true →
   0 ≤ J0 (J0 a L) L ∧
   L.length ≤ 1000000 ∧
   (Int.ofNat 0 ≤ 300 ∧ Int.ofNat 300 ≤ 1000000) ∧
   0 ≤ J0 (J0 (J0 (J0 (J0 a L) L) L) L) L ∧
   L.length ≤ 1000000 ∧
   (Int.ofNat 1 ≤ 9000 ∧ -1000000 ≤ 1 ∧ Int.ofNat 9000 ≤ 1000000) ∧
   0 ≤ J0 (J0 (J0 (J0 (J0 (J0 a L) L) L) L) L) L ∧ L.length ≤ 1000000 ∧ Int.ofNat 3 ≤ 4 ∧ -1000000 ≤ 3 ∧ Int.ofNat 4 ≤ 1000000) ∧
   ((J2 14 (J0 a L) L == 8) = false →
   ((J2 14 (J0 a L) L == 9) = true → 0 ≤ J0 (J0 a L) L ∧ L.length ≤ 1000000 ∧ Int.ofNat 100 ≠ 0) ∧
   ((J2 14 (J0 a L) L == 9) = false →
   ((J2 14 (J0 a L) L == 10) = true →
   0 ≤ J0 (J0 a L) L ∧
   L.length ≤ 1000000 ∧
   (Int.ofNat 3 ≤ 5 ∧ -1000000 ≤ 3 ∧ Int.ofNat 5 ≤ 1000000) ∧
   (decide (JG 3 5 (J0 (J0 a L) L) L < 5) = true → 0 ≤ J0 (J0 (J0 a L) L) L ∧ L.length ≤ 1000000 ∧ Int.ofNat 9000 ≠ 0)) ∧
   ((J2 14 (J0 a L) L == 10) = false →
   ((J2 14 (J0 a L) L == 11) = true → 0 ≤ J0 (J0 a L) L ∧ L.length ≤ 1000000 ∧ (Int.ofNat 7 ≤ 8 ∧ -1000000 ≤ 7 ∧ Int.ofNat 8 ≤ 1000000) ∧ JTr a L) ∧
   ((J2 14 (J0 a L) L == 11) = false →
   ((J2 14 (J0 a L) L == 12) = true → 0 ≤ J0 (J0 a L) L ∧ L.length ≤ 1000000 ∧ Int.ofNat 16 ≠ 0 ∧ JTr a L) ∧
   ((J2 14 (J0 a L) L == 12) = false →
   0 ≤ J0 (J0 a L) L ∧
   L.length ≤ 1000000 ∧
   Int.ofNat 3 ≠ 0 ∧
   0 ≤ J2 3 (J0 (J0 a L) L) L ∧ (J2 3 (J0 (J0 a L) L) L).toNat < 3 ∧ (J2 3 (J0 (J0 a L) L) L).toNat < 3))))))))]
end
theorem JVo {a:Int} {L:LL} (hW:∀ q ∈ ([0 ≤ a,L.length ≤ 1000000]:List Prop),q):∀ q ∈ (jK a L),q := by
  simp only [awc,awn,and_true] at hW
  unfold jK
  simp only [awc,awn,and_true]
  obtain ⟨h1,h2⟩ := hW
  have nn:∀ x,0 ≤ x → 0 ≤ J0 x L := fun x h => Zo x L h h2
  have r3:∀ x,0 ≤ J2 3 x L ∧ (J2 3 x L).toNat < 3 := fun x => by have := XJ 3 x L (by omega) (by omega); omega
  have sp:∀ x,0 ≤ x → 0 ≤ JN x L := fun x h => kI h h2
  repeat' first | exact h2 | exact h1 | exact (r3 _).1 | exact (r3 _).2 | refine nn _ ?_ | refine sp _ ?_ | decide | refine And.intro ?_ ?_ | intro _
theorem JWy (x y z a:Int) (L:LL) (hNeeds:∀ pN ∈ (jK a L),pN):Runs (Jl (JE JV5) QN 28) (qx.args [.i x,.i y,.i z,.i a]) (qx.memo [.i x,.i y,.i z,.i a] [L]) qx.n (SV.agg
    [SC.int IntKind.i64 (SI.v (Qy a L)),SC.int IntKind.i64 (SI.v (JBD a L)),SC.int IntKind.i64 (SI.v (ZL x a L)),SC.int IntKind.i64 (SI.v (ZL y a L)),
     SC.int IntKind.i64 (SI.v (ZL z a L)),SC.int IntKind.i64 (SI.v (WA x a L)),SC.int IntKind.i64 (SI.v (W7 y a L)),SC.int IntKind.i64 (SI.v (WD z a L)),
     SC.int IntKind.i64 (SI.v (JB6 a L)),SC.int IntKind.i64 (SI.v (JBW x a L)),SC.int IntKind.i64 (SI.v (qX y a L)),SC.int IntKind.i64 (SI.v (zB z a L)),
     SC.int IntKind.i64 (SI.v (q7 a L)),SC.bool (SB.v (z9 a L)),SC.int IntKind.i64 (SI.v (qr a L)),SC.bool (SB.v (qg a L)),SC.int IntKind.i64 (SI.c 0),
     SC.int IntKind.i64 (SI.c 0),SC.int IntKind.i64 (SI.v (qf a L)),SC.int IntKind.i64 (SI.v (qe a L)),SC.int IntKind.i64 (SI.v (qp a L)),SC.bool (SB.v (q8 a L))])
    ([(0,Obj.blk 57 [(2,SC.wh 1),(5054,SC.int IntKind.i64 (SI.v (Yo a L)))]),(1,Obj.row true 3 1 (RowC.lst 4 [CK.int IntKind.i64] L))]) :=
  Runs.of1 (ps := (jK a L)) (by kernel_rfl) hNeeds
def JFk:List Pm → Qs → Option CRes
  | [.i x,.i y,.i z,.i a],[L] => some ⟨SV.agg
    [SC.int IntKind.i64 (SI.v (Qy a L)),SC.int IntKind.i64 (SI.v (JBD a L)),SC.int IntKind.i64 (SI.v (ZL x a L)),SC.int IntKind.i64 (SI.v (ZL y a L)),
     SC.int IntKind.i64 (SI.v (ZL z a L)),SC.int IntKind.i64 (SI.v (WA x a L)),SC.int IntKind.i64 (SI.v (W7 y a L)),SC.int IntKind.i64 (SI.v (WD z a L)),
     SC.int IntKind.i64 (SI.v (JB6 a L)),SC.int IntKind.i64 (SI.v (JBW x a L)),SC.int IntKind.i64 (SI.v (qX y a L)),SC.int IntKind.i64 (SI.v (zB z a L)),
     SC.int IntKind.i64 (SI.v (q7 a L)),SC.bool (SB.v (z9 a L)),SC.int IntKind.i64 (SI.v (qr a L)),SC.bool (SB.v (qg a L)),SC.int IntKind.i64 (SI.c 0),
     SC.int IntKind.i64 (SI.c 0),SC.int IntKind.i64 (SI.v (qf a L)),SC.int IntKind.i64 (SI.v (qe a L)),SC.int IntKind.i64 (SI.v (qp a L)),SC.bool (SB.v (q8 a L))],
    [(0,Obj.blk 57 [(2,SC.wh 1),(5054,SC.int IntKind.i64 (SI.v (Yo a L)))]),(1,Obj.row true 3 1 (RowC.lst 4 [CK.int IntKind.i64] L))],
    [0 ≤ a,L.length ≤ 1000000],[],5090⟩
  | _,_ => none
theorem JeC:Qf Tryz.prog 28 (JP qx JFk) := by
  refine JI (JF JJk 28) fun ps ls r hr hn _ => ?_
  unfold JFk at hr
  split at hr
  · cases hr; exact ⟨_,JWy _ _ _ _ _ (JVo (by exact hn)),fun _ => rfl⟩
  · cases hr
def zT:List (Nat × JU) := (28,JP qx JFk) :: JV5
theorem JII:Known Tryz.prog (JE zT) QN := J4 JJk JeC
structure IS where
  k:Nat
  a:Int
  x:Int
  y:Int
  z:Int
  R:LL
section
variable (L:LL) (s:IS) (a x y z:Int)
def itG:List GC:= [.i (Qy a L),.i (JBD a L),.i (ZL x a L),.i (ZL y a L),.i (ZL z a L),.i (WA x a L),.i (W7 y a L),.i (WD z a L),.i (JB6 a L),.i (JBW x a L),.i (qX y a L),.i (zB z a L),.i (q7 a L),.b (z9 a L),.i (qr a L),.b (qg a L),.i 0,.i 0,.i (qf a L),.i (qe a L),.i (qp a L),.b (q8 a L)]
def itV:Bool:= Wx (itG L s.a s.x s.y s.z)
def isA:IS:= ⟨s.k - 1,Yo s.a L,s.x,s.y,s.z,s.R⟩
def isB:IS:= ⟨s.k - 1,Yo s.a L,bif XZ (Qy s.a L) then WA s.x s.a L else s.x,bif XZ (Qy s.a L) then W7 s.y s.a L else s.y,bif XZ (Qy s.a L) then WD s.z s.a L else s.z,s.R ++ [jI (itG L s.a s.x s.y s.z)]⟩
def jj:IS:= bif !itV L s then isA L s else isB L s
end
def itN (L:LL):Nat → IS → IS
  | 0,s => s
  | k + 1,s => itN L k (jj L s)
def zG (L:LL):Fam IS IS where
  k := 100
  E s := [(5,ent 1000000000 (.one (I (Int.ofNat s.k)))),(4,ent 1000000001 (.one (.wh 326))),(3,ent 256 (.one (.ptr 252 0))),(0,ent 0 (.one (.ptr 0 0)))]
  M s := [(0,.blk 57 [(2,.wh 1),(1000000002,I s.a)]),Jfn L,(252,.blk 38 [(1000000003,I s.x),(1000000004,I s.y),(1000000005,I s.z)]),XS 326 1000000006 s.R]
  out s := .leaf (.exit 0) [(4,ent 321 (.one (.wh 326))),(3,ent 256 (.one (.ptr 252 0))),(0,ent 0 (.one (.ptr 0 0)))] [(0,.blk 57 [(2,.wh 1),(322,I s.a)]),Jfn L,(252,.blk 38 [(323,I s.x),(324,I s.y),(325,I s.z)]),XS 326 327 s.R]
  fin s := itN L s.k s
  next s i := match i with
    | 0 => isA L s
    | _ => isB L s
  J s := 0 ≤ s.a ∧ L.length ≤ 1000000 ∧ s.R.length + s.k ≤ 1000
  μ s := s.k
theorem JRl {a:Int} {L:LL} (h1:0 ≤ a) (h2:L.length ≤ 1000000):0 ≤ Yo a L := by
  have nn:∀ x,0 ≤ x → 0 ≤ J0 x L := fun x h => Zo x L h h2
  have sp:∀ x,0 ≤ x → 0 ≤ JN x L := fun x h => kI h h2
  unfold Yo
  repeat' first | with_reducible exact h1 | with_reducible refine nn _ ?_ | with_reducible refine sp _ ?_ | with_reducible refine JcX ?_ ?_
section
variable (L:LL) (s:IS)
def JOE:Prop:=
  decide (Int.ofNat s.k > 0) = true
def JgE:Prop:=
  (!Wx
   [GC.i (Qy s.a L),GC.i (JBD s.a L),GC.i (ZL s.x s.a L),GC.i (ZL s.y s.a L),GC.i (ZL s.z s.a L),GC.i (WA s.x s.a L),GC.i (W7 s.y s.a L),
   GC.i (WD s.z s.a L),GC.i (JB6 s.a L),GC.i (JBW s.x s.a L),GC.i (qX s.y s.a L),GC.i (zB s.z s.a L),GC.i (q7 s.a L),GC.b (z9 s.a L),
   GC.i (qr s.a L),GC.b (qg s.a L),GC.i 0,GC.i 0,GC.i (qf s.a L),GC.i (qe s.a L),GC.i (qp s.a L),GC.b (q8 s.a L)]) =
   false
def JKA:List Prop:=
  [JOE s → 0 ≤ s.a ∧ L.length ≤ 1000000 ∧ (JgE L s → (s.R.length + 1) * 176 ≤ 140737488355328 ∧ s.R.length + 1 ≤ 9223372036854775807),
    JOE s →
     ((!Wx
     [GC.i (Qy s.a L),GC.i (JBD s.a L),GC.i (ZL s.x s.a L),GC.i (ZL s.y s.a L),GC.i (ZL s.z s.a L),GC.i (WA s.x s.a L),GC.i (W7 s.y s.a L),
     GC.i (WD s.z s.a L),GC.i (JB6 s.a L),GC.i (JBW s.x s.a L),GC.i (qX s.y s.a L),GC.i (zB s.z s.a L),GC.i (q7 s.a L),GC.b (z9 s.a L),
     GC.i (qr s.a L),GC.b (qg s.a L),GC.i 0,GC.i 0,GC.i (qf s.a L),GC.i (qe s.a L),GC.i (qp s.a L),GC.b (q8 s.a L)]) =
     true →
     (0 ≤ ((zG L).next s 0).a ∧ L.length ≤ 1000000 ∧ ((zG L).next s 0).R.length + ((zG L).next s 0).k ≤ 1000) ∧
     (zG L).μ ((zG L).next s 0) < (zG L).μ s ∧
     (zG L).fin ((zG L).next s 0) = (zG L).fin s ∧
     Int.ofNat ((zG L).next s 0).k = IntKind.i64.wrap (Int.ofNat s.k - 1) ∧
     ((zG L).next s 0).a = Yo s.a L ∧ ((zG L).next s 0).x = s.x ∧ ((zG L).next s 0).y = s.y ∧ ((zG L).next s 0).z = s.z ∧ ((zG L).next s 0).R = s.R) ∧
     (JgE L s →
     (0 ≤ ((zG L).next s 1).a ∧ L.length ≤ 1000000 ∧ ((zG L).next s 1).R.length + ((zG L).next s 1).k ≤ 1000) ∧
     (zG L).μ ((zG L).next s 1) < (zG L).μ s ∧
     (zG L).fin ((zG L).next s 1) = (zG L).fin s ∧
     Int.ofNat ((zG L).next s 1).k = IntKind.i64.wrap (Int.ofNat s.k - 1) ∧
     ((zG L).next s 1).a = Yo s.a L ∧
     (((zG L).next s 1).x = bif XZ (Qy s.a L) then WA s.x s.a L else s.x) ∧
     (((zG L).next s 1).y = bif XZ (Qy s.a L) then W7 s.y s.a L else s.y) ∧
     (((zG L).next s 1).z = bif XZ (Qy s.a L) then WD s.z s.a L else s.z) ∧
     ((zG L).next s 1).R =
     s.R ++
     [[Qy s.a L,JBD s.a L,ZL s.x s.a L,ZL s.y s.a L,ZL s.z s.a L,WA s.x s.a L,W7 s.y s.a L,WD s.z s.a L,JB6 s.a L,
     JBW s.x s.a L,qX s.y s.a L,zB s.z s.a L,q7 s.a L,bif z9 s.a L then 1 else 0,qr s.a L,bif qg s.a L then 1 else 0,0,0,
     qf s.a L,qe s.a L,qp s.a L,bif q8 s.a L then 1 else 0]]),
    decide (Int.ofNat s.k > 0) = false → ((zG L).fin s).a = s.a ∧ ((zG L).fin s).x = s.x ∧ ((zG L).fin s).y = s.y ∧ ((zG L).fin s).z = s.z ∧ ((zG L).fin s).R = s.R]
end
theorem Jco (L:LL) (s:IS) (hNeeds:∀ pN ∈ (JKA L s),pN):Q3 (XF (zG L) (QR Tryz.prog (JE zT) QN 11 0) 320 s) :=
  Q3.of (ps := (JKA L s)) (by kernel_rfl) (by kernel_rfl) hNeeds
theorem JaX (L:LL):Z0 (zG L) (QR Tryz.prog (JE zT) QN 11 0) 320 := by
  intro s hJ
  obtain ⟨h1,h2,h3⟩:0 ≤ s.a ∧ L.length ≤ 1000000 ∧ s.R.length + s.k ≤ 1000 := hJ
  refine Jco L s ?_
  unfold JKA
  simp only [awc,awn,and_true]
  have en := JRl h1 h2
  have pos:JOE s → ∃ k,s.k = k + 1 := fun h => ⟨s.k - 1,by unfold JOE at h; simp at h; omega⟩
  have ek:JOE s → IntKind.i64.wrap (Int.ofNat s.k - 1) = Int.ofNat (s.k - 1) := fun h => by
    obtain ⟨k,hk⟩ := pos h
    rw [Wu (by simp; omega) (by simp; omega)]; simp; omega
  have key:∀ t,JOE s → t.k = s.k - 1 → t = jj L s → itN L t.k t = itN L s.k s := fun t h h1 h2 => by
    obtain ⟨k,hk⟩ := pos h
    rw [h1,h2,hk]; rfl
  refine ⟨fun h => ⟨h1,h2,fun _ => ⟨by omega,by omega⟩⟩,fun h => ⟨fun hv => ⟨⟨en,h2,?_⟩,?_,key _ h rfl ?_,(ek h).symm,rfl,rfl,rfl,rfl,rfl⟩,fun hv => ⟨⟨en,h2,?_⟩,?_,key _ h rfl ?_,(ek h).symm,rfl,rfl,rfl,rfl,rfl⟩⟩,fun h => ?_⟩
  · show s.R.length + (s.k - 1) ≤ 1000; omega
  · obtain ⟨k,hk⟩ := pos h
    show s.k - 1 < s.k; omega
  · unfold jj
    have hv':(!itV L s) = true := hv
    rw [hv']; rfl
  · obtain ⟨k,hk⟩ := pos h
    show (s.R ++ [_]).length + (s.k - 1) ≤ 1000
    rw [List.length_append,List.length_cons,List.length_nil]; omega
  · obtain ⟨k,hk⟩ := pos h
    show s.k - 1 < s.k; omega
  · unfold jj
    have hv':(!itV L s) = false := hv
    rw [hv']; rfl
  · have hk:s.k = 0 := by simp at h; omega
    have e:itN L s.k s = s := by rw [hk]; rfl
    show (itN L s.k s).a = s.a ∧ (itN L s.k s).x = s.x ∧ (itN L s.k s).y = s.y ∧ (itN L s.k s).z = s.z ∧ (itN L s.k s).R = s.R
    rw [e]
    exact ⟨rfl,rfl,rfl,rfl,rfl⟩
def Ji3:Q5 := fun env mem m => match SX.J6 env 5,SX.J6 mem 0,SX.J6 mem 1,SX.J6 mem 252 with
  | some ⟨_,_,_,.one (.int _ n)⟩,some (.blk _ [_,(_,.int _ a)]),some (.row _ _ _ (.lst _ _ L)),some (.blk _ [(_,.int _ x),(_,.int _ y),(_,.int _ z)]) => qS (zG L) 320 (fun _ _ => some ⟨n.val.toNat,a.val,x.val,y.val,z.val,[]⟩) env mem m
  | _,_,_,_ => none
def JOL:FuncId → Nat → Option Q5 := kR QN 11 4 Ji3
theorem JNF:Known Tryz.prog (JE zT) JOL := by
  refine Qc 0 JII (by kernel_rfl) (Z5 fun env mem m x h => ?_)
  unfold Ji3 at h
  have hlen:(QC Tryz.prog 11).length = 1 := by kernel_rfl
  split at h
  · exact ⟨_,XX (Qg XB JII (by omega)) (JaX _),h⟩
  · cases h
def is0 (a:Int) (L:LL):IS := ⟨(J2 9 (J0 (J0 (J0 a L) L) L) L).toNat,J0 (J0 (J0 (J0 a L) L) L) L,Js 2000 a L,Jt 2000 a L,Jw 2000 a L,[]⟩
def ZE (a:Int) (L:LL):LL := (itN L (is0 a L).k (is0 a L)).R
def KN:Tpl := ⟨[.one (.ptr 0 0)],[(0,.blk 57 [(2,.wh 1),(3,.int .i64)]),(1,.row true 3 1 4 [.int .i64])],5⟩
section
variable (a:Int) (L:LL)
def JQb:Int:=
  ((zG L).fin (IS.mk (J2 9 (J0 (J0 (J0 a L) L) L) L).toNat (J0 (J0 (J0 (J0 a L) L) L) L) (Js 2000 a L) (Jt 2000 a L) (Jw 2000 a L) [])).a
def JfF:LL:=
  ((zG L).fin (IS.mk (J2 9 (J0 (J0 (J0 a L) L) L) L).toNat (J0 (J0 (J0 (J0 a L) L) L) L) (Js 2000 a L) (Jt 2000 a L) (Jw 2000 a L) [])).R
def JSj:Int:=
  (IS.mk (J2 9 (J0 (J0 (J0 a L) L) L) L).toNat (J0 (J0 (J0 (J0 a L) L) L) L) (Js 2000 a L) (Jt 2000 a L) (Jw 2000 a L) []).a
def JTd:LL:=
  (IS.mk (J2 9 (J0 (J0 (J0 a L) L) L) L).toNat (J0 (J0 (J0 (J0 a L) L) L) L) (Js 2000 a L) (Jt 2000 a L) (Jw 2000 a L) []).R
def YQ:List Prop:=
  [0 ≤ a,L.length ≤ 1000000,Int.ofNat 0 ≤ 2000 ∧ Int.ofNat 2000 ≤ 1000000,0 ≤ J0 (J0 (J0 a L) L) L,L.length ≤ 1000000,Int.ofNat 9 ≠ 0,
   0 ≤ JSj a L ∧
   L.length ≤ 1000000 ∧
   (JTd a L).length + (IS.mk (J2 9 (J0 (J0 (J0 a L) L) L) L).toNat (J0 (J0 (J0 (J0 a L) L) L) L) (Js 2000 a L) (Jt 2000 a L) (Jw 2000 a L) []).k ≤
   1000,
   Int.ofNat (IS.mk (J2 9 (J0 (J0 (J0 a L) L) L) L).toNat (J0 (J0 (J0 (J0 a L) L) L) L) (Js 2000 a L) (Jt 2000 a L) (Jw 2000 a L) []).k =
   J2 9 (J0 (J0 (J0 a L) L) L) L,
   JSj a L = J0 (J0 (J0 (J0 a L) L) L) L,
   (IS.mk (J2 9 (J0 (J0 (J0 a L) L) L) L).toNat (J0 (J0 (J0 (J0 a L) L) L) L) (Js 2000 a L) (Jt 2000 a L) (Jw 2000 a L) []).x = Js 2000 a L,
   (IS.mk (J2 9 (J0 (J0 (J0 a L) L) L) L).toNat (J0 (J0 (J0 (J0 a L) L) L) L) (Js 2000 a L) (Jt 2000 a L) (Jw 2000 a L) []).y = Jt 2000 a L,
   (IS.mk (J2 9 (J0 (J0 (J0 a L) L) L) L).toNat (J0 (J0 (J0 (J0 a L) L) L) L) (Js 2000 a L) (Jt 2000 a L) (Jw 2000 a L) []).z = Jw 2000 a L,
   JTd a L = []]
end
theorem JWb {a:Int} {L:LL} (hW:∀ q ∈ ([0 ≤ a,L.length ≤ 1000000]:List Prop),q):∀ q ∈ (YQ a L),q := by
  simp only [awc,awn,and_true] at hW
  unfold YQ
  simp only [awc,awn,and_true]
  obtain ⟨h1,h2⟩ := hW
  have nn:∀ x,0 ≤ x → 0 ≤ J0 x L := fun x h => Zo x L h h2
  have r9 := XJ 9 (J0 (J0 (J0 a L) L) L) L (by omega) (by omega)
  refine ⟨h1,h2,by decide,nn _ (nn _ (nn _ h1)),h2,by decide,⟨nn _ (nn _ (nn _ (nn _ h1))),h2,(show 0 + (J2 9 (J0 (J0 (J0 a L) L) L) L).toNat ≤ 1000 by omega)⟩,Int.toNat_of_nonneg r9.1,?_⟩
  repeat' first | exact trivial | rfl | refine And.intro ?_ ?_
theorem JXX (a:Int) (L:LL) (hNeeds:∀ pN ∈ (YQ a L),pN):Runs (Jl (JE zT) JOL 11) (KN.args [.i a]) (KN.memo [.i a] [L]) KN.n (SV.one (SC.wh 326))
    ([(0,Obj.blk 57 [(2,SC.wh 1),(322,SC.int IntKind.i64 (SI.v (JQb a L)))]),(1,Obj.row true 3 1 (RowC.lst 4 [CK.int IntKind.i64] L)),
    (326,
     Obj.row false 40 22
     (RowC.lst 327
     [CK.int IntKind.i64,CK.int IntKind.i64,CK.int IntKind.i64,CK.int IntKind.i64,CK.int IntKind.i64,CK.int IntKind.i64,CK.int IntKind.i64,CK.int IntKind.i64,CK.int IntKind.i64,
     CK.int IntKind.i64,CK.int IntKind.i64,CK.int IntKind.i64,CK.int IntKind.i64,CK.bool,CK.int IntKind.i64,CK.bool,CK.int IntKind.i64,CK.int IntKind.i64,CK.int IntKind.i64,
     CK.int IntKind.i64,CK.int IntKind.i64,CK.bool]
     (JfF a L)))]) :=
  Runs.of1 (ps := (YQ a L)) (by kernel_rfl) hNeeds
def JFz:List Pm → Qs → Option CRes
  | [.i a],[L] => some ⟨SV.one (SC.wh 326),
    [(0,Obj.blk 57 [(2,SC.wh 1),(322,SC.int IntKind.i64 (SI.v (JQb a L)))]),(1,Obj.row true 3 1 (RowC.lst 4 [CK.int IntKind.i64] L)),
    (326,
     Obj.row false 40 22
     (RowC.lst 327
     [CK.int IntKind.i64,CK.int IntKind.i64,CK.int IntKind.i64,CK.int IntKind.i64,CK.int IntKind.i64,CK.int IntKind.i64,CK.int IntKind.i64,CK.int IntKind.i64,CK.int IntKind.i64,
     CK.int IntKind.i64,CK.int IntKind.i64,CK.int IntKind.i64,CK.int IntKind.i64,CK.bool,CK.int IntKind.i64,CK.bool,CK.int IntKind.i64,CK.int IntKind.i64,CK.int IntKind.i64,
     CK.int IntKind.i64,CK.int IntKind.i64,CK.bool]
     ((ZE a L))))],
    [0 ≤ a,L.length ≤ 1000000],[],422⟩
  | _,_ => none
theorem JQI (a:Int) (L:LL) (hNeeds:∀ pN ∈ (YQ a L),pN):Runs (Jl (JE zT) JOL 11) (KN.args [.i a]) (KN.memo [.i a] [L]) KN.n (SV.one (SC.wh 326))
    ([(0,Obj.blk 57 [(2,SC.wh 1),(322,SC.int IntKind.i64 (SI.v (JQb a L)))]),(1,Obj.row true 3 1 (RowC.lst 4 [CK.int IntKind.i64] L)),
    (326,
     Obj.row false 40 22
     (RowC.lst 327
     [CK.int IntKind.i64,CK.int IntKind.i64,CK.int IntKind.i64,CK.int IntKind.i64,CK.int IntKind.i64,CK.int IntKind.i64,CK.int IntKind.i64,CK.int IntKind.i64,CK.int IntKind.i64,
     CK.int IntKind.i64,CK.int IntKind.i64,CK.int IntKind.i64,CK.int IntKind.i64,CK.bool,CK.int IntKind.i64,CK.bool,CK.int IntKind.i64,CK.int IntKind.i64,CK.int IntKind.i64,
     CK.int IntKind.i64,CK.int IntKind.i64,CK.bool]
     ((ZE a L))))]) :=
  (JXX a L hNeeds).to (by first | rfl | (simp only [])) (by first | rfl | (simp only []))
theorem Jdd:Qf Tryz.prog 11 (JP KN JFz) := by
  refine JI (JF JNF 11) fun ps ls r hr hn _ => ?_
  unfold JFz at hr
  split at hr
  · cases hr; exact ⟨_,JQI _ _ (JWb (by exact hn)),fun _ => rfl⟩
  · cases hr
def JZj:List (Nat × JU) := (11,JP KN JFz) :: zT
theorem JUL:Known Tryz.prog (JE JZj) JOL := J4 JNF Jdd
def JgI:JU := fun _ _ n => some ⟨.one .nilp,[],[False],[],n⟩
theorem JdP (P:Program) (f:FuncId):Qf P f JgI := fun _ _ _ r h hn => by cases h; exact absurd (hn False (by simp)) id
def JgN:List (Nat × JU) := (2000000 + 20,JgI) :: JZj
theorem Jaj:Known Tryz.prog (JE JgN) JOL := J4 JUL (JdP _ _)
def JLl:List Pm → Qs → Option CRes
  | [],[] => some ⟨SV.one (SC.bool (SB.c true)),[],[],[],1018⟩
  | _,_ => none
theorem Jfk:Qf Tryz.prog 8 (JP Ku JLl) := by
  refine JI (JF JAW 8) fun ps ls r hr hn _ => ?_
  unfold JLl at hr
  split at hr
  · cases hr; exact ⟨_,JJH (fun p hp => JJu p hp),fun _ => rfl⟩
  · cases hr
def JJw:List (Nat × JU) := (8,JP Ku JLl) :: JgN
theorem JLa:Known Tryz.prog (JE JJw) JOL := J4 Jaj Jfk
theorem JZP (x:List GC):J1 (J1 x) = J1 x := by kernel_rfl
theorem nx0 (x:List GC):xi (J1 x) 0 = xi x 0 := by kernel_rfl
theorem nx1 (x:List GC):xi (J1 x) 1 = xi x 1 := by kernel_rfl
theorem nx2 (x:List GC):xi (J1 x) 2 = xi x 2 := by kernel_rfl
theorem nx3 (x:List GC):xi (J1 x) 3 = xi x 3 := by kernel_rfl
theorem nx4 (x:List GC):xi (J1 x) 4 = xi x 4 := by kernel_rfl
theorem nx5 (x:List GC):xi (J1 x) 5 = xi x 5 := by kernel_rfl
theorem nx6 (x:List GC):xi (J1 x) 6 = xi x 6 := by kernel_rfl
theorem nx7 (x:List GC):xi (J1 x) 7 = xi x 7 := by kernel_rfl
theorem nx8 (x:List GC):xi (J1 x) 8 = xi x 8 := by kernel_rfl
theorem nx9 (x:List GC):xi (J1 x) 9 = xi x 9 := by kernel_rfl
theorem Jhn (x:List GC):xi (J1 x) 10 = xi x 10 := by kernel_rfl
theorem JiB (x:List GC):xi (J1 x) 11 = xi x 11 := by kernel_rfl
theorem Ji6 (x:List GC):xi (J1 x) 12 = xi x 12 := by kernel_rfl
theorem JiA (x:List GC):xb (J1 x) 13 = xb x 13 := by kernel_rfl
theorem Jhf (x:List GC):xi (J1 x) 14 = xi x 14 := by kernel_rfl
theorem Jhq (x:List GC):xb (J1 x) 15 = xb x 15 := by kernel_rfl
theorem Ji5 (x:List GC):xi (J1 x) 16 = xi x 16 := by kernel_rfl
theorem Ji9 (x:List GC):xi (J1 x) 17 = xi x 17 := by kernel_rfl
theorem JiD (x:List GC):xi (J1 x) 18 = xi x 18 := by kernel_rfl
theorem Jhg (x:List GC):xi (J1 x) 19 = xi x 19 := by kernel_rfl
theorem Jhx (x:List GC):xi (J1 x) 20 = xi x 20 := by kernel_rfl
theorem Ji1 (x:List GC):xb (J1 x) 21 = xb x 21 := by kernel_rfl
section
variable (u w:Int) (tm:Bool) (l y x:List GC) (s:St)
def inv:Bool:= !QP (J1 x) || s.en || J5 (xi x 0) && s.mo && !(xi x 2 == s.la0 && (xi x 3 == s.la1 && xi x 4 == s.la2))
def mvd:St:= { s with en := xi x 0 == 14,mo := J5 (xi x 0) || s.mo,la0 := bif J5 (xi x 0) then xi x 5 else s.la0,la1 := bif J5 (xi x 0) then xi x 6 else s.la1,la2 := bif J5 (xi x 0) then xi x 7 else s.la2 }
def nE:Int:= QB (J9 (xi l 8) (xi x 2) (xi x 3) (xi x 4)) (J8 (xi l 8) (xi x 2) (xi x 3) (xi x 4)) (J9 (xi l 8) (xi x 5) (xi x 6) (xi x 7)) (J8 (xi l 8) (xi x 5) (xi x 6) (xi x 7)) (bif xi x 0 == 3 then J9 (xi l 8) (xi x 9) (xi x 10) (xi x 11) else 0) (bif xi x 0 == 3 then J8 (xi l 8) (xi x 9) (xi x 10) (xi x 11) else 0) (bif xi x 0 == 3 then xi x 12 else 0) (IntKind.i64.wrap (xi l 16 * xi l 17))
def n0:Int:= ZX (J9 (xi l 8) (xi x 2) (xi x 3) (xi x 4)) (J8 (xi l 8) (xi x 2) (xi x 3) (xi x 4)) (J9 (xi l 8) (xi x 5) (xi x 6) (xi x 7)) (J8 (xi l 8) (xi x 5) (xi x 6) (xi x 7)) (bif xi x 0 == 3 then J9 (xi l 8) (xi x 9) (xi x 10) (xi x 11) else 0) (bif xi x 0 == 3 then J8 (xi l 8) (xi x 9) (xi x 10) (xi x 11) else 0) (bif xi x 0 == 3 then xi x 12 else 0) (IntKind.i64.wrap (xi l 16 * xi l 17))
def n1:Int:= ZV (J9 (xi l 8) (xi x 2) (xi x 3) (xi x 4)) (J8 (xi l 8) (xi x 2) (xi x 3) (xi x 4)) (J9 (xi l 8) (xi x 5) (xi x 6) (xi x 7)) (J8 (xi l 8) (xi x 5) (xi x 6) (xi x 7)) (bif xi x 0 == 3 then J9 (xi l 8) (xi x 9) (xi x 10) (xi x 11) else 0) (bif xi x 0 == 3 then J8 (xi l 8) (xi x 9) (xi x 10) (xi x 11) else 0) (bif xi x 0 == 3 then xi x 12 else 0) (IntKind.i64.wrap (xi l 16 * xi l 17))
def f0:Int:= Zk (J9 (xi l 8) (xi x 2) (xi x 3) (xi x 4)) (J8 (xi l 8) (xi x 2) (xi x 3) (xi x 4)) (J9 (xi l 8) (xi x 5) (xi x 6) (xi x 7)) (J8 (xi l 8) (xi x 5) (xi x 6) (xi x 7)) (bif xi x 0 == 3 then J9 (xi l 8) (xi x 9) (xi x 10) (xi x 11) else 0) (bif xi x 0 == 3 then J8 (xi l 8) (xi x 9) (xi x 10) (xi x 11) else 0) (bif xi x 0 == 3 then xi x 12 else 0) (IntKind.i64.wrap (xi l 16 * xi l 17))
def f1:Int:= Zi (J9 (xi l 8) (xi x 2) (xi x 3) (xi x 4)) (J8 (xi l 8) (xi x 2) (xi x 3) (xi x 4)) (J9 (xi l 8) (xi x 5) (xi x 6) (xi x 7)) (J8 (xi l 8) (xi x 5) (xi x 6) (xi x 7)) (bif xi x 0 == 3 then J9 (xi l 8) (xi x 9) (xi x 10) (xi x 11) else 0) (bif xi x 0 == 3 then J8 (xi l 8) (xi x 9) (xi x 10) (xi x 11) else 0) (bif xi x 0 == 3 then xi x 12 else 0) (IntKind.i64.wrap (xi l 16 * xi l 17))
def trE:Int:= JPL (J9 (xi l 8) (xi y 2) (xi y 3) (xi y 4)) (J8 (xi l 8) (xi y 2) (xi y 3) (xi y 4)) (J9 (xi l 8) (xi y 5) (xi y 6) (xi y 7)) (J8 (xi l 8) (xi y 5) (xi y 6) (xi y 7)) (bif xi y 0 == 3 then J9 (xi l 8) (xi y 9) (xi y 10) (xi y 11) else 0) (bif xi y 0 == 3 then J8 (xi l 8) (xi y 9) (xi y 10) (xi y 11) else 0) (bif xi y 0 == 3 then xi y 12 else 0) (xi y 0 == 3 && xb y 13) (J9 (xi l 8) (xi x 2) (xi x 3) (xi x 4)) (J8 (xi l 8) (xi x 2) (xi x 3) (xi x 4)) (J9 (xi l 8) (xi x 5) (xi x 6) (xi x 7)) (J8 (xi l 8) (xi x 5) (xi x 6) (xi x 7)) (bif xi x 0 == 3 then J9 (xi l 8) (xi x 9) (xi x 10) (xi x 11) else 0) (bif xi x 0 == 3 then J8 (xi l 8) (xi x 9) (xi x 10) (xi x 11) else 0) (bif xi x 0 == 3 then xi x 12 else 0) (xi x 0 == 3 && xb x 13) (IntKind.i64.wrap (xi l 16 * xi l 17))
def tr0:Int:= JMH (J9 (xi l 8) (xi y 2) (xi y 3) (xi y 4)) (J8 (xi l 8) (xi y 2) (xi y 3) (xi y 4)) (J9 (xi l 8) (xi y 5) (xi y 6) (xi y 7)) (J8 (xi l 8) (xi y 5) (xi y 6) (xi y 7)) (bif xi y 0 == 3 then J9 (xi l 8) (xi y 9) (xi y 10) (xi y 11) else 0) (bif xi y 0 == 3 then J8 (xi l 8) (xi y 9) (xi y 10) (xi y 11) else 0) (bif xi y 0 == 3 then xi y 12 else 0) (xi y 0 == 3 && xb y 13) (J9 (xi l 8) (xi x 2) (xi x 3) (xi x 4)) (J8 (xi l 8) (xi x 2) (xi x 3) (xi x 4)) (J9 (xi l 8) (xi x 5) (xi x 6) (xi x 7)) (J8 (xi l 8) (xi x 5) (xi x 6) (xi x 7)) (bif xi x 0 == 3 then J9 (xi l 8) (xi x 9) (xi x 10) (xi x 11) else 0) (bif xi x 0 == 3 then J8 (xi l 8) (xi x 9) (xi x 10) (xi x 11) else 0) (bif xi x 0 == 3 then xi x 12 else 0) (xi x 0 == 3 && xb x 13) (IntKind.i64.wrap (xi l 16 * xi l 17))
def tr1:Int:= JJR (J9 (xi l 8) (xi y 2) (xi y 3) (xi y 4)) (J8 (xi l 8) (xi y 2) (xi y 3) (xi y 4)) (J9 (xi l 8) (xi y 5) (xi y 6) (xi y 7)) (J8 (xi l 8) (xi y 5) (xi y 6) (xi y 7)) (bif xi y 0 == 3 then J9 (xi l 8) (xi y 9) (xi y 10) (xi y 11) else 0) (bif xi y 0 == 3 then J8 (xi l 8) (xi y 9) (xi y 10) (xi y 11) else 0) (bif xi y 0 == 3 then xi y 12 else 0) (xi y 0 == 3 && xb y 13) (J9 (xi l 8) (xi x 2) (xi x 3) (xi x 4)) (J8 (xi l 8) (xi x 2) (xi x 3) (xi x 4)) (J9 (xi l 8) (xi x 5) (xi x 6) (xi x 7)) (J8 (xi l 8) (xi x 5) (xi x 6) (xi x 7)) (bif xi x 0 == 3 then J9 (xi l 8) (xi x 9) (xi x 10) (xi x 11) else 0) (bif xi x 0 == 3 then J8 (xi l 8) (xi x 9) (xi x 10) (xi x 11) else 0) (bif xi x 0 == 3 then xi x 12 else 0) (xi x 0 == 3 && xb x 13) (IntKind.i64.wrap (xi l 16 * xi l 17))
def kd:Int:= bif IntKind.i64.wrap (xi l 16 * xi l 17) == 0 then 0 else JBE (Qe (xi y 0) (xi y 2) (xi y 3) (xi y 4) (xi y 5) (xi y 6) (xi y 7) (xi y 8) (xi y 9) (xi y 10) (xi y 11) (xi y 12) true) (Qd (xi y 0) (xi y 2) (xi y 3) (xi y 4) (xi y 5) (xi y 6) (xi y 7) (xi y 8) (xi y 9) (xi y 10) (xi y 11) (xi y 12) true) (Qe (xi x 0) (xi x 2) (xi x 3) (xi x 4) (xi x 5) (xi x 6) (xi x 7) (xi x 8) (xi x 9) (xi x 10) (xi x 11) (xi x 12) false) (Qd (xi x 0) (xi x 2) (xi x 3) (xi x 4) (xi x 5) (xi x 6) (xi x 7) (xi x 8) (xi x 9) (xi x 10) (xi x 11) (xi x 12) false) (xi l 16)
def shE:Int:= Q7 u w tm (J1 s.l) (J1 s.y) s.a0 s.a1 s.tr
end
section
variable (x l:List GC)
def Ji4:Bool:= !J5 (xi x 0) || !(xb x 13 || !(J9 (xi l 8) (xi x 2) (xi x 3) (xi x 4) == J9 (xi l 8) (xi x 5) (xi x 6) (xi x 7) && J8 (xi l 8) (xi x 2) (xi x 3) (xi x 4) == J8 (xi l 8) (xi x 5) (xi x 6) (xi x 7)))
def odd:Bool:= J5 (xi x 0) && (xi x 8 != xi l 8 || xi x 16 != xi l 16 || xi x 17 != xi l 17)
def three:Bool:= xi x 0 == 1 || xi x 0 == 11 || xi x 0 == 14
end
theorem JWJ (x:List GC) (s:St) (he:s.er = 0) (hl:J1 s.l = s.l) (hy:J1 s.y = s.y) (hc:s.cl = false) (hi:inv x s = false) (ho:s.op = false) (hm:(J5 (xi x 0) && xi x 16 != 0) = false) :
    KQ x s = mvd x s ∧ JBp x s = [jI x] := by
  unfold inv at hi
  have e2:(s.er == 0) = true := by rw [he]; rfl
  refine ⟨?_,?_⟩
  · unfold KQ mvd
    simp only [JDG,ZM,JWd,JXi,JV3,JWr,JXU,JWz,JWc,JVb,JWt,JOx,JPT,JQT,JQJ,JIq,JPQ,JQz,JOY,JQN,JPq,JOb,JQq,JQA,JPp,ZO,JQB,JPg,JOo,JPB,JOJ,JQ4,JR2,JPb,JPM,JOf,JOd,JPw,JQF,JJA,JRL,JOr,JQO,JPY,JQa,JPX,JOa,JPK,JQm,JPV,JQZ,JP1,JQD,JPt,JPS,JOs,JPR,JQr,JBL,JE1,JIv,JJ4,zZ,JCd,JLL,JKf,JKk,JLc,JMG,JJW,JKo,JJd,JEm,JFD,JDs,JDT,JDS,JDi,JF1,JFY,JDV,JDb,JE4,JES,JE7,JEe,JDe,JEk,JFN,JEU,JEc,JEE,JF0,JFB,JEC,JE8,JDI,JDq,JDt,JEI,JDj,JFK,JEA,JDy,JEt,JEg,JEO,JF6,JFd,JDW,JDc,JDM,JE3,JEX,JEZ,JEn,JFa,j9,zl,JZP,nx0,nx1,nx2,nx3,nx4,nx5,nx6,nx7,nx8,nx9,Jhn,JiB,Ji6,JiA,Jhf,Jhq,Ji5,Ji9,JiD,Jhg,Jhx,Ji1,e2,hc,hi,cond_true,cond_false,Bool.not_false,Bool.not_true,Bool.true_and,Bool.false_and,Bool.and_false,Bool.and_true,Bool.or_false,Bool.false_or,beq_self_eq_true,bne_self_eq_false,ho,hm]
    simp only [he]
    try rw [← hl]
    try rw [← hy]
    all_goals rfl
  · unfold JBp
    simp only [JDG,JBL,JIv,JJ4,JCd,KF,JZP,nx0,nx1,nx2,nx3,nx4,nx5,nx6,nx7,nx8,nx9,Jhn,JiB,Ji6,JiA,Jhf,Jhq,Ji5,Ji9,JiD,Jhg,Jhx,Ji1,e2,hc,hi,cond_true,cond_false,Bool.not_false,Bool.not_true,Bool.true_and,Bool.false_and,Bool.and_false,Bool.and_true,Bool.or_false,Bool.false_or,beq_self_eq_true,bne_self_eq_false,ho,hm]
    all_goals rfl
def Jhz (x:List GC) (s:St):Int :=
  bif s.cl then 13 else bif inv x s then 1 else
  bif !s.op && J5 (xi x 0) && xi x 16 != 0 then (bif !JR (J1 x) (xi x 8) (xi x 17) then 14 else 0)
  else bif !s.op then 0
  else bif J5 (xi x 0) && xi x 16 == 0 then
    (bif !JR (J1 x) (xi s.l 8) (xi s.l 17) || xi s.y 0 == 0 then 14 else
      bif nE s.l s.y == 0 then (bif shE (f0 s.l s.y) (f1 s.l s.y) false s != 0 then shE (f0 s.l s.y) (f1 s.l s.y) false s else 0) else (bif nE s.l s.y != 0 then nE s.l s.y else 0))
  else bif three x then 13 else bif odd x s.l then 13
  else bif Ji4 x s.l then (bif Int.ofNat s.C.length == 8 then 10 else 0)
  else bif xi s.y 0 == 0 then (bif nE s.l x != 0 then nE s.l x else 0)
  else bif kd s.l s.y x == 2 then
    (bif trE s.l s.y x == 0 then (bif shE (tr0 s.l s.y x) (tr1 s.l s.y x) true s != 0 then shE (tr0 s.l s.y x) (tr1 s.l s.y x) true s else 0) else (bif trE s.l s.y x != 0 then trE s.l s.y x else 0))
  else (bif nE s.l s.y != 0 then nE s.l s.y else
    bif nE s.l x == 0 then (bif shE (f0 s.l s.y) (f1 s.l s.y) false s != 0 then shE (f0 s.l s.y) (f1 s.l s.y) false s else 0) else (bif nE s.l x != 0 then nE s.l x else 0))
theorem JKi (x:List GC) (s:St) (he:s.er = 0):WX x s = Jhz x s := by
  unfold WX
  rw [Jb1]
  unfold j9
  rw [he,beq_self_eq_true,cond_true]
  kernel_rfl
structure PlS where
  i:Nat
  s:St
structure PlF where
  bad:Bool
  s:St
def plN (X:LL):Nat → PlS → PlF
  | 0,a => ⟨false,a.s⟩
  | n + 1,a => plN X n ⟨a.i + 1,KQ (JC (X.getD a.i [])) a.s⟩
def Pl:LL → Bool → Int → Int → Int → Prop
  | [],_,_,_,_ => True
  | r :: X,mo,u,v,w => QP (JC r) = true ∧ xi (JC r) 16 = 0 ∧ xi (JC r) 0 ≠ 14 ∧ (J5 (xi (JC r) 0) = true → mo = true → xi (JC r) 2 = u ∧ xi (JC r) 3 = v ∧ xi (JC r) 4 = w) ∧
    Pl X (J5 (xi (JC r) 0) || mo) (bif J5 (xi (JC r) 0) then xi (JC r) 5 else u) (bif J5 (xi (JC r) 0) then xi (JC r) 6 else v) (bif J5 (xi (JC r) 0) then xi (JC r) 7 else w)
structure PlI (X:LL) (a:PlS):Prop where
  cl:a.s.cl = false
  op:a.s.op = false
  er:a.s.er = 0
  en:a.s.en = false
  l:J1 a.s.l = a.s.l
  y:J1 a.s.y = a.s.y
  c:a.s.C.length ≤ 8
  p:Pl (X.drop a.i) a.s.mo a.s.la0 a.s.la1 a.s.la2
theorem JdZ {X:LL} {a:PlS} (h:a.i < X.length):plN X (X.length - a.i) a = plN X (X.length - (a.i + 1)) ⟨a.i + 1,KQ (JC (X.getD a.i [])) a.s⟩ := by
  have e:X.length - a.i = (X.length - (a.i + 1)) + 1 := by omega
  rw [e]; rfl
theorem JeG (x:List GC) (s:St):J1 (KQ x s).l = (KQ x s).l := by kernel_rfl
theorem Jd1 (x:List GC) (s:St):J1 (KQ x s).y = (KQ x s).y := by kernel_rfl
theorem JE6 {X:LL} {a:PlS} (h:a.i < X.length) (I:PlI X a):WX (JC (X.getD a.i [])) a.s = 0 ∧ JBp (JC (X.getD a.i [])) a.s = [jI (JC (X.getD a.i []))] ∧ PlI X ⟨a.i + 1,KQ (JC (X.getD a.i [])) a.s⟩ := by
  have hd:X.drop a.i = X.getD a.i [] :: X.drop (a.i + 1) := by
    rw [List.drop_eq_getElem_cons h]
    simp [List.getD,List.getElem?_eq_getElem h]
  obtain ⟨cl,op,er,en,hl,hy,c,p⟩ := I
  rw [hd] at p
  generalize X.getD a.i [] = r at p ⊢
  obtain ⟨p1,p2,p3,p4,p5⟩ := p
  have hi:inv (JC r) a.s = false := by
    unfold inv
    rw [show J1 (JC r) = JC r from by kernel_rfl,p1,en]
    cases hm:J5 (xi (JC r) 0)
    · rfl
    · cases hmo:a.s.mo
      · rfl
      · obtain ⟨q1,q2,q3⟩ := p4 hm hmo
        rw [q1,q2,q3]
        simp
  have hs:(J5 (xi (JC r) 0) && xi (JC r) 16 != 0) = false := by rw [p2]; cases J5 (xi (JC r) 0) <;> rfl
  obtain ⟨S1,O1⟩ := JWJ (JC r) a.s er hl hy cl hi op hs
  have hE:WX (JC r) a.s = 0 := by
    rw [JKi _ _ er]
    unfold Jhz
    rw [cl,hi,op]
    simp only [Bool.not_false,Bool.true_and,hs,cond_false,cond_true]
  refine ⟨hE,O1,?_⟩
  have e14:(xi (JC r) 0 == 14) = false := by simpa using p3
  exact ⟨by rw [S1]; exact cl,by rw [S1]; exact op,by rw [S1]; exact er,by rw [S1]; exact e14,JeG _ _,Jd1 _ _,by rw [S1]; exact c,by rw [S1]; exact p5⟩
theorem Jbh {s:St} (h:s.op = false):Ki s.op s.er s.C = 0 := by
  unfold Ki
  rw [h,Bool.not_false,Bool.or_true,cond_true]
theorem JFR (b:Bool):((bif b then (1:Int) else 0) != 0) = b := by cases b <;> rfl
def plG (k:Nat):Nat := 1000000100 + k
def plH (k:Nat):Nat := 2700 + k
def Q6 (X:LL):Fam PlS PlF where
  k := 300
  E a := [(5,ent 1000000000 (.one (I (Int.ofNat a.i)))),(4,ent 1538 (.one (.ptr 1471 0))),(3,ent 1468 (.one (.wh 1371)))]
  M a := [(1471,.blk 66 (JJB plG a.s 2600 2601)),XS 2600 1000000011 a.s.C,XS 2601 1000000012 [],XS 1371 1372 X]
  out t := .ite t.bad (.leaf .ret [(2,ent 2580 (.one (.bool (.c false))))] [])
    (.leaf (.exit 0) [(4,ent 1538 (.one (.ptr 1471 0))),(3,ent 1468 (.one (.wh 1371)))] [(1471,.blk 66 (JJB plH t.s 2600 2601)),XS 2600 2571 t.s.C,XS 2601 2572 [],XS 1371 1372 X])
  fin a := plN X (X.length - a.i) a
  next a _ := ⟨a.i + 1,KQ (JC (X.getD a.i [])) a.s⟩
  J a := a.i ≤ X.length ∧ X.length ≤ 1000 ∧ PlI X a
  μ a := X.length - a.i
section
variable (X:LL) (a:PlS)
def JEq:Prop:=
  decide (Int.ofNat a.i < Int.ofNat X.length) = true
def QK:LL:=
  JCd (JC (X.getD (Int.ofNat a.i).toNat [])) (J1 a.s.l) (J1 a.s.y) a.s.a0 a.s.a1 a.s.tr a.s.op a.s.cl a.s.en a.s.mo a.s.la0 a.s.la1 a.s.la2 a.s.er a.s.C []
def JIc:Bool:=
  zZ (JC (X.getD (Int.ofNat a.i).toNat [])) (J1 a.s.l) (J1 a.s.y) a.s.a0 a.s.a1 a.s.tr a.s.op a.s.cl a.s.en a.s.mo a.s.la0 a.s.la1 a.s.la2 a.s.er a.s.C != 0 || Int.ofNat (QK X a).length != 1
def JZo:Bool:=
  JDM (JC (X.getD (Int.ofNat a.i).toNat [])) (J1 a.s.l) (J1 a.s.y) a.s.a0 a.s.a1 a.s.tr a.s.op a.s.cl a.s.en a.s.mo a.s.la0 a.s.la1 a.s.la2 a.s.er
def JZv:Int:=
  j9 (JC (X.getD (Int.ofNat a.i).toNat [])) (J1 a.s.l) (J1 a.s.y) a.s.a0 a.s.a1 a.s.tr a.s.op a.s.cl a.s.en a.s.mo a.s.la0 a.s.la1 a.s.la2 a.s.er a.s.C
def JYx:LL:=
  zl (JC (X.getD (Int.ofNat a.i).toNat [])) (J1 a.s.l) (J1 a.s.y) a.s.a0 a.s.a1 a.s.tr a.s.op a.s.cl a.s.en a.s.mo a.s.la0 a.s.la1 a.s.la2 a.s.er a.s.C
def JKT:List Prop:=
  [JEq X a →
     0 ≤ Int.ofNat a.i ∧
     (Int.ofNat a.i).toNat < X.length ∧
     (Int.ofNat a.i).toNat < X.length ∧
     a.s.C.length ≤ 1000 ∧
     0 ≤ 800000 ∧
     (JIc X a = false → 0 < (QK X a).length) ∧
     (JIc X a = false → 0 < (QK X a).length) ∧
     (JIc X a = false → 0 ≤ Int.ofNat a.i) ∧ (JIc X a = false → (Int.ofNat a.i).toNat < X.length) ∧ (JIc X a = false → (Int.ofNat a.i).toNat < X.length),
    JEq X a →
     ((JIc X a ||
     !(((QK X a).getD 0 []).getD 0 0 == (X.getD (Int.ofNat a.i).toNat []).getD 0 0 &&
     (((QK X a).getD 0 []).getD 1 0 == (X.getD (Int.ofNat a.i).toNat []).getD 1 0 &&
     (((QK X a).getD 0 []).getD 2 0 == (X.getD (Int.ofNat a.i).toNat []).getD 2 0 &&
     (((QK X a).getD 0 []).getD 3 0 == (X.getD (Int.ofNat a.i).toNat []).getD 3 0 &&
     (((QK X a).getD 0 []).getD 4 0 == (X.getD (Int.ofNat a.i).toNat []).getD 4 0 &&
     (((QK X a).getD 0 []).getD 5 0 == (X.getD (Int.ofNat a.i).toNat []).getD 5 0 &&
     (((QK X a).getD 0 []).getD 6 0 == (X.getD (Int.ofNat a.i).toNat []).getD 6 0 &&
     (((QK X a).getD 0 []).getD 7 0 == (X.getD (Int.ofNat a.i).toNat []).getD 7 0 &&
     (((QK X a).getD 0 []).getD 8 0 == (X.getD (Int.ofNat a.i).toNat []).getD 8 0 &&
     (((QK X a).getD 0 []).getD 9 0 == (X.getD (Int.ofNat a.i).toNat []).getD 9 0 &&
     (((QK X a).getD 0 []).getD 10 0 == (X.getD (Int.ofNat a.i).toNat []).getD 10 0 &&
     (((QK X a).getD 0 []).getD 11 0 == (X.getD (Int.ofNat a.i).toNat []).getD 11 0 &&
     (((QK X a).getD 0 []).getD 12 0 == (X.getD (Int.ofNat a.i).toNat []).getD 12 0 &&
     ((((QK X a).getD 0 []).getD 13 0 != 0) == ((X.getD (Int.ofNat a.i).toNat []).getD 13 0 != 0) &&
     (((QK X a).getD 0 []).getD 14 0 == (X.getD (Int.ofNat a.i).toNat []).getD 14 0 &&
     ((((QK X a).getD 0 []).getD 15 0 != 0) == ((X.getD (Int.ofNat a.i).toNat []).getD 15 0 != 0) &&
     (((QK X a).getD 0 []).getD 16 0 == (X.getD (Int.ofNat a.i).toNat []).getD 16 0 &&
     (((QK X a).getD 0 []).getD 17 0 == (X.getD (Int.ofNat a.i).toNat []).getD 17 0 &&
     (((QK X a).getD 0 []).getD 18 0 == (X.getD (Int.ofNat a.i).toNat []).getD 18 0 &&
     (((QK X a).getD 0 []).getD 19 0 == (X.getD (Int.ofNat a.i).toNat []).getD 19 0 &&
     (((QK X a).getD 0 []).getD 20 0 == (X.getD (Int.ofNat a.i).toNat []).getD 20 0 &&
     (((QK X a).getD 0 []).getD 21 0 != 0) == ((X.getD (Int.ofNat a.i).toNat []).getD 21 0 != 0)))))))))))))))))))))) ||
     Ki (JZo X a) (JZv X a) (JYx X a) != 0) =
     true →
     ((Q6 X).fin a).bad = false → False) ∧
     ((JIc X a ||
     !(((QK X a).getD 0 []).getD 0 0 == (X.getD (Int.ofNat a.i).toNat []).getD 0 0 &&
     (((QK X a).getD 0 []).getD 1 0 == (X.getD (Int.ofNat a.i).toNat []).getD 1 0 &&
     (((QK X a).getD 0 []).getD 2 0 == (X.getD (Int.ofNat a.i).toNat []).getD 2 0 &&
     (((QK X a).getD 0 []).getD 3 0 == (X.getD (Int.ofNat a.i).toNat []).getD 3 0 &&
     (((QK X a).getD 0 []).getD 4 0 == (X.getD (Int.ofNat a.i).toNat []).getD 4 0 &&
     (((QK X a).getD 0 []).getD 5 0 == (X.getD (Int.ofNat a.i).toNat []).getD 5 0 &&
     (((QK X a).getD 0 []).getD 6 0 == (X.getD (Int.ofNat a.i).toNat []).getD 6 0 &&
     (((QK X a).getD 0 []).getD 7 0 == (X.getD (Int.ofNat a.i).toNat []).getD 7 0 &&
     (((QK X a).getD 0 []).getD 8 0 == (X.getD (Int.ofNat a.i).toNat []).getD 8 0 &&
     (((QK X a).getD 0 []).getD 9 0 == (X.getD (Int.ofNat a.i).toNat []).getD 9 0 &&
     (((QK X a).getD 0 []).getD 10 0 == (X.getD (Int.ofNat a.i).toNat []).getD 10 0 &&
     (((QK X a).getD 0 []).getD 11 0 == (X.getD (Int.ofNat a.i).toNat []).getD 11 0 &&
     (((QK X a).getD 0 []).getD 12 0 == (X.getD (Int.ofNat a.i).toNat []).getD 12 0 &&
     ((((QK X a).getD 0 []).getD 13 0 != 0) == ((X.getD (Int.ofNat a.i).toNat []).getD 13 0 != 0) &&
     (((QK X a).getD 0 []).getD 14 0 == (X.getD (Int.ofNat a.i).toNat []).getD 14 0 &&
     ((((QK X a).getD 0 []).getD 15 0 != 0) == ((X.getD (Int.ofNat a.i).toNat []).getD 15 0 != 0) &&
     (((QK X a).getD 0 []).getD 16 0 == (X.getD (Int.ofNat a.i).toNat []).getD 16 0 &&
     (((QK X a).getD 0 []).getD 17 0 == (X.getD (Int.ofNat a.i).toNat []).getD 17 0 &&
     (((QK X a).getD 0 []).getD 18 0 == (X.getD (Int.ofNat a.i).toNat []).getD 18 0 &&
     (((QK X a).getD 0 []).getD 19 0 == (X.getD (Int.ofNat a.i).toNat []).getD 19 0 &&
     (((QK X a).getD 0 []).getD 20 0 == (X.getD (Int.ofNat a.i).toNat []).getD 20 0 &&
     (((QK X a).getD 0 []).getD 21 0 != 0) == ((X.getD (Int.ofNat a.i).toNat []).getD 21 0 != 0)))))))))))))))))))))) ||
     Ki (JZo X a) (JZv X a) (JYx X a) != 0) =
     false →
     (((Q6 X).next a 1).i ≤ X.length ∧ X.length ≤ 1000 ∧ PlI X ((Q6 X).next a 1)) ∧
     (Q6 X).μ ((Q6 X).next a 1) < (Q6 X).μ a ∧
     (Q6 X).fin ((Q6 X).next a 1) = (Q6 X).fin a ∧
     Int.ofNat ((Q6 X).next a 1).i = IntKind.i64.wrap (Int.ofNat a.i + 1) ∧
     xi ((Q6 X).next a 1).s.l 0 = JLL (JC (X.getD (Int.ofNat a.i).toNat [])) (J1 a.s.l) (J1 a.s.y) a.s.a0 a.s.a1 a.s.tr a.s.op a.s.cl a.s.en a.s.mo a.s.la0 a.s.la1 a.s.la2 a.s.er ∧
     xi ((Q6 X).next a 1).s.l 1 =
     JKf (JC (X.getD (Int.ofNat a.i).toNat [])) (J1 a.s.l) (J1 a.s.y) a.s.a0 a.s.a1 a.s.tr a.s.op a.s.cl a.s.en a.s.mo a.s.la0 a.s.la1 a.s.la2 a.s.er ∧
     xi ((Q6 X).next a 1).s.l 2 =
     JKk (JC (X.getD (Int.ofNat a.i).toNat [])) (J1 a.s.l) (J1 a.s.y) a.s.a0 a.s.a1 a.s.tr a.s.op a.s.cl a.s.en a.s.mo a.s.la0 a.s.la1 a.s.la2 a.s.er ∧
     xi ((Q6 X).next a 1).s.l 3 =
     JLc (JC (X.getD (Int.ofNat a.i).toNat [])) (J1 a.s.l) (J1 a.s.y) a.s.a0 a.s.a1 a.s.tr a.s.op a.s.cl a.s.en a.s.mo a.s.la0 a.s.la1 a.s.la2 a.s.er ∧
     xi ((Q6 X).next a 1).s.l 4 =
     JMG (JC (X.getD (Int.ofNat a.i).toNat [])) (J1 a.s.l) (J1 a.s.y) a.s.a0 a.s.a1 a.s.tr a.s.op a.s.cl a.s.en a.s.mo a.s.la0 a.s.la1 a.s.la2 a.s.er ∧
     xi ((Q6 X).next a 1).s.l 5 =
     JJW (JC (X.getD (Int.ofNat a.i).toNat [])) (J1 a.s.l) (J1 a.s.y) a.s.a0 a.s.a1 a.s.tr a.s.op a.s.cl a.s.en a.s.mo a.s.la0 a.s.la1 a.s.la2 a.s.er ∧
     xi ((Q6 X).next a 1).s.l 6 =
     JKo (JC (X.getD (Int.ofNat a.i).toNat [])) (J1 a.s.l) (J1 a.s.y) a.s.a0 a.s.a1 a.s.tr a.s.op a.s.cl a.s.en a.s.mo a.s.la0 a.s.la1 a.s.la2 a.s.er ∧
     xi ((Q6 X).next a 1).s.l 7 =
     JJd (JC (X.getD (Int.ofNat a.i).toNat [])) (J1 a.s.l) (J1 a.s.y) a.s.a0 a.s.a1 a.s.tr a.s.op a.s.cl a.s.en a.s.mo a.s.la0 a.s.la1 a.s.la2 a.s.er ∧
     xi ((Q6 X).next a 1).s.l 8 =
     JEm (JC (X.getD (Int.ofNat a.i).toNat [])) (J1 a.s.l) (J1 a.s.y) a.s.a0 a.s.a1 a.s.tr a.s.op a.s.cl a.s.en a.s.mo a.s.la0 a.s.la1 a.s.la2 a.s.er ∧
     xi ((Q6 X).next a 1).s.l 9 =
     JFD (JC (X.getD (Int.ofNat a.i).toNat [])) (J1 a.s.l) (J1 a.s.y) a.s.a0 a.s.a1 a.s.tr a.s.op a.s.cl a.s.en a.s.mo a.s.la0 a.s.la1 a.s.la2 a.s.er ∧
     xi ((Q6 X).next a 1).s.l 10 =
     JDs (JC (X.getD (Int.ofNat a.i).toNat [])) (J1 a.s.l) (J1 a.s.y) a.s.a0 a.s.a1 a.s.tr a.s.op a.s.cl a.s.en a.s.mo a.s.la0 a.s.la1 a.s.la2 a.s.er ∧
     xi ((Q6 X).next a 1).s.l 11 =
     JDT (JC (X.getD (Int.ofNat a.i).toNat [])) (J1 a.s.l) (J1 a.s.y) a.s.a0 a.s.a1 a.s.tr a.s.op a.s.cl a.s.en a.s.mo a.s.la0 a.s.la1 a.s.la2 a.s.er ∧
     xi ((Q6 X).next a 1).s.l 12 =
     JDS (JC (X.getD (Int.ofNat a.i).toNat [])) (J1 a.s.l) (J1 a.s.y) a.s.a0 a.s.a1 a.s.tr a.s.op a.s.cl a.s.en a.s.mo a.s.la0 a.s.la1 a.s.la2 a.s.er ∧
     xb ((Q6 X).next a 1).s.l 13 =
     JDi (JC (X.getD (Int.ofNat a.i).toNat [])) (J1 a.s.l) (J1 a.s.y) a.s.a0 a.s.a1 a.s.tr a.s.op a.s.cl a.s.en a.s.mo a.s.la0 a.s.la1 a.s.la2
     a.s.er ∧
     xi ((Q6 X).next a 1).s.l 14 =
     JF1 (JC (X.getD (Int.ofNat a.i).toNat [])) (J1 a.s.l) (J1 a.s.y) a.s.a0 a.s.a1 a.s.tr a.s.op a.s.cl a.s.en a.s.mo a.s.la0 a.s.la1 a.s.la2
     a.s.er ∧
     xb ((Q6 X).next a 1).s.l 15 =
     JFY (JC (X.getD (Int.ofNat a.i).toNat [])) (J1 a.s.l) (J1 a.s.y) a.s.a0 a.s.a1 a.s.tr a.s.op a.s.cl a.s.en a.s.mo a.s.la0 a.s.la1 a.s.la2
     a.s.er ∧
     xi ((Q6 X).next a 1).s.l 16 =
     JDV (JC (X.getD (Int.ofNat a.i).toNat [])) (J1 a.s.l) (J1 a.s.y) a.s.a0 a.s.a1 a.s.tr a.s.op a.s.cl a.s.en a.s.mo a.s.la0 a.s.la1 a.s.la2
     a.s.er ∧
     xi ((Q6 X).next a 1).s.l 17 =
     JDb (JC (X.getD (Int.ofNat a.i).toNat [])) (J1 a.s.l) (J1 a.s.y) a.s.a0 a.s.a1 a.s.tr a.s.op a.s.cl a.s.en a.s.mo a.s.la0 a.s.la1 a.s.la2
     a.s.er ∧
     xi ((Q6 X).next a 1).s.l 18 =
     JE4 (JC (X.getD (Int.ofNat a.i).toNat [])) (J1 a.s.l) (J1 a.s.y) a.s.a0 a.s.a1 a.s.tr a.s.op a.s.cl a.s.en a.s.mo a.s.la0 a.s.la1
     a.s.la2 a.s.er ∧
     xi ((Q6 X).next a 1).s.l 19 =
     JES (JC (X.getD (Int.ofNat a.i).toNat [])) (J1 a.s.l) (J1 a.s.y) a.s.a0 a.s.a1 a.s.tr a.s.op a.s.cl a.s.en a.s.mo a.s.la0 a.s.la1
     a.s.la2 a.s.er ∧
     xi ((Q6 X).next a 1).s.l 20 =
     JE7 (JC (X.getD (Int.ofNat a.i).toNat [])) (J1 a.s.l) (J1 a.s.y) a.s.a0 a.s.a1 a.s.tr a.s.op a.s.cl a.s.en a.s.mo a.s.la0 a.s.la1
     a.s.la2 a.s.er ∧
     xb ((Q6 X).next a 1).s.l 21 =
     JEe (JC (X.getD (Int.ofNat a.i).toNat [])) (J1 a.s.l) (J1 a.s.y) a.s.a0 a.s.a1 a.s.tr a.s.op a.s.cl a.s.en a.s.mo a.s.la0 a.s.la1
     a.s.la2 a.s.er ∧
     xi ((Q6 X).next a 1).s.y 0 =
     JDe (JC (X.getD (Int.ofNat a.i).toNat [])) (J1 a.s.l) (J1 a.s.y) a.s.a0 a.s.a1 a.s.tr a.s.op a.s.cl a.s.en a.s.mo a.s.la0
     a.s.la1 a.s.la2 a.s.er ∧
     xi ((Q6 X).next a 1).s.y 1 =
     JEk (JC (X.getD (Int.ofNat a.i).toNat [])) (J1 a.s.l) (J1 a.s.y) a.s.a0 a.s.a1 a.s.tr a.s.op a.s.cl a.s.en a.s.mo a.s.la0
     a.s.la1 a.s.la2 a.s.er ∧
     xi ((Q6 X).next a 1).s.y 2 =
     JFN (JC (X.getD (Int.ofNat a.i).toNat [])) (J1 a.s.l) (J1 a.s.y) a.s.a0 a.s.a1 a.s.tr a.s.op a.s.cl a.s.en a.s.mo a.s.la0
     a.s.la1 a.s.la2 a.s.er ∧
     xi ((Q6 X).next a 1).s.y 3 =
     JEU (JC (X.getD (Int.ofNat a.i).toNat [])) (J1 a.s.l) (J1 a.s.y) a.s.a0 a.s.a1 a.s.tr a.s.op a.s.cl a.s.en a.s.mo a.s.la0
     a.s.la1 a.s.la2 a.s.er ∧
     xi ((Q6 X).next a 1).s.y 4 =
     JEc (JC (X.getD (Int.ofNat a.i).toNat [])) (J1 a.s.l) (J1 a.s.y) a.s.a0 a.s.a1 a.s.tr a.s.op a.s.cl a.s.en a.s.mo
     a.s.la0 a.s.la1 a.s.la2 a.s.er ∧
     xi ((Q6 X).next a 1).s.y 5 =
     JEE (JC (X.getD (Int.ofNat a.i).toNat [])) (J1 a.s.l) (J1 a.s.y) a.s.a0 a.s.a1 a.s.tr a.s.op a.s.cl a.s.en a.s.mo
     a.s.la0 a.s.la1 a.s.la2 a.s.er ∧
     xi ((Q6 X).next a 1).s.y 6 =
     JF0 (JC (X.getD (Int.ofNat a.i).toNat [])) (J1 a.s.l) (J1 a.s.y) a.s.a0 a.s.a1 a.s.tr a.s.op a.s.cl a.s.en a.s.mo
     a.s.la0 a.s.la1 a.s.la2 a.s.er ∧
     xi ((Q6 X).next a 1).s.y 7 =
     JFB (JC (X.getD (Int.ofNat a.i).toNat [])) (J1 a.s.l) (J1 a.s.y) a.s.a0 a.s.a1 a.s.tr a.s.op a.s.cl a.s.en a.s.mo
     a.s.la0 a.s.la1 a.s.la2 a.s.er ∧
     xi ((Q6 X).next a 1).s.y 8 =
     JEC (JC (X.getD (Int.ofNat a.i).toNat [])) (J1 a.s.l) (J1 a.s.y) a.s.a0 a.s.a1 a.s.tr a.s.op a.s.cl a.s.en
     a.s.mo a.s.la0 a.s.la1 a.s.la2 a.s.er ∧
     xi ((Q6 X).next a 1).s.y 9 =
     JE8 (JC (X.getD (Int.ofNat a.i).toNat [])) (J1 a.s.l) (J1 a.s.y) a.s.a0 a.s.a1 a.s.tr a.s.op a.s.cl a.s.en
     a.s.mo a.s.la0 a.s.la1 a.s.la2 a.s.er ∧
     xi ((Q6 X).next a 1).s.y 10 =
     JDI (JC (X.getD (Int.ofNat a.i).toNat [])) (J1 a.s.l) (J1 a.s.y) a.s.a0 a.s.a1 a.s.tr a.s.op a.s.cl a.s.en
     a.s.mo a.s.la0 a.s.la1 a.s.la2 a.s.er ∧
     xi ((Q6 X).next a 1).s.y 11 =
     JDq (JC (X.getD (Int.ofNat a.i).toNat [])) (J1 a.s.l) (J1 a.s.y) a.s.a0 a.s.a1 a.s.tr a.s.op a.s.cl
     a.s.en a.s.mo a.s.la0 a.s.la1 a.s.la2 a.s.er ∧
     xi ((Q6 X).next a 1).s.y 12 =
     JDt (JC (X.getD (Int.ofNat a.i).toNat [])) (J1 a.s.l) (J1 a.s.y) a.s.a0 a.s.a1 a.s.tr a.s.op a.s.cl
     a.s.en a.s.mo a.s.la0 a.s.la1 a.s.la2 a.s.er ∧
     xb ((Q6 X).next a 1).s.y 13 =
     JEI (JC (X.getD (Int.ofNat a.i).toNat [])) (J1 a.s.l) (J1 a.s.y) a.s.a0 a.s.a1 a.s.tr a.s.op a.s.cl
     a.s.en a.s.mo a.s.la0 a.s.la1 a.s.la2 a.s.er ∧
     xi ((Q6 X).next a 1).s.y 14 =
     JDj (JC (X.getD (Int.ofNat a.i).toNat [])) (J1 a.s.l) (J1 a.s.y) a.s.a0 a.s.a1 a.s.tr a.s.op a.s.cl
     a.s.en a.s.mo a.s.la0 a.s.la1 a.s.la2 a.s.er ∧
     xb ((Q6 X).next a 1).s.y 15 =
     JFK (JC (X.getD (Int.ofNat a.i).toNat [])) (J1 a.s.l) (J1 a.s.y) a.s.a0 a.s.a1 a.s.tr a.s.op
     a.s.cl a.s.en a.s.mo a.s.la0 a.s.la1 a.s.la2 a.s.er ∧
     xi ((Q6 X).next a 1).s.y 16 =
     JEA (JC (X.getD (Int.ofNat a.i).toNat [])) (J1 a.s.l) (J1 a.s.y) a.s.a0 a.s.a1 a.s.tr a.s.op
     a.s.cl a.s.en a.s.mo a.s.la0 a.s.la1 a.s.la2 a.s.er ∧
     xi ((Q6 X).next a 1).s.y 17 =
     JDy (JC (X.getD (Int.ofNat a.i).toNat [])) (J1 a.s.l) (J1 a.s.y) a.s.a0 a.s.a1 a.s.tr a.s.op
     a.s.cl a.s.en a.s.mo a.s.la0 a.s.la1 a.s.la2 a.s.er ∧
     xi ((Q6 X).next a 1).s.y 18 =
     JEt (JC (X.getD (Int.ofNat a.i).toNat [])) (J1 a.s.l) (J1 a.s.y) a.s.a0 a.s.a1 a.s.tr
     a.s.op a.s.cl a.s.en a.s.mo a.s.la0 a.s.la1 a.s.la2 a.s.er ∧
     xi ((Q6 X).next a 1).s.y 19 =
     JEg (JC (X.getD (Int.ofNat a.i).toNat [])) (J1 a.s.l) (J1 a.s.y) a.s.a0 a.s.a1 a.s.tr
     a.s.op a.s.cl a.s.en a.s.mo a.s.la0 a.s.la1 a.s.la2 a.s.er ∧
     xi ((Q6 X).next a 1).s.y 20 =
     JEO (JC (X.getD (Int.ofNat a.i).toNat [])) (J1 a.s.l) (J1 a.s.y) a.s.a0 a.s.a1 a.s.tr
     a.s.op a.s.cl a.s.en a.s.mo a.s.la0 a.s.la1 a.s.la2 a.s.er ∧
     xb ((Q6 X).next a 1).s.y 21 =
     JF6 (JC (X.getD (Int.ofNat a.i).toNat [])) (J1 a.s.l) (J1 a.s.y) a.s.a0 a.s.a1 a.s.tr
     a.s.op a.s.cl a.s.en a.s.mo a.s.la0 a.s.la1 a.s.la2 a.s.er ∧
     ((Q6 X).next a 1).s.a0 =
     JFd (JC (X.getD (Int.ofNat a.i).toNat [])) (J1 a.s.l) (J1 a.s.y) a.s.a0 a.s.a1
     a.s.tr a.s.op a.s.cl a.s.en a.s.mo a.s.la0 a.s.la1 a.s.la2 a.s.er ∧
     ((Q6 X).next a 1).s.a1 =
     JDW (JC (X.getD (Int.ofNat a.i).toNat [])) (J1 a.s.l) (J1 a.s.y) a.s.a0 a.s.a1
     a.s.tr a.s.op a.s.cl a.s.en a.s.mo a.s.la0 a.s.la1 a.s.la2 a.s.er ∧
     ((Q6 X).next a 1).s.tr =
     JDc (JC (X.getD (Int.ofNat a.i).toNat [])) (J1 a.s.l) (J1 a.s.y) a.s.a0 a.s.a1
     a.s.tr a.s.op a.s.cl a.s.en a.s.mo a.s.la0 a.s.la1 a.s.la2 a.s.er ∧
     ((Q6 X).next a 1).s.op = JZo X a ∧
     ((Q6 X).next a 1).s.cl = a.s.cl ∧
     ((Q6 X).next a 1).s.en =
     JE3 (JC (X.getD (Int.ofNat a.i).toNat [])) a.s.cl a.s.en a.s.mo a.s.la0
     a.s.la1 a.s.la2 a.s.er ∧
     ((Q6 X).next a 1).s.mo =
     JEX (JC (X.getD (Int.ofNat a.i).toNat [])) a.s.cl a.s.en a.s.mo a.s.la0
     a.s.la1 a.s.la2 a.s.er ∧
     ((Q6 X).next a 1).s.la0 =
     JEZ (JC (X.getD (Int.ofNat a.i).toNat [])) a.s.cl a.s.en a.s.mo a.s.la0
     a.s.la1 a.s.la2 a.s.er ∧
     ((Q6 X).next a 1).s.la1 =
     JEn (JC (X.getD (Int.ofNat a.i).toNat [])) a.s.cl a.s.en a.s.mo
     a.s.la0 a.s.la1 a.s.la2 a.s.er ∧
     ((Q6 X).next a 1).s.la2 =
     JFa (JC (X.getD (Int.ofNat a.i).toNat [])) a.s.cl a.s.en a.s.mo
     a.s.la0 a.s.la1 a.s.la2 a.s.er ∧
     ((Q6 X).next a 1).s.er = JZv X a ∧
     ((Q6 X).next a 1).s.C = JYx X a ∧ ([]:LL) = []),
    decide (Int.ofNat a.i < Int.ofNat X.length) = false →
     (((Q6 X).fin a).bad = true → False) ∧
     (((Q6 X).fin a).bad = false →
     xi ((Q6 X).fin a).s.l 0 = xi a.s.l 0 ∧
     xi ((Q6 X).fin a).s.l 1 = xi a.s.l 1 ∧
     xi ((Q6 X).fin a).s.l 2 = xi a.s.l 2 ∧
     xi ((Q6 X).fin a).s.l 3 = xi a.s.l 3 ∧
     xi ((Q6 X).fin a).s.l 4 = xi a.s.l 4 ∧
     xi ((Q6 X).fin a).s.l 5 = xi a.s.l 5 ∧
     xi ((Q6 X).fin a).s.l 6 = xi a.s.l 6 ∧
     xi ((Q6 X).fin a).s.l 7 = xi a.s.l 7 ∧
     xi ((Q6 X).fin a).s.l 8 = xi a.s.l 8 ∧
     xi ((Q6 X).fin a).s.l 9 = xi a.s.l 9 ∧
     xi ((Q6 X).fin a).s.l 10 = xi a.s.l 10 ∧
     xi ((Q6 X).fin a).s.l 11 = xi a.s.l 11 ∧
     xi ((Q6 X).fin a).s.l 12 = xi a.s.l 12 ∧
     xb ((Q6 X).fin a).s.l 13 = xb a.s.l 13 ∧
     xi ((Q6 X).fin a).s.l 14 = xi a.s.l 14 ∧
     xb ((Q6 X).fin a).s.l 15 = xb a.s.l 15 ∧
     xi ((Q6 X).fin a).s.l 16 = xi a.s.l 16 ∧
     xi ((Q6 X).fin a).s.l 17 = xi a.s.l 17 ∧
     xi ((Q6 X).fin a).s.l 18 = xi a.s.l 18 ∧
     xi ((Q6 X).fin a).s.l 19 = xi a.s.l 19 ∧
     xi ((Q6 X).fin a).s.l 20 = xi a.s.l 20 ∧
     xb ((Q6 X).fin a).s.l 21 = xb a.s.l 21 ∧
     xi ((Q6 X).fin a).s.y 0 = xi a.s.y 0 ∧
     xi ((Q6 X).fin a).s.y 1 = xi a.s.y 1 ∧
     xi ((Q6 X).fin a).s.y 2 = xi a.s.y 2 ∧
     xi ((Q6 X).fin a).s.y 3 = xi a.s.y 3 ∧
     xi ((Q6 X).fin a).s.y 4 = xi a.s.y 4 ∧
     xi ((Q6 X).fin a).s.y 5 = xi a.s.y 5 ∧
     xi ((Q6 X).fin a).s.y 6 = xi a.s.y 6 ∧
     xi ((Q6 X).fin a).s.y 7 = xi a.s.y 7 ∧
     xi ((Q6 X).fin a).s.y 8 = xi a.s.y 8 ∧
     xi ((Q6 X).fin a).s.y 9 = xi a.s.y 9 ∧
     xi ((Q6 X).fin a).s.y 10 = xi a.s.y 10 ∧
     xi ((Q6 X).fin a).s.y 11 = xi a.s.y 11 ∧
     xi ((Q6 X).fin a).s.y 12 = xi a.s.y 12 ∧
     xb ((Q6 X).fin a).s.y 13 = xb a.s.y 13 ∧
     xi ((Q6 X).fin a).s.y 14 = xi a.s.y 14 ∧
     xb ((Q6 X).fin a).s.y 15 = xb a.s.y 15 ∧
     xi ((Q6 X).fin a).s.y 16 = xi a.s.y 16 ∧
     xi ((Q6 X).fin a).s.y 17 = xi a.s.y 17 ∧
     xi ((Q6 X).fin a).s.y 18 = xi a.s.y 18 ∧
     xi ((Q6 X).fin a).s.y 19 = xi a.s.y 19 ∧
     xi ((Q6 X).fin a).s.y 20 = xi a.s.y 20 ∧
     xb ((Q6 X).fin a).s.y 21 = xb a.s.y 21 ∧
     ((Q6 X).fin a).s.a0 = a.s.a0 ∧
     ((Q6 X).fin a).s.a1 = a.s.a1 ∧
     ((Q6 X).fin a).s.tr = a.s.tr ∧
     ((Q6 X).fin a).s.op = a.s.op ∧
     ((Q6 X).fin a).s.cl = a.s.cl ∧
     ((Q6 X).fin a).s.en = a.s.en ∧
     ((Q6 X).fin a).s.mo = a.s.mo ∧
     ((Q6 X).fin a).s.la0 = a.s.la0 ∧
     ((Q6 X).fin a).s.la1 = a.s.la1 ∧
     ((Q6 X).fin a).s.la2 = a.s.la2 ∧
     ((Q6 X).fin a).s.er = a.s.er ∧ ((Q6 X).fin a).s.C = a.s.C ∧ ([]:LL) = [])]
end
theorem Jf2 (X:LL) (a:PlS) (hNeeds:∀ pN ∈ (JKT X a),pN):Q3 (XF (Q6 X) (QR Tryz.prog (JE JJw) JOL 6 0) 2564 a) :=
  Q3.of (ps := (JKT X a)) (by kernel_rfl) (by kernel_rfl) hNeeds
theorem Je1 (r:List Int) (k:Nat):((bif (r.getD k 0 != 0) then (1:Int) else 0) != 0) = (r.getD k 0 != 0) := JFR _
theorem JbC (X:LL):Z0 (Q6 X) (QR Tryz.prog (JE JJw) JOL 6 0) 2564 := by
  intro a hJ
  obtain ⟨h1,h2,h3⟩:a.i ≤ X.length ∧ X.length ≤ 1000 ∧ PlI X a := hJ
  have e6:IntKind.i64.wrap (Int.ofNat a.i + 1) = Int.ofNat (a.i + 1) := Wu (by simp; omega) (by simp; omega)
  refine Jf2 X a ?_
  unfold JKT
  simp only [awc,awn,and_true]
  have lt:JEq X a → a.i < X.length := fun h => by unfold JEq at h; simp at h; omega
  have hc8 := h3.c
  have e1:JEq X a → QK X a = [jI (JC (X.getD a.i []))] := fun h => (JE6 (lt h) h3).2.1
  have e2:JEq X a → JIc X a = false := fun h => by
    have hp:WX (JC (X.getD a.i [])) a.s = 0 := (JE6 (lt h) h3).1
    show (WX (JC (X.getD a.i [])) a.s != 0 || Int.ofNat (QK X a).length != 1) = false
    rw [hp,e1 h]; rfl
  have e3:JEq X a → Ki (JZo X a) (JZv X a) (JYx X a) = 0 := fun h => Jbh (s := KQ (JC (X.getD a.i [])) a.s) (JE6 (lt h) h3).2.2.op
  have pos:JEq X a → 0 < (QK X a).length := fun h => by rw [e1 h]; exact Nat.zero_lt_one
  refine ⟨fun h => ⟨by simp,lt h,lt h,by omega,by omega,fun _ => pos h,fun _ => pos h,fun _ => by simp,fun _ => lt h,fun _ => lt h⟩,fun h => ⟨fun hb _ => ?_,fun hb => ⟨⟨?_,h2,(JE6 (lt h) h3).2.2⟩,?_,?_,e6.symm,?_⟩⟩,fun h => ?_⟩
  · rw [e2 h,e1 h,e3 h] at hb
    generalize hr:X.getD (Int.ofNat a.i).toNat [] = r at hb
    have hr':X.getD a.i [] = r := hr
    rw [hr'] at hb
    have g:∀ k,([jI (JC r)].getD 0 []).getD k 0 = (jI (JC r)).getD k 0 := fun _ => rfl
    simp only [g] at hb
    have w:(jI (JC r)) = [r.getD 0 0,r.getD 1 0,r.getD 2 0,r.getD 3 0,r.getD 4 0,r.getD 5 0,r.getD 6 0,r.getD 7 0,r.getD 8 0,r.getD 9 0,r.getD 10 0,r.getD 11 0,r.getD 12 0,(bif (r.getD 13 0 != 0) then 1 else 0),r.getD 14 0,(bif (r.getD 15 0 != 0) then 1 else 0),r.getD 16 0,r.getD 17 0,r.getD 18 0,r.getD 19 0,r.getD 20 0,(bif (r.getD 21 0 != 0) then 1 else 0)] := rfl
    rw [w] at hb
    simp only [List.getD_cons_zero,List.getD_cons_succ,beq_self_eq_true,Je1,Bool.and_self,Bool.true_and,Bool.and_true,Bool.not_true,Bool.or_false,Bool.false_or,bne_self_eq_false] at hb
    exact absurd hb (by decide)
  · have := lt h
    show a.i + 1 ≤ _; omega
  · have := lt h
    show X.length - (a.i + 1) < X.length - a.i; omega
  · show plN X (X.length - (a.i + 1)) _ = plN X (X.length - a.i) a
    rw [JdZ (lt h)]; rfl
  · repeat' first | refine ⟨by kernel_rfl,?_⟩ | kernel_rfl | exact trivial | refine ⟨trivial,?_⟩
  · have hi:a.i = X.length := by unfold JEq at h; simp at h; omega
    have e:(Q6 X).fin a = ⟨false,a.s⟩ := by
      show plN X (X.length - a.i) a = _
      rw [hi,Nat.sub_self]; rfl
    rw [e]
    refine ⟨fun h => (by cases h),fun _ => ?_⟩
    repeat' first | refine ⟨by kernel_rfl,?_⟩ | kernel_rfl | exact trivial | refine ⟨trivial,?_⟩
def Ji0:Q5 := fun env mem m => match SX.J6 mem 1371 with
  | some (.row _ _ _ (.lst _ _ X)) => qS (Q6 X) 2564 (fun _ _ => some ⟨0,Zy⟩) env mem m
  | _ => none
def Jhl:FuncId → Nat → Option Q5 := kR JOL 6 8 Ji0
theorem JbX:Known Tryz.prog (JE JJw) Jhl := by
  refine Qc 0 JLa (by kernel_rfl) (Z5 fun env mem m x h => ?_)
  unfold Ji0 at h
  have hlen:(QC Tryz.prog 6).length = 1 := by kernel_rfl
  split at h
  · exact ⟨_,XX (Qg XB JLa (by omega)) (JbC _),h⟩
  · cases h
theorem Jhw (g:List GC):JC (jI g) = J1 g := by
  have h:JC (jI g) = [.i (xi g 0),.i (xi g 1),.i (xi g 2),.i (xi g 3),.i (xi g 4),.i (xi g 5),.i (xi g 6),.i (xi g 7),.i (xi g 8),.i (xi g 9),.i (xi g 10),.i (xi g 11),.i (xi g 12),.b ((bif xb g 13 then (1:Int) else 0) != 0),.i (xi g 14),.b ((bif xb g 15 then (1:Int) else 0) != 0),.i (xi g 16),.i (xi g 17),.i (xi g 18),.i (xi g 19),.i (xi g 20),.b ((bif xb g 21 then (1:Int) else 0) != 0)] := rfl
  rw [h,JFR,JFR,JFR]
  rfl
theorem JaZ (a:Int) (L:LL):Qy a L ≠ 14 := by
  unfold Qy
  generalize (J2 14 (J0 a L) L == 0) = b0
  generalize (bif JZ a L then JZ a L else bif Ja a L then Ja a L else bif Jc a L then Jc a L else J2 14 (J0 a L) L == 4) = b1
  generalize (bif Jb a L then Jb a L else J2 14 (J0 a L) L == 6) = b2
  generalize (J2 14 (J0 a L) L == 7) = b3
  generalize (J2 14 (J0 a L) L == 8) = b4
  generalize (J2 14 (J0 a L) L == 9) = b5
  generalize (J2 14 (J0 a L) L == 10) = b6
  generalize (J2 14 (J0 a L) L == 11) = b7
  generalize (J2 14 (J0 a L) L == 12) = b8
  generalize (J2 3 (J0 (J0 a L) L) L).toNat.beq 0 = b9
  generalize (J2 3 (J0 (J0 a L) L) L).toNat.beq 1 = b10
  revert b0 b1 b2 b3 b4 b5 b6 b7 b8 b9 b10
  decide
theorem JFw (x a:Int) (L:LL) (h:J5 (Qy a L) = true):ZL x a L = x := by
  unfold Qy at h
  unfold ZL
  generalize (J2 14 (J0 a L) L == 0) = b0 at h ⊢
  generalize (bif JZ a L then JZ a L else bif Ja a L then Ja a L else bif Jc a L then Jc a L else J2 14 (J0 a L) L == 4) = b1 at h ⊢
  generalize (bif Jb a L then Jb a L else J2 14 (J0 a L) L == 6) = b2 at h ⊢
  generalize (J2 14 (J0 a L) L == 7) = b3 at h ⊢
  generalize (J2 14 (J0 a L) L == 8) = b4 at h ⊢
  cases b0
  · cases b1
    · cases b2
      · cases b3
        · cases b4
          · exfalso
            simp only [cond_false] at h
            generalize (J2 14 (J0 a L) L == 9) = b5 at h
            generalize (J2 14 (J0 a L) L == 10) = b6 at h
            generalize (J2 14 (J0 a L) L == 11) = b7 at h
            generalize (J2 14 (J0 a L) L == 12) = b8 at h
            generalize (J2 3 (J0 (J0 a L) L) L).toNat.beq 0 = b9 at h
            generalize (J2 3 (J0 (J0 a L) L) L).toNat.beq 1 = b10 at h
            revert b5 b6 b7 b8 b9 b10
            decide
          · rfl
        · rfl
      · rfl
    · rfl
  · rfl
def plS (r:List Int) (s:Bool × Int × Int × Int):Bool × Int × Int × Int :=
  (J5 (xi (JC r) 0) || s.1,(bif J5 (xi (JC r) 0) then xi (JC r) 5 else s.2.1),(bif J5 (xi (JC r) 0) then xi (JC r) 6 else s.2.2.1),(bif J5 (xi (JC r) 0) then xi (JC r) 7 else s.2.2.2))
def plE:LL → Bool × Int × Int × Int → Bool × Int × Int × Int
  | [],s => s
  | r :: X,s => plE X (plS r s)
theorem JYV (r:List Int):∀ (X:LL) (s:Bool × Int × Int × Int),Pl X s.1 s.2.1 s.2.2.1 s.2.2.2 →
    (QP (JC r) = true ∧ xi (JC r) 16 = 0 ∧ xi (JC r) 0 ≠ 14 ∧ (J5 (xi (JC r) 0) = true → (plE X s).1 = true → xi (JC r) 2 = (plE X s).2.1 ∧ xi (JC r) 3 = (plE X s).2.2.1 ∧ xi (JC r) 4 = (plE X s).2.2.2)) →
    Pl (X ++ [r]) s.1 s.2.1 s.2.2.1 s.2.2.2
  | [],s,_,h => ⟨h.1,h.2.1,h.2.2.1,h.2.2.2,trivial⟩
  | q :: X,s,⟨h1,h2,h3,h4,h5⟩,h => ⟨h1,h2,h3,h4,JYV r X (plS q s) h5 h⟩
theorem JT6 (r:List Int):∀ (X:LL) (s:Bool × Int × Int × Int),plE (X ++ [r]) s = plS r (plE X s)
  | [],_ => rfl
  | q :: X,s => JT6 r X (plS q s)
structure ItI (s:IS):Prop where
  p:Pl s.R false 0 0 0
  e:(plE s.R (false,0,0,0)).1 = true → (plE s.R (false,0,0,0)).2 = (s.x,s.y,s.z)
theorem JeV (L:LL) (s:IS) (I:ItI s):ItI (jj L s) := by
  unfold jj
  cases hv:itV L s
  · exact ⟨I.p,I.e⟩
  · have hg:J1 (itG L s.a s.x s.y s.z) = itG L s.a s.x s.y s.z := by kernel_rfl
    have ho:JC (jI (itG L s.a s.x s.y s.z)) = itG L s.a s.x s.y s.z := by rw [Jhw,hg]
    have k0:xi (itG L s.a s.x s.y s.z) 0 = Qy s.a L := rfl
    have hm0:XZ (Qy s.a L) = J5 (Qy s.a L) := rfl
    refine ⟨JYV _ s.R (false,0,0,0) I.p ?_,?_⟩
    · rw [ho]
      refine ⟨by rw [JXb]; exact hv,rfl,by rw [k0]; exact JaZ _ _,fun hm hmo => ?_⟩
      rw [k0] at hm
      have he := I.e hmo
      rw [he]
      exact ⟨JFw _ _ _ hm,JFw _ _ _ hm,JFw _ _ _ hm⟩
    · intro hmo
      show (plE (s.R ++ [jI (itG L s.a s.x s.y s.z)]) (false,0,0,0)).2 = (bif XZ (Qy s.a L) then WA s.x s.a L else s.x,bif XZ (Qy s.a L) then W7 s.y s.a L else s.y,bif XZ (Qy s.a L) then WD s.z s.a L else s.z)
      have hmo':(plE (s.R ++ [jI (itG L s.a s.x s.y s.z)]) (false,0,0,0)).1 = true := hmo
      rw [JT6] at hmo' ⊢
      unfold plS at hmo' ⊢
      rw [ho,k0] at hmo' ⊢
      rw [hm0]
      cases hm:J5 (Qy s.a L)
      · rw [hm,Bool.false_or] at hmo'
        have he := I.e hmo'
        rw [he]
        rfl
      · rfl
theorem Jga (L:LL):∀ (k:Nat) (s:IS),ItI s → ItI (itN L k s)
  | 0,_,h => h
  | k + 1,s,h => Jga L k _ (JeV L s h)
theorem JY5 (L:LL) (s:IS):(jj L s).R.length ≤ s.R.length + 1 := by
  unfold jj
  cases !itV L s
  · show (s.R ++ [_]).length ≤ _; rw [List.length_append]; exact Nat.le_refl _
  · exact Nat.le_succ _
theorem JZF (L:LL):∀ (k:Nat) (s:IS),(itN L k s).R.length ≤ s.R.length + k
  | 0,_ => Nat.le_refl _
  | k + 1,s => by
    have h1 := JZF L k (jj L s)
    have h2 := JY5 L s
    show (itN L k (jj L s)).R.length ≤ _; omega
theorem Jf6 (a:Int) (L:LL):(ZE a L).length ≤ 8 := by
  have h := JZF L (is0 a L).k (is0 a L)
  have r9 := XJ 9 (J0 (J0 (J0 a L) L) L) L (by omega) (by omega)
  have hk:(is0 a L).k ≤ 8 := by show (J2 9 (J0 (J0 (J0 a L) L) L) L).toNat ≤ 8; omega
  have h0:(is0 a L).R.length = 0 := rfl
  unfold ZE; omega
theorem JWY (a:Int) (L:LL):PlI (ZE a L) (PlS.mk 0 Zy) := by
  have h := Jga L (is0 a L).k (is0 a L) ⟨trivial,fun h => by cases h⟩
  exact ⟨rfl,rfl,rfl,rfl,rfl,rfl,Nat.zero_le _,h.p⟩
theorem Je0 (X:LL):∀ (n:Nat) (a:PlS),a.i + n = X.length → PlI X a → (plN X n a).bad = false ∧ ∃ i,PlI X ⟨i,(plN X n a).s⟩
  | 0,a,_,I => ⟨rfl,a.i,I⟩
  | n + 1,a,h,I => Je0 X n ⟨a.i + 1,KQ (JC (X.getD a.i [])) a.s⟩ (by show a.i + 1 + n = _; omega) (JE6 (by omega) I).2.2
def JiC:List GC := [GC.i 12,GC.i 0,GC.i 0,GC.i 0,GC.i 0,GC.i 0,GC.i 0,GC.i 0,GC.i 0,GC.i 0,GC.i 0,GC.i 0,GC.i 0,GC.b false,GC.i 0,GC.b false,GC.i 0,GC.i 0,GC.i 0,GC.i 0,GC.i 0,GC.b false]
def Jgk (s:St) (e:Int):St := { s with cl := true,er := e }
def Ko:Tpl := ⟨[.one (.wh 0)],[(0,.row true 3 1 1 [.int .i64])],2⟩
section
variable (L:LL)
def JEs:Bool:=
  ((Q6 (ZE 0 L)).fin (PlS.mk 0 Zy)).s.op
def JKu:Bool:=
  ((Q6 (ZE 0 L)).fin (PlS.mk 0 Zy)).s.cl
def JLz:Int:=
  ((Q6 (ZE 0 L)).fin (PlS.mk 0 Zy)).s.er
def JQv:Bool:=
  !kD L ||
   bif ((Q6 (ZE 0 L)).fin (PlS.mk 0 Zy)).bad then false
   else
   Y0 (JEs L) (JKu L) (JLz L) == 0 && Int.ofNat (Xy (JEs L) (JKu L) (JLz L) []).length == 0 &&
   zZ
   [GC.i 12,GC.i 0,GC.i 0,GC.i 0,GC.i 0,GC.i 0,GC.i 0,GC.i 0,GC.i 0,GC.i 0,GC.i 0,GC.i 0,GC.i 0,GC.b false,GC.i 0,GC.b false,GC.i 0,GC.i 0,GC.i 0,GC.i 0,GC.i 0,GC.b false]
   (J1 ((Q6 (ZE 0 L)).fin (PlS.mk 0 Zy)).s.l) (J1 ((Q6 (ZE 0 L)).fin (PlS.mk 0 Zy)).s.y) ((Q6 (ZE 0 L)).fin (PlS.mk 0 Zy)).s.a0 ((Q6 (ZE 0 L)).fin (PlS.mk 0 Zy)).s.a1
   ((Q6 (ZE 0 L)).fin (PlS.mk 0 Zy)).s.tr (JEs L) true ((Q6 (ZE 0 L)).fin (PlS.mk 0 Zy)).s.en ((Q6 (ZE 0 L)).fin (PlS.mk 0 Zy)).s.mo ((Q6 (ZE 0 L)).fin (PlS.mk 0 Zy)).s.la0
   ((Q6 (ZE 0 L)).fin (PlS.mk 0 Zy)).s.la1 ((Q6 (ZE 0 L)).fin (PlS.mk 0 Zy)).s.la2 (JDk (JEs L) (JKu L) (JLz L)) ((Q6 (ZE 0 L)).fin (PlS.mk 0 Zy)).s.C ==
   13
def jG:List Prop:=
  [(!kD L) = false →
   Int.ofNat 0 ≤ 0 ∧
   L.length ≤ 1000000 ∧
   (0 ≤ (ZE 0 L).length ∧ (ZE 0 L).length ≤ 1000 ∧ PlI (ZE 0 L) (PlS.mk 0 Zy)) ∧
   Int.ofNat 0 = 0 ∧
   Int.ofNat 0 = 0 ∧
   Int.ofNat 0 = 0 ∧
   Int.ofNat 0 = 0 ∧
   Int.ofNat 0 = 0 ∧
   Int.ofNat 0 = 0 ∧
   Int.ofNat 0 = 0 ∧
   Int.ofNat 0 = 0 ∧
   Int.ofNat 0 = 0 ∧
   Int.ofNat 0 = 0 ∧
   Int.ofNat 0 = 0 ∧
   Int.ofNat 0 = 0 ∧
   Int.ofNat 0 = 0 ∧
   Int.ofNat 0 = 0 ∧
   false = false ∧
   Int.ofNat 0 = 0 ∧
   false = false ∧
   Int.ofNat 0 = 0 ∧
   Int.ofNat 0 = 0 ∧
   Int.ofNat 0 = 0 ∧
   Int.ofNat 0 = 0 ∧
   Int.ofNat 0 = 0 ∧
   false = false ∧
   Int.ofNat 0 = 0 ∧
   Int.ofNat 0 = 0 ∧
   Int.ofNat 0 = 0 ∧
   Int.ofNat 0 = 0 ∧
   Int.ofNat 0 = 0 ∧
   Int.ofNat 0 = 0 ∧
   Int.ofNat 0 = 0 ∧
   Int.ofNat 0 = 0 ∧
   Int.ofNat 0 = 0 ∧
   Int.ofNat 0 = 0 ∧
   Int.ofNat 0 = 0 ∧
   Int.ofNat 0 = 0 ∧
   Int.ofNat 0 = 0 ∧
   false = false ∧
   Int.ofNat 0 = 0 ∧
   false = false ∧
   Int.ofNat 0 = 0 ∧
   Int.ofNat 0 = 0 ∧
   Int.ofNat 0 = 0 ∧
   Int.ofNat 0 = 0 ∧
   Int.ofNat 0 = 0 ∧
   false = false ∧
   Int.ofNat 0 = 0 ∧
   Int.ofNat 0 = 0 ∧
   false = false ∧
   false = false ∧
   false = false ∧
   false = false ∧
   false = false ∧
   Int.ofNat 0 = 0 ∧
   Int.ofNat 0 = 0 ∧
   Int.ofNat 0 = 0 ∧
   Int.ofNat 0 = 0 ∧
   (PlS.mk 0 Zy).s.C = [] ∧
   ([]:LL) = [] ∧
   (((Q6 (ZE 0 L)).fin (PlS.mk 0 Zy)).bad = false →
   ((Q6 (ZE 0 L)).fin (PlS.mk 0 Zy)).s.C.length ≤ 1000 ∧ 0 ≤ 800000)]
end
theorem JXz (L:LL):(JQv L) = true := by
  obtain ⟨hb,i,I⟩ := Je0 (ZE 0 L) ((ZE 0 L).length - 0) ⟨0,Zy⟩ (by show 0 + _ = _; omega) (JWY 0 L)
  have hb':((Q6 (ZE 0 L)).fin (PlS.mk 0 Zy)).bad = false := hb
  have h1:((Q6 (ZE 0 L)).fin (PlS.mk 0 Zy)).s.op = false := I.op
  have h2:((Q6 (ZE 0 L)).fin (PlS.mk 0 Zy)).s.cl = false := I.cl
  have h3:((Q6 (ZE 0 L)).fin (PlS.mk 0 Zy)).s.er = 0 := I.er
  unfold JQv
  rw [hb',cond_false]
  have c0:Y0 ((Q6 (ZE 0 L)).fin (PlS.mk 0 Zy)).s.op ((Q6 (ZE 0 L)).fin (PlS.mk 0 Zy)).s.cl ((Q6 (ZE 0 L)).fin (PlS.mk 0 Zy)).s.er = 0 := by rw [h1,h2,h3]; rfl
  have c6:Xy ((Q6 (ZE 0 L)).fin (PlS.mk 0 Zy)).s.op ((Q6 (ZE 0 L)).fin (PlS.mk 0 Zy)).s.cl ((Q6 (ZE 0 L)).fin (PlS.mk 0 Zy)).s.er [] = [] := by rw [h1,h2,h3]; rfl
  have c5:JDk ((Q6 (ZE 0 L)).fin (PlS.mk 0 Zy)).s.op ((Q6 (ZE 0 L)).fin (PlS.mk 0 Zy)).s.cl ((Q6 (ZE 0 L)).fin (PlS.mk 0 Zy)).s.er = 0 := by rw [h1,h2,h3]; rfl
  have key:(Y0 ((Q6 (ZE 0 L)).fin (PlS.mk 0 Zy)).s.op ((Q6 (ZE 0 L)).fin (PlS.mk 0 Zy)).s.cl ((Q6 (ZE 0 L)).fin (PlS.mk 0 Zy)).s.er == 0 && Int.ofNat (Xy ((Q6 (ZE 0 L)).fin (PlS.mk 0 Zy)).s.op ((Q6 (ZE 0 L)).fin (PlS.mk 0 Zy)).s.cl ((Q6 (ZE 0 L)).fin (PlS.mk 0 Zy)).s.er []).length == 0 &&
      WX JiC (Jgk ((Q6 (ZE 0 L)).fin (PlS.mk 0 Zy)).s (JDk ((Q6 (ZE 0 L)).fin (PlS.mk 0 Zy)).s.op ((Q6 (ZE 0 L)).fin (PlS.mk 0 Zy)).s.cl ((Q6 (ZE 0 L)).fin (PlS.mk 0 Zy)).s.er)) == 13) = true := by
    rw [c0,c6,c5,JKi _ _ rfl]
    rfl
  cases kD L
  · rfl
  · exact key
theorem JXC {L:LL}:∀ q ∈ (jG L),q := by
  unfold jG
  simp only [awc,awn,and_true]
  intro hl
  have hl' := Jam (L := L) (by simpa using hl)
  have hlen := Jf6 0 L
  obtain ⟨hb,i,I⟩ := Je0 (ZE 0 L) ((ZE 0 L).length - 0) ⟨0,Zy⟩ (by show 0 + _ = _; omega) (JWY 0 L)
  have hc:((Q6 (ZE 0 L)).fin (PlS.mk 0 Zy)).s.C.length ≤ 8 := I.c
  have hc':((Q6 (ZE 0 L)).fin (PlS.mk 0 Zy)).s.C.length ≤ 1000 := by omega
  refine ⟨by decide,by omega,⟨Nat.zero_le _,by omega,JWY 0 L⟩,?_⟩
  repeat' first | exact hc' | (intro _; exact ⟨hc',by decide⟩) | exact ⟨hc',by decide⟩ | refine ⟨by kernel_rfl,?_⟩ | kernel_rfl | exact trivial | refine ⟨trivial,?_⟩
theorem JXh (L:LL) (hNeeds:∀ pN ∈ (jG L),pN):Runs (Jl (JE JJw) Jhl 6) (Ko.args []) (Ko.memo [] [L]) Ko.n (SV.one (SC.bool (SB.v (JQv L))))
    ([]) :=
  Runs.of1 (ps := (jG L)) (by kernel_rfl) hNeeds
end
end Go.Proofs.YtmbfbhimdkjkoaaGreat
