/-
  Texts of one claim, laid together. Conditions: none.
-/
import Derived.Test.YtmbfbhimdkjkoaaGreatM4f7347fb
import Derived.Test.YtmbfbhimdkjkoaaGreatM1f55bd71
set_option linter.all false
set_option maxRecDepth 1000000
namespace Go.Proofs.YtmbfbhimdkjkoaaGreat
noncomputable section
open Go.SX Go.RowKit
structure St where
  l:List GC
  y:List GC
  a0:Int
  a1:Int
  tr:Bool
  op:Bool
  cl:Bool
  en:Bool
  mo:Bool
  la0:Int
  la1:Int
  la2:Int
  er:Int
  C:LL
def JW7:List GC := [.i 0,.i 0,.i 0,.i 0,.i 0,.i 0,.i 0,.i 0,.i 0,.i 0,.i 0,.i 0,.i 0,.b false,.i 0,.b false,.i 0,.i 0,.i 0,.i 0,.i 0,.b false]
def ZU:St := ⟨JW7,JW7,0,0,false,false,false,false,false,0,0,0,0,[]⟩
section
variable (g:Nat → Nat) (x:List GC) (s:St) (c o:Nat)
def XA:St:=
  ⟨[.i (JEQ x (J1 s.l) (J1 s.y) s.a0 s.a1 s.tr s.op s.cl s.en s.mo s.la0 s.la1 s.la2 s.er),.i (JEF x (J1 s.l) (J1 s.y) s.a0 s.a1 s.tr s.op s.cl s.en s.mo s.la0 s.la1 s.la2 s.er),.i (JEH x (J1 s.l) (J1 s.y) s.a0 s.a1 s.tr s.op s.cl s.en s.mo s.la0 s.la1 s.la2 s.er),.i (JER x (J1 s.l) (J1 s.y) s.a0 s.a1 s.tr s.op s.cl s.en s.mo s.la0 s.la1 s.la2 s.er),.i (JEK x (J1 s.l) (J1 s.y) s.a0 s.a1 s.tr s.op s.cl s.en s.mo s.la0 s.la1 s.la2 s.er),.i (JEN x (J1 s.l) (J1 s.y) s.a0 s.a1 s.tr s.op s.cl s.en s.mo s.la0 s.la1 s.la2 s.er),.i (JEM x (J1 s.l) (J1 s.y) s.a0 s.a1 s.tr s.op s.cl s.en s.mo s.la0 s.la1 s.la2 s.er),.i (JEE x (J1 s.l) (J1 s.y) s.a0 s.a1 s.tr s.op s.cl s.en s.mo s.la0 s.la1 s.la2 s.er),.i (qi x (J1 s.l) (J1 s.y) s.a0 s.a1 s.tr s.op s.cl s.en s.mo s.la0 s.la1 s.la2 s.er),.i (qS x (J1 s.l) (J1 s.y) s.a0 s.a1 s.tr s.op s.cl s.en s.mo s.la0 s.la1 s.la2 s.er),.i (jm x (J1 s.l) (J1 s.y) s.a0 s.a1 s.tr s.op s.cl s.en s.mo s.la0 s.la1 s.la2 s.er),.i (jy x (J1 s.l) (J1 s.y) s.a0 s.a1 s.tr s.op s.cl s.en s.mo s.la0 s.la1 s.la2 s.er),.i (qX x (J1 s.l) (J1 s.y) s.a0 s.a1 s.tr s.op s.cl s.en s.mo s.la0 s.la1 s.la2 s.er),.b (q8 x (J1 s.l) (J1 s.y) s.a0 s.a1 s.tr s.op s.cl s.en s.mo s.la0 s.la1 s.la2 s.er),.i (qf x (J1 s.l) (J1 s.y) s.a0 s.a1 s.tr s.op s.cl s.en s.mo s.la0 s.la1 s.la2 s.er),.b (jz x (J1 s.l) (J1 s.y) s.a0 s.a1 s.tr s.op s.cl s.en s.mo s.la0 s.la1 s.la2 s.er),.i (qq x (J1 s.l) (J1 s.y) s.a0 s.a1 s.tr s.op s.cl s.en s.mo s.la0 s.la1 s.la2 s.er),.i (jg x (J1 s.l) (J1 s.y) s.a0 s.a1 s.tr s.op s.cl s.en s.mo s.la0 s.la1 s.la2 s.er),.i (qt x (J1 s.l) (J1 s.y) s.a0 s.a1 s.tr s.op s.cl s.en s.mo s.la0 s.la1 s.la2 s.er),.i (jp x (J1 s.l) (J1 s.y) s.a0 s.a1 s.tr s.op s.cl s.en s.mo s.la0 s.la1 s.la2 s.er),.i (qj x (J1 s.l) (J1 s.y) s.a0 s.a1 s.tr s.op s.cl s.en s.mo s.la0 s.la1 s.la2 s.er),.b (qd x (J1 s.l) (J1 s.y) s.a0 s.a1 s.tr s.op s.cl s.en s.mo s.la0 s.la1 s.la2 s.er)],
   [.i (ju x (J1 s.l) (J1 s.y) s.a0 s.a1 s.tr s.op s.cl s.en s.mo s.la0 s.la1 s.la2 s.er),.i (qV x (J1 s.l) (J1 s.y) s.a0 s.a1 s.tr s.op s.cl s.en s.mo s.la0 s.la1 s.la2 s.er),.i (qY x (J1 s.l) (J1 s.y) s.a0 s.a1 s.tr s.op s.cl s.en s.mo s.la0 s.la1 s.la2 s.er),.i (qE x (J1 s.l) (J1 s.y) s.a0 s.a1 s.tr s.op s.cl s.en s.mo s.la0 s.la1 s.la2 s.er),.i (qO x (J1 s.l) (J1 s.y) s.a0 s.a1 s.tr s.op s.cl s.en s.mo s.la0 s.la1 s.la2 s.er),.i (jh x (J1 s.l) (J1 s.y) s.a0 s.a1 s.tr s.op s.cl s.en s.mo s.la0 s.la1 s.la2 s.er),.i (jl x (J1 s.l) (J1 s.y) s.a0 s.a1 s.tr s.op s.cl s.en s.mo s.la0 s.la1 s.la2 s.er),.i (qC x (J1 s.l) (J1 s.y) s.a0 s.a1 s.tr s.op s.cl s.en s.mo s.la0 s.la1 s.la2 s.er),.i (qB x (J1 s.l) (J1 s.y) s.a0 s.a1 s.tr s.op s.cl s.en s.mo s.la0 s.la1 s.la2 s.er),.i (qQ x (J1 s.l) (J1 s.y) s.a0 s.a1 s.tr s.op s.cl s.en s.mo s.la0 s.la1 s.la2 s.er),.i (qm x (J1 s.l) (J1 s.y) s.a0 s.a1 s.tr s.op s.cl s.en s.mo s.la0 s.la1 s.la2 s.er),.i (qk x (J1 s.l) (J1 s.y) s.a0 s.a1 s.tr s.op s.cl s.en s.mo s.la0 s.la1 s.la2 s.er),.i (qo x (J1 s.l) (J1 s.y) s.a0 s.a1 s.tr s.op s.cl s.en s.mo s.la0 s.la1 s.la2 s.er),.b (qg x (J1 s.l) (J1 s.y) s.a0 s.a1 s.tr s.op s.cl s.en s.mo s.la0 s.la1 s.la2 s.er),.i (qK x (J1 s.l) (J1 s.y) s.a0 s.a1 s.tr s.op s.cl s.en s.mo s.la0 s.la1 s.la2 s.er),.b (jw x (J1 s.l) (J1 s.y) s.a0 s.a1 s.tr s.op s.cl s.en s.mo s.la0 s.la1 s.la2 s.er),.i (qe x (J1 s.l) (J1 s.y) s.a0 s.a1 s.tr s.op s.cl s.en s.mo s.la0 s.la1 s.la2 s.er),.i (qA x (J1 s.l) (J1 s.y) s.a0 s.a1 s.tr s.op s.cl s.en s.mo s.la0 s.la1 s.la2 s.er),.i (qW x (J1 s.l) (J1 s.y) s.a0 s.a1 s.tr s.op s.cl s.en s.mo s.la0 s.la1 s.la2 s.er),.i (qp x (J1 s.l) (J1 s.y) s.a0 s.a1 s.tr s.op s.cl s.en s.mo s.la0 s.la1 s.la2 s.er),.i (jn x (J1 s.l) (J1 s.y) s.a0 s.a1 s.tr s.op s.cl s.en s.mo s.la0 s.la1 s.la2 s.er),.b (qF x (J1 s.l) (J1 s.y) s.a0 s.a1 s.tr s.op s.cl s.en s.mo s.la0 s.la1 s.la2 s.er)],
   ql x (J1 s.l) (J1 s.y) s.a0 s.a1 s.tr s.op s.cl s.en s.mo s.la0 s.la1 s.la2 s.er,qM x (J1 s.l) (J1 s.y) s.a0 s.a1 s.tr s.op s.cl s.en s.mo s.la0 s.la1 s.la2 s.er,qJ x (J1 s.l) (J1 s.y) s.a0 s.a1 s.tr s.op s.cl s.en s.mo s.la0 s.la1 s.la2 s.er,j3 x (J1 s.l) (J1 s.y) s.a0 s.a1 s.tr s.op s.cl s.en s.mo s.la0 s.la1 s.la2 s.er,s.cl,q9 x s.cl s.en s.mo s.la0 s.la1 s.la2 s.er,jt x s.cl s.en s.mo s.la0 s.la1 s.la2 s.er,ji x s.cl s.en s.mo s.la0 s.la1 s.la2 s.er,jo x s.cl s.en s.mo s.la0 s.la1 s.la2 s.er,qL x s.cl s.en s.mo s.la0 s.la1 s.la2 s.er,Kx x (J1 s.l) (J1 s.y) s.a0 s.a1 s.tr s.op s.cl s.en s.mo s.la0 s.la1 s.la2 s.er s.C,Yp x (J1 s.l) (J1 s.y) s.a0 s.a1 s.tr s.op s.cl s.en s.mo s.la0 s.la1 s.la2 s.er s.C⟩
def Kn:LL:= KS x (J1 s.l) (J1 s.y) s.a0 s.a1 s.tr s.op s.cl s.en s.mo s.la0 s.la1 s.la2 s.er s.C []
def Ye:Int:= Yh x (J1 s.l) (J1 s.y) s.a0 s.a1 s.tr s.op s.cl s.en s.mo s.la0 s.la1 s.la2 s.er s.C
def JU3:List (Nat × SC):= Jjl g s.l s.y s.a0 s.a1 s.tr c s.op s.cl s.en s.mo s.la0 s.la1 s.la2 o s.er
end
theorem Je8 (x:List GC) (C:LL):(JHu x C).length ≤ C.length := by
  unfold JHu
  repeat' first | exact Nat.le_refl _ | exact Nat.zero_le _ | refine Wg ?_ ?_
theorem JaL (x l y:List GC) (a0 a1:Int) (tr:Bool) (C:LL):(JFL x l y a0 a1 tr C).length ≤ C.length := by
  unfold JFL
  repeat' first | exact Nat.le_refl _ | exact Nat.zero_le _ | refine Wg ?_ ?_
theorem chA {C O:LL} {r:List Int}:(O ++ [r]).length ≤ O.length + C.length + 3 := by simp only [List.length_append,List.length_cons,List.length_nil]; omega
theorem JhI (x l y:List GC) (a0 a1:Int) (tr op cl en mo:Bool) (la0 la1 la2:Int) (C O:LL):(KC x l y a0 a1 tr op cl en mo la0 la1 la2 C O).length ≤ O.length + C.length + 3 := by
  unfold KC
  repeat' first | exact chO | exact chA | exact JaK .. | exact Jdm .. | refine Wg ?_ ?_
theorem JhT (x l y:List GC) (a0 a1:Int) (tr op cl en mo:Bool) (la0 la1 la2:Int) (C:LL) (h:C.length ≤ 8):(We x l y a0 a1 tr op cl en mo la0 la1 la2 C).length ≤ 8 := by
  unfold We
  repeat' first | exact h | exact Nat.le_trans (Je8 ..) h | exact Nat.le_trans (JaL ..) h | exact JdJ _ _ _ _ _ _ _ h | refine Wg ?_ ?_
theorem JCf (er:Int) (O:LL):(ZN er O).length ≤ O.length := by
  unfold ZN
  exact Wg (Nat.zero_le _) (Nat.le_refl _)
theorem Je6 (x:List GC) (s:St) (h:s.C.length ≤ 8):(XA x s).C.length ≤ 8 := by
  show (Yp ..).length ≤ 8
  unfold Yp
  exact Wg (JhT _ _ _ _ _ _ _ _ _ _ _ _ _ _ h) h
theorem JPe (x:List GC) (s:St) (h:s.C.length ≤ 8):(Kn x s).length ≤ 11 := by
  unfold Kn KS
  refine Wg (Nat.le_trans (JCf ..) (Nat.le_trans (JhI ..) ?_)) (Nat.le_trans (JCf ..) (Nat.zero_le _))
  simp only [List.length_nil]; omega
structure AS where
  i:Nat
  s:St
  R:LL
structure AT where
  bad:Bool
  i:Nat
  e:Int
  s:St
  R:LL
def apN (L:LL):Nat → AS → AT
  | 0,a => ⟨false,a.i,0,a.s,a.R⟩
  | k + 1,a => bif Ye (JX (L.getD a.i [])) a.s != 0 then ⟨true,a.i,Ye (JX (L.getD a.i [])) a.s,XA (JX (L.getD a.i [])) a.s,a.R⟩
    else apN L k ⟨a.i + 1,XA (JX (L.getD a.i [])) a.s,a.R ++ Kn (JX (L.getD a.i [])) a.s⟩
def apG (k:Nat):Nat := 1000000100 + k
def apH (k:Nat):Nat := 180 + k
def Ql (L:LL):Fam AS AT where
  k := 200
  E a := [(16,ent 1000000000 (.one (I (Int.ofNat a.i)))),(15,ent 77 (.one (I (Int.ofNat L.length)))),(14,ent 76 (.one (.wh 0))),(6,ent 1000000001 (.one (.wh 160))),(5,ent 74 (.one (.ptr 7 0))),(0,ent 0 (.one (.wh 0)))]
  M a := [(7,.blk 66 (JU3 apG a.s 170 171)),YM 170 1000000200 a.s.C,YM 171 1000000201 [],YM 0 1 L,YM 160 1000000202 a.R]
  out t := .ite t.bad (.leaf .ret [(2,ent 80 (.one .nilsl)),(3,ent 81 (.one (I (Int.ofNat t.i)))),(4,ent 82 (.one (I t.e)))] [YM 0 1 L])
    (.leaf (.exit 0) [(6,ent 83 (.one (.wh 160))),(5,ent 74 (.one (.ptr 7 0))),(0,ent 0 (.one (.wh 0)))] [(7,.blk 66 (JU3 apH t.s 170 171)),YM 170 240 t.s.C,YM 171 241 [],YM 0 1 L,YM 160 242 t.R])
  fin a := apN L (L.length - a.i) a
  next a _ := ⟨a.i + 1,XA (JX (L.getD a.i [])) a.s,a.R ++ Kn (JX (L.getD a.i [])) a.s⟩
  J a := a.i ≤ L.length ∧ L.length ≤ 1000 ∧ a.s.C.length ≤ 8 ∧ a.R.length ≤ 11 * a.i
  μ a := L.length - a.i
section
variable (L:LL) (a:AS)
def Jmm:Prop:=
 decide (Int.ofNat a.i < Int.ofNat L.length) = true
def JmV:Int:=
 Yh (JX (L.getD (Int.ofNat a.i).toNat [])) (J1 a.s.l) (J1 a.s.y) a.s.a0 a.s.a1 a.s.tr a.s.op a.s.cl a.s.en a.s.mo a.s.la0 a.s.la1 a.s.la2 a.s.er a.s.C
def Jlm:LL:=
 KS (JX (L.getD (Int.ofNat a.i).toNat [])) (J1 a.s.l) (J1 a.s.y) a.s.a0 a.s.a1 a.s.tr a.s.op a.s.cl a.s.en a.s.mo a.s.la0 a.s.la1 a.s.la2 a.s.er a.s.C []
def JXR:List Prop:=
 [Jmm L a → 0 ≤ Int.ofNat a.i ∧ (Int.ofNat a.i).toNat < L.length ∧ (Int.ofNat a.i).toNat < L.length ∧ a.s.C.length ≤ 1000 ∧ 0 ≤ 800000 ∧ ((JmV L a != 0) = false → (a.R.length + (Jlm L a).length) * 176 ≤ 140737488355328 ∧ a.R.length + (Jlm L a).length ≤ 9223372036854775807),Jmm L a → ((JmV L a != 0) = true → (((Ql L).fin a).bad = true → Int.ofNat ((Ql L).fin a).i = Int.ofNat a.i ∧ ((Ql L).fin a).e = JmV L a) ∧ (((Ql L).fin a).bad = false → False)) ∧ ((JmV L a != 0) = false → (((Ql L).next a 1).i ≤ L.length ∧ L.length ≤ 1000 ∧ ((Ql L).next a 1).s.C.length ≤ 8 ∧ ((Ql L).next a 1).R.length ≤ 11 * ((Ql L).next a 1).i) ∧ (Ql L).μ ((Ql L).next a 1) < (Ql L).μ a ∧ (Ql L).fin ((Ql L).next a 1) = (Ql L).fin a ∧ Int.ofNat ((Ql L).next a 1).i = IntKind.i64.wrap (Int.ofNat a.i + 1) ∧ xi ((Ql L).next a 1).s.l 0 = JEQ (JX (L.getD (Int.ofNat a.i).toNat [])) (J1 a.s.l) (J1 a.s.y) a.s.a0 a.s.a1 a.s.tr a.s.op a.s.cl a.s.en a.s.mo a.s.la0 a.s.la1 a.s.la2 a.s.er ∧ xi ((Ql L).next a 1).s.l 1 = JEF (JX (L.getD (Int.ofNat a.i).toNat [])) (J1 a.s.l) (J1 a.s.y) a.s.a0 a.s.a1 a.s.tr a.s.op a.s.cl a.s.en a.s.mo a.s.la0 a.s.la1 a.s.la2 a.s.er ∧ xi ((Ql L).next a 1).s.l 2 = JEH (JX (L.getD (Int.ofNat a.i).toNat [])) (J1 a.s.l) (J1 a.s.y) a.s.a0 a.s.a1 a.s.tr a.s.op a.s.cl a.s.en a.s.mo a.s.la0 a.s.la1 a.s.la2 a.s.er ∧ xi ((Ql L).next a 1).s.l 3 = JER (JX (L.getD (Int.ofNat a.i).toNat [])) (J1 a.s.l) (J1 a.s.y) a.s.a0 a.s.a1 a.s.tr a.s.op a.s.cl a.s.en a.s.mo a.s.la0 a.s.la1 a.s.la2 a.s.er ∧ xi ((Ql L).next a 1).s.l 4 = JEK (JX (L.getD (Int.ofNat a.i).toNat [])) (J1 a.s.l) (J1 a.s.y) a.s.a0 a.s.a1 a.s.tr a.s.op a.s.cl a.s.en a.s.mo a.s.la0 a.s.la1 a.s.la2 a.s.er ∧ xi ((Ql L).next a 1).s.l 5 = JEN (JX (L.getD (Int.ofNat a.i).toNat [])) (J1 a.s.l) (J1 a.s.y) a.s.a0 a.s.a1 a.s.tr a.s.op a.s.cl a.s.en a.s.mo a.s.la0 a.s.la1 a.s.la2 a.s.er ∧ xi ((Ql L).next a 1).s.l 6 = JEM (JX (L.getD (Int.ofNat a.i).toNat [])) (J1 a.s.l) (J1 a.s.y) a.s.a0 a.s.a1 a.s.tr a.s.op a.s.cl a.s.en a.s.mo a.s.la0 a.s.la1 a.s.la2 a.s.er ∧ xi ((Ql L).next a 1).s.l 7 = JEE (JX (L.getD (Int.ofNat a.i).toNat [])) (J1 a.s.l) (J1 a.s.y) a.s.a0 a.s.a1 a.s.tr a.s.op a.s.cl a.s.en a.s.mo a.s.la0 a.s.la1 a.s.la2 a.s.er ∧ xi ((Ql L).next a 1).s.l 8 = qi (JX (L.getD (Int.ofNat a.i).toNat [])) (J1 a.s.l) (J1 a.s.y) a.s.a0 a.s.a1 a.s.tr a.s.op a.s.cl a.s.en a.s.mo a.s.la0 a.s.la1 a.s.la2 a.s.er ∧ xi ((Ql L).next a 1).s.l 9 = qS (JX (L.getD (Int.ofNat a.i).toNat [])) (J1 a.s.l) (J1 a.s.y) a.s.a0 a.s.a1 a.s.tr a.s.op a.s.cl a.s.en a.s.mo a.s.la0 a.s.la1 a.s.la2 a.s.er ∧ xi ((Ql L).next a 1).s.l 10 = jm (JX (L.getD (Int.ofNat a.i).toNat [])) (J1 a.s.l) (J1 a.s.y) a.s.a0 a.s.a1 a.s.tr a.s.op a.s.cl a.s.en a.s.mo a.s.la0 a.s.la1 a.s.la2 a.s.er ∧ xi ((Ql L).next a 1).s.l 11 = jy (JX (L.getD (Int.ofNat a.i).toNat [])) (J1 a.s.l) (J1 a.s.y) a.s.a0 a.s.a1 a.s.tr a.s.op a.s.cl a.s.en a.s.mo a.s.la0 a.s.la1 a.s.la2 a.s.er ∧ xi ((Ql L).next a 1).s.l 12 = qX (JX (L.getD (Int.ofNat a.i).toNat [])) (J1 a.s.l) (J1 a.s.y) a.s.a0 a.s.a1 a.s.tr a.s.op a.s.cl a.s.en a.s.mo a.s.la0 a.s.la1 a.s.la2 a.s.er ∧ xb ((Ql L).next a 1).s.l 13 = q8 (JX (L.getD (Int.ofNat a.i).toNat [])) (J1 a.s.l) (J1 a.s.y) a.s.a0 a.s.a1 a.s.tr a.s.op a.s.cl a.s.en a.s.mo a.s.la0 a.s.la1 a.s.la2 a.s.er ∧ xi ((Ql L).next a 1).s.l 14 = qf (JX (L.getD (Int.ofNat a.i).toNat [])) (J1 a.s.l) (J1 a.s.y) a.s.a0 a.s.a1 a.s.tr a.s.op a.s.cl a.s.en a.s.mo a.s.la0 a.s.la1 a.s.la2 a.s.er ∧ xb ((Ql L).next a 1).s.l 15 = jz (JX (L.getD (Int.ofNat a.i).toNat [])) (J1 a.s.l) (J1 a.s.y) a.s.a0 a.s.a1 a.s.tr a.s.op a.s.cl a.s.en a.s.mo a.s.la0 a.s.la1 a.s.la2 a.s.er ∧ xi ((Ql L).next a 1).s.l 16 = qq (JX (L.getD (Int.ofNat a.i).toNat [])) (J1 a.s.l) (J1 a.s.y) a.s.a0 a.s.a1 a.s.tr a.s.op a.s.cl a.s.en a.s.mo a.s.la0 a.s.la1 a.s.la2 a.s.er ∧ xi ((Ql L).next a 1).s.l
 17 = jg (JX (L.getD (Int.ofNat a.i).toNat [])) (J1 a.s.l) (J1 a.s.y) a.s.a0 a.s.a1 a.s.tr a.s.op a.s.cl a.s.en a.s.mo a.s.la0 a.s.la1 a.s.la2 a.s.er ∧ xi ((Ql L).next a 1).s.l 18 = qt (JX (L.getD (Int.ofNat a.i).toNat [])) (J1 a.s.l) (J1 a.s.y) a.s.a0 a.s.a1 a.s.tr a.s.op a.s.cl a.s.en a.s.mo a.s.la0 a.s.la1 a.s.la2 a.s.er ∧ xi ((Ql L).next a 1).s.l 19 = jp (JX (L.getD (Int.ofNat a.i).toNat [])) (J1 a.s.l) (J1 a.s.y) a.s.a0 a.s.a1 a.s.tr a.s.op a.s.cl a.s.en a.s.mo a.s.la0 a.s.la1 a.s.la2 a.s.er ∧ xi ((Ql L).next a 1).s.l 20 = qj (JX (L.getD (Int.ofNat a.i).toNat [])) (J1 a.s.l) (J1 a.s.y) a.s.a0 a.s.a1 a.s.tr a.s.op a.s.cl a.s.en a.s.mo a.s.la0 a.s.la1 a.s.la2 a.s.er ∧ xb ((Ql L).next a 1).s.l 21 = qd (JX (L.getD (Int.ofNat a.i).toNat [])) (J1 a.s.l) (J1 a.s.y) a.s.a0 a.s.a1 a.s.tr a.s.op a.s.cl a.s.en a.s.mo a.s.la0 a.s.la1 a.s.la2 a.s.er ∧ xi ((Ql L).next a 1).s.y 0 = ju (JX (L.getD (Int.ofNat a.i).toNat [])) (J1 a.s.l) (J1 a.s.y) a.s.a0 a.s.a1 a.s.tr a.s.op a.s.cl a.s.en a.s.mo a.s.la0 a.s.la1 a.s.la2 a.s.er ∧ xi ((Ql L).next a 1).s.y 1 = qV (JX (L.getD (Int.ofNat a.i).toNat [])) (J1 a.s.l) (J1 a.s.y) a.s.a0 a.s.a1 a.s.tr a.s.op a.s.cl a.s.en a.s.mo a.s.la0 a.s.la1 a.s.la2 a.s.er ∧ xi ((Ql L).next a 1).s.y 2 = qY (JX (L.getD (Int.ofNat a.i).toNat [])) (J1 a.s.l) (J1 a.s.y) a.s.a0 a.s.a1 a.s.tr a.s.op a.s.cl a.s.en a.s.mo a.s.la0 a.s.la1 a.s.la2 a.s.er ∧ xi ((Ql L).next a 1).s.y 3 = qE (JX (L.getD (Int.ofNat a.i).toNat [])) (J1 a.s.l) (J1 a.s.y) a.s.a0 a.s.a1 a.s.tr a.s.op a.s.cl a.s.en a.s.mo a.s.la0 a.s.la1 a.s.la2 a.s.er ∧ xi ((Ql L).next a 1).s.y 4 = qO (JX (L.getD (Int.ofNat a.i).toNat [])) (J1 a.s.l) (J1 a.s.y) a.s.a0 a.s.a1 a.s.tr a.s.op a.s.cl a.s.en a.s.mo a.s.la0 a.s.la1 a.s.la2 a.s.er ∧ xi ((Ql L).next a 1).s.y 5 = jh (JX (L.getD (Int.ofNat a.i).toNat [])) (J1 a.s.l) (J1 a.s.y) a.s.a0 a.s.a1 a.s.tr a.s.op a.s.cl a.s.en a.s.mo a.s.la0 a.s.la1 a.s.la2 a.s.er ∧ xi ((Ql L).next a 1).s.y 6 = jl (JX (L.getD (Int.ofNat a.i).toNat [])) (J1 a.s.l) (J1 a.s.y) a.s.a0 a.s.a1 a.s.tr a.s.op a.s.cl a.s.en a.s.mo a.s.la0 a.s.la1 a.s.la2 a.s.er ∧ xi ((Ql L).next a 1).s.y 7 = qC (JX (L.getD (Int.ofNat a.i).toNat [])) (J1 a.s.l) (J1 a.s.y) a.s.a0 a.s.a1 a.s.tr a.s.op a.s.cl a.s.en a.s.mo a.s.la0 a.s.la1 a.s.la2 a.s.er ∧ xi ((Ql L).next a 1).s.y 8 = qB (JX (L.getD (Int.ofNat a.i).toNat [])) (J1 a.s.l) (J1 a.s.y) a.s.a0 a.s.a1 a.s.tr a.s.op a.s.cl a.s.en a.s.mo a.s.la0 a.s.la1 a.s.la2 a.s.er ∧ xi ((Ql L).next a 1).s.y 9 = qQ (JX (L.getD (Int.ofNat a.i).toNat [])) (J1 a.s.l) (J1 a.s.y) a.s.a0 a.s.a1 a.s.tr a.s.op a.s.cl a.s.en a.s.mo a.s.la0 a.s.la1 a.s.la2 a.s.er ∧ xi ((Ql L).next a 1).s.y 10 = qm (JX (L.getD (Int.ofNat a.i).toNat [])) (J1 a.s.l) (J1 a.s.y) a.s.a0 a.s.a1 a.s.tr a.s.op a.s.cl a.s.en a.s.mo a.s.la0 a.s.la1 a.s.la2 a.s.er ∧ xi ((Ql L).next a 1).s.y 11 = qk (JX (L.getD (Int.ofNat a.i).toNat [])) (J1 a.s.l) (J1 a.s.y) a.s.a0 a.s.a1 a.s.tr a.s.op a.s.cl a.s.en a.s.mo a.s.la0 a.s.la1 a.s.la2 a.s.er ∧ xi ((Ql L).next a 1).s.y 12 = qo (JX (L.getD (Int.ofNat a.i).toNat [])) (J1 a.s.l) (J1 a.s.y) a.s.a0 a.s.a1 a.s.tr a.s.op a.s.cl a.s.en a.s.mo a.s.la0 a.s.la1 a.s.la2 a.s.er ∧ xb ((Ql L).next a 1).s.y 13 = qg (JX (L.getD (Int.ofNat a.i).toNat [])) (J1 a.s.l) (J1 a.s.y) a.s.a0 a.s.a1 a.s.tr a.s.op a.s.cl a.s.en a.s.mo a.s.la0 a.s.la1 a.s.la2 a.s.er ∧ xi ((Ql L).next a 1).s.y 14 = qK (JX (L.getD (Int.ofNat a.i).toNat [])) (J1 a.s.l) (J1 a.s.y) a.s.a0 a.s.a1 a.s.tr a.s.op a.s.cl a.s.en a.s.mo a.s.la0 a.s.la1 a.s.la2 a.s.er ∧ xb ((Ql L).next a 1).s.y 15 = jw (JX (L.getD (Int.ofNat a.i).toNat [])) (J1 a.s.l) (J1 a.s.y) a.s.a0 a.s.a1 a.s.tr a.s.op a.s.cl a.s.en a.s.mo a.s.la0 a.s.la1 a.s.la2 a.s.er ∧ xi ((Ql L).next a 1).s.y 16 = qe (JX (L.getD (Int.ofNat a.i).toNat [])) (J1 a.s.l) (J1 a.s.y)
 a.s.a0 a.s.a1 a.s.tr a.s.op a.s.cl a.s.en a.s.mo a.s.la0 a.s.la1 a.s.la2 a.s.er ∧ xi ((Ql L).next a 1).s.y 17 = qA (JX (L.getD (Int.ofNat a.i).toNat [])) (J1 a.s.l) (J1 a.s.y) a.s.a0 a.s.a1 a.s.tr a.s.op a.s.cl a.s.en a.s.mo a.s.la0 a.s.la1 a.s.la2 a.s.er ∧ xi ((Ql L).next a 1).s.y 18 = qW (JX (L.getD (Int.ofNat a.i).toNat [])) (J1 a.s.l) (J1 a.s.y) a.s.a0 a.s.a1 a.s.tr a.s.op a.s.cl a.s.en a.s.mo a.s.la0 a.s.la1 a.s.la2 a.s.er ∧ xi ((Ql L).next a 1).s.y 19 = qp (JX (L.getD (Int.ofNat a.i).toNat [])) (J1 a.s.l) (J1 a.s.y) a.s.a0 a.s.a1 a.s.tr a.s.op a.s.cl a.s.en a.s.mo a.s.la0 a.s.la1 a.s.la2 a.s.er ∧ xi ((Ql L).next a 1).s.y 20 = jn (JX (L.getD (Int.ofNat a.i).toNat [])) (J1 a.s.l) (J1 a.s.y) a.s.a0 a.s.a1 a.s.tr a.s.op a.s.cl a.s.en a.s.mo a.s.la0 a.s.la1 a.s.la2 a.s.er ∧ xb ((Ql L).next a 1).s.y 21 = qF (JX (L.getD (Int.ofNat a.i).toNat [])) (J1 a.s.l) (J1 a.s.y) a.s.a0 a.s.a1 a.s.tr a.s.op a.s.cl a.s.en a.s.mo a.s.la0 a.s.la1 a.s.la2 a.s.er ∧ ((Ql L).next a 1).s.a0 = ql (JX (L.getD (Int.ofNat a.i).toNat [])) (J1 a.s.l) (J1 a.s.y) a.s.a0 a.s.a1 a.s.tr a.s.op a.s.cl a.s.en a.s.mo a.s.la0 a.s.la1 a.s.la2 a.s.er ∧ ((Ql L).next a 1).s.a1 = qM (JX (L.getD (Int.ofNat a.i).toNat [])) (J1 a.s.l) (J1 a.s.y) a.s.a0 a.s.a1 a.s.tr a.s.op a.s.cl a.s.en a.s.mo a.s.la0 a.s.la1 a.s.la2 a.s.er ∧ ((Ql L).next a 1).s.tr = qJ (JX (L.getD (Int.ofNat a.i).toNat [])) (J1 a.s.l) (J1 a.s.y) a.s.a0 a.s.a1 a.s.tr a.s.op a.s.cl a.s.en a.s.mo a.s.la0 a.s.la1 a.s.la2 a.s.er ∧ ((Ql L).next a 1).s.op = j3 (JX (L.getD (Int.ofNat a.i).toNat [])) (J1 a.s.l) (J1 a.s.y) a.s.a0 a.s.a1 a.s.tr a.s.op a.s.cl a.s.en a.s.mo a.s.la0 a.s.la1 a.s.la2 a.s.er ∧ ((Ql L).next a 1).s.cl = a.s.cl ∧ ((Ql L).next a 1).s.en = q9 (JX (L.getD (Int.ofNat a.i).toNat [])) a.s.cl a.s.en a.s.mo a.s.la0 a.s.la1 a.s.la2 a.s.er ∧ ((Ql L).next a 1).s.mo = jt (JX (L.getD (Int.ofNat a.i).toNat [])) a.s.cl a.s.en a.s.mo a.s.la0 a.s.la1 a.s.la2 a.s.er ∧ ((Ql L).next a 1).s.la0 = ji (JX (L.getD (Int.ofNat a.i).toNat [])) a.s.cl a.s.en a.s.mo a.s.la0 a.s.la1 a.s.la2 a.s.er ∧ ((Ql L).next a 1).s.la1 = jo (JX (L.getD (Int.ofNat a.i).toNat [])) a.s.cl a.s.en a.s.mo a.s.la0 a.s.la1 a.s.la2 a.s.er ∧ ((Ql L).next a 1).s.la2 = qL (JX (L.getD (Int.ofNat a.i).toNat [])) a.s.cl a.s.en a.s.mo a.s.la0 a.s.la1 a.s.la2 a.s.er ∧ ((Ql L).next a 1).s.er = Kx (JX (L.getD (Int.ofNat a.i).toNat [])) (J1 a.s.l) (J1 a.s.y) a.s.a0 a.s.a1 a.s.tr a.s.op a.s.cl a.s.en a.s.mo a.s.la0 a.s.la1 a.s.la2 a.s.er a.s.C ∧ ((Ql L).next a 1).s.C = Yp (JX (L.getD (Int.ofNat a.i).toNat [])) (J1 a.s.l) (J1 a.s.y) a.s.a0 a.s.a1 a.s.tr a.s.op a.s.cl a.s.en a.s.mo a.s.la0 a.s.la1 a.s.la2 a.s.er a.s.C ∧ ([]:LL) = [] ∧ ((Ql L).next a 1).R = a.R ++ Jlm L a),decide (Int.ofNat a.i < Int.ofNat L.length) = false → (((Ql L).fin a).bad = true → False) ∧ (((Ql L).fin a).bad = false → xi ((Ql L).fin a).s.l 0 = xi a.s.l 0 ∧ xi ((Ql L).fin a).s.l 1 = xi a.s.l 1 ∧ xi ((Ql L).fin a).s.l 2 = xi a.s.l 2 ∧ xi ((Ql L).fin a).s.l 3 = xi a.s.l 3 ∧ xi ((Ql L).fin a).s.l 4 = xi a.s.l 4 ∧ xi ((Ql L).fin a).s.l 5 = xi a.s.l 5 ∧ xi ((Ql L).fin a).s.l 6 = xi a.s.l 6 ∧ xi ((Ql L).fin a).s.l 7 = xi a.s.l 7 ∧ xi ((Ql L).fin a).s.l 8 = xi a.s.l 8 ∧ xi ((Ql L).fin a).s.l 9 = xi a.s.l 9 ∧ xi ((Ql L).fin a).s.l 10 = xi a.s.l 10 ∧ xi ((Ql L).fin a).s.l 11 = xi a.s.l 11 ∧ xi ((Ql L).fin a).s.l 12 = xi a.s.l 12 ∧ xb ((Ql L).fin a).s.l 13 = xb a.s.l 13 ∧ xi ((Ql L).fin a).s.l 14 = xi a.s.l 14 ∧ xb ((Ql L).fin a).s.l 15 = xb a.s.l 15 ∧ xi ((Ql L).fin a).s.l 16 = xi a.s.l 16 ∧ xi ((Ql L).fin a).s.l 17 = xi a.s.l 17 ∧ xi ((Ql L).fin a).s.l 18 = xi a.s.l 18 ∧ xi ((Ql L).fin a).s.l 19 = xi a.s.l 19 ∧ xi ((Ql L).fin a).s.l 20 = xi a.s.l 20 ∧ xb ((Ql L).fin a).s.l 21 = xb a.s.l 21 ∧ xi ((Ql L).fin a).s.y 0 = xi a.s.y 0 ∧ xi ((Ql L).fin a).s.y 1 = xi a.s.y 1 ∧ xi ((Ql
 L).fin a).s.y 2 = xi a.s.y 2 ∧ xi ((Ql L).fin a).s.y 3 = xi a.s.y 3 ∧ xi ((Ql L).fin a).s.y 4 = xi a.s.y 4 ∧ xi ((Ql L).fin a).s.y 5 = xi a.s.y 5 ∧ xi ((Ql L).fin a).s.y 6 = xi a.s.y 6 ∧ xi ((Ql L).fin a).s.y 7 = xi a.s.y 7 ∧ xi ((Ql L).fin a).s.y 8 = xi a.s.y 8 ∧ xi ((Ql L).fin a).s.y 9 = xi a.s.y 9 ∧ xi ((Ql L).fin a).s.y 10 = xi a.s.y 10 ∧ xi ((Ql L).fin a).s.y 11 = xi a.s.y 11 ∧ xi ((Ql L).fin a).s.y 12 = xi a.s.y 12 ∧ xb ((Ql L).fin a).s.y 13 = xb a.s.y 13 ∧ xi ((Ql L).fin a).s.y 14 = xi a.s.y 14 ∧ xb ((Ql L).fin a).s.y 15 = xb a.s.y 15 ∧ xi ((Ql L).fin a).s.y 16 = xi a.s.y 16 ∧ xi ((Ql L).fin a).s.y 17 = xi a.s.y 17 ∧ xi ((Ql L).fin a).s.y 18 = xi a.s.y 18 ∧ xi ((Ql L).fin a).s.y 19 = xi a.s.y 19 ∧ xi ((Ql L).fin a).s.y 20 = xi a.s.y 20 ∧ xb ((Ql L).fin a).s.y 21 = xb a.s.y 21 ∧ ((Ql L).fin a).s.a0 = a.s.a0 ∧ ((Ql L).fin a).s.a1 = a.s.a1 ∧ ((Ql L).fin a).s.tr = a.s.tr ∧ ((Ql L).fin a).s.op = a.s.op ∧ ((Ql L).fin a).s.cl = a.s.cl ∧ ((Ql L).fin a).s.en = a.s.en ∧ ((Ql L).fin a).s.mo = a.s.mo ∧ ((Ql L).fin a).s.la0 = a.s.la0 ∧ ((Ql L).fin a).s.la1 = a.s.la1 ∧ ((Ql L).fin a).s.la2 = a.s.la2 ∧ ((Ql L).fin a).s.er = a.s.er ∧ ((Ql L).fin a).s.C = a.s.C ∧ ([]:LL) = [] ∧ ((Ql L).fin a).R = a.R)]
end
theorem JrZ (L:LL) (a:AS) (hNeeds:∀ pN ∈ (JXR L a),pN):Q4 (Xh (Ql L) (QW Tryz.prog (JB jK) JZx 12 0) 79 a) :=
  Q4.of (ps := (JXR L a)) (by kernel_rfl) (by kernel_rfl) hNeeds
theorem JgH {L:LL} {a:AS} (h:a.i < L.length):apN L (L.length - a.i) a = bif Ye (JX (L.getD a.i [])) a.s != 0 then ⟨true,a.i,Ye (JX (L.getD a.i [])) a.s,XA (JX (L.getD a.i [])) a.s,a.R⟩
    else apN L (L.length - (a.i + 1)) ⟨a.i + 1,XA (JX (L.getD a.i [])) a.s,a.R ++ Kn (JX (L.getD a.i [])) a.s⟩ := by
  have e:L.length - a.i = (L.length - (a.i + 1)) + 1 := by omega
  rw [e]; rfl
theorem Jo7 (L:LL):Z1 (Ql L) (QW Tryz.prog (JB jK) JZx 12 0) 79 := by
  intro a hJ
  obtain ⟨h1,h2,h3,h4⟩:a.i ≤ L.length ∧ L.length ≤ 1000 ∧ a.s.C.length ≤ 8 ∧ a.R.length ≤ 11 * a.i := hJ
  have lt:Jmm L a → a.i < L.length := by unfold Jmm; simp
  have ho := JPe (JX (L.getD a.i [])) a.s h3
  have hc := Je6 (JX (L.getD a.i [])) a.s h3
  have e6:IntKind.i64.wrap (Int.ofNat a.i + 1) = Int.ofNat (a.i + 1) := Zy (by simp; omega) (by simp; omega)
  refine JrZ L a ?_
  unfold JXR
  simp only [awc,awn,and_true]
  have all {p q:Prop} (h:p) (k:q):p ∧ q := ⟨h,k⟩
  have e0 (h:a.i < L.length) (hb:(Ye (JX (L.getD a.i [])) a.s != 0) = true):(Ql L).fin a = ⟨true,a.i,Ye (JX (L.getD a.i [])) a.s,XA (JX (L.getD a.i [])) a.s,a.R⟩ := by
    show apN L (L.length - a.i) a = _
    rw [JgH h,hb]; rfl
  refine ⟨fun h => ⟨by simp,lt h,lt h,by omega,by omega,fun _ => ?_⟩,fun h => ⟨fun hb => ⟨fun _ => ?_,fun hf => ?_⟩,fun hb => ⟨⟨?_,h2,hc,?_⟩,?_,?_,e6.symm,?_⟩⟩,fun h => ?_⟩
  · have ho':(Jlm L a).length ≤ 11 := ho
    omega
  · rw [e0 (lt h) hb]; exact ⟨rfl,rfl⟩
  · rw [e0 (lt h) hb] at hf; cases hf
  · have := lt h
    show a.i + 1 ≤ _; omega
  · show (a.R ++ Kn (JX (L.getD a.i [])) a.s).length ≤ 11 * (a.i + 1)
    rw [List.length_append]; omega
  · have := lt h
    show L.length - (a.i + 1) < L.length - a.i; omega
  · show apN L (L.length - (a.i + 1)) _ = apN L (L.length - a.i) a
    have hb':(Ye (JX (L.getD a.i [])) a.s != 0) = false := hb
    rw [JgH (lt h),hb']; rfl
  · repeat' first | refine ⟨by kernel_rfl,?_⟩ | kernel_rfl | exact trivial | refine ⟨trivial,?_⟩
  · have hi:a.i = L.length := by simp at h; omega
    have e:(Ql L).fin a = ⟨false,a.i,0,a.s,a.R⟩ := by
      show apN L (L.length - a.i) a = _
      rw [hi,Nat.sub_self]; unfold apN; rw [hi]
    rw [e]
    refine ⟨fun h => (by cases h),fun _ => ?_⟩
    repeat' first | refine ⟨by kernel_rfl,?_⟩ | kernel_rfl | exact trivial | refine ⟨trivial,?_⟩
def JwK:QG := fun env mem m => match SX.JC mem 0 with
  | some (.row _ _ _ (.lst _ _ L)) => zD (Ql L) 79 (fun _ _ => some ⟨0,ZU,[]⟩) env mem m
  | _ => none
def JYS:FuncId → Nat → Option QG := JB6 JZx 12 4 JwK
theorem JbR:Known Tryz.prog (JB jK) JYS := by
  refine Qf 0 JL0 (by kernel_rfl) (Qs fun env mem m x h => ?_)
  unfold JwK at h
  have hlen:(QU Tryz.prog 12).length = 1 := by kernel_rfl
  split at h
  · exact ⟨_,XW (Qc X5 JL0 (by omega)) (Jo7 _),h⟩
  · cases h
section
variable (L:LL)
def apT:AT:= (Ql L).fin (AS.mk 0 ZU [])
def apC:Int:= Kc (apT L).s.op (apT L).s.cl (apT L).s.er
def apI:Int:= bif (apT L).bad then Int.ofNat (apT L).i else bif apC L != 0 then Int.ofNat L.length else Int.ofNat L.length
def apE:Int:= bif (apT L).bad then (apT L).e else bif apC L != 0 then apC L else 0
def apO:LL:= bif (apT L).bad then [] else bif apC L != 0 then [] else (apT L).R ++ Ki (apT L).s.op (apT L).s.cl (apT L).s.er []
end
theorem JuU (L:LL):∀ (k:Nat) (a:AS),a.s.C.length ≤ 8 → (apN L k a).R.length ≤ a.R.length + 11 * k ∧ (apN L k a).s.C.length ≤ 8
  | 0,a,h => ⟨Nat.le_refl _,h⟩
  | k + 1,a,h => by
    have ho := JPe (JX (L.getD a.i [])) a.s h
    have hc := Je6 (JX (L.getD a.i [])) a.s h
    unfold apN
    cases hb:Ye (JX (L.getD a.i [])) a.s != 0
    · have := JuU L k ⟨a.i + 1,XA (JX (L.getD a.i [])) a.s,a.R ++ Kn (JX (L.getD a.i [])) a.s⟩ hc
      rw [cond_false]
      simp only [List.length_append] at this
      exact ⟨by omega,this.2⟩
    · exact ⟨by show a.R.length ≤ _; omega,hc⟩
def WU:Tpl := ⟨[.one (.wh 0)],[(0,.row false 40 22 1 Wc)],2⟩
section
variable (L:LL)
def Jtc:Int:=
 bif ((Ql L).fin (AS.mk 0 ZU [])).bad then Int.ofNat ((Ql L).fin (AS.mk 0 ZU [])).i else bif Kc ((Ql L).fin (AS.mk 0 ZU [])).s.op ((Ql L).fin (AS.mk 0 ZU [])).s.cl ((Ql L).fin (AS.mk 0 ZU [])).s.er != 0 then Int.ofNat L.length else Int.ofNat L.length
def JhB:Int:=
 Kc ((Ql L).fin (AS.mk 0 ZU [])).s.op ((Ql L).fin (AS.mk 0 ZU [])).s.cl ((Ql L).fin (AS.mk 0 ZU [])).s.er
def JtR:Int:=
 bif ((Ql L).fin (AS.mk 0 ZU [])).bad then ((Ql L).fin (AS.mk 0 ZU [])).e else bif JhB L != 0 then JhB L else 0
def JuE:LL:=
 bif ((Ql L).fin (AS.mk 0 ZU [])).bad then [] else bif Kc ((Ql L).fin (AS.mk 0 ZU [])).s.op ((Ql L).fin (AS.mk 0 ZU [])).s.cl ((Ql L).fin (AS.mk 0 ZU [])).s.er != 0 then [] else ((Ql L).fin (AS.mk 0 ZU [])).R ++ Ki ((Ql L).fin (AS.mk 0 ZU [])).s.op ((Ql L).fin (AS.mk 0 ZU [])).s.cl ((Ql L).fin (AS.mk 0 ZU [])).s.er []
def z5:List Prop:=
 [0 ≤ L.length ∧ L.length ≤ 1000 ∧ 0 ≤ 8 ∧ 0 ≤ 0,Int.ofNat 0 = 0,Int.ofNat 0 = 0,Int.ofNat 0 = 0,Int.ofNat 0 = 0,Int.ofNat 0 = 0,Int.ofNat 0 = 0,Int.ofNat 0 = 0,Int.ofNat 0 = 0,Int.ofNat 0 = 0,Int.ofNat 0 = 0,Int.ofNat 0 = 0,Int.ofNat 0 = 0,Int.ofNat 0 = 0,Int.ofNat 0 = 0,false = false,Int.ofNat 0 = 0,false = false,Int.ofNat 0 = 0,Int.ofNat 0 = 0,Int.ofNat 0 = 0,Int.ofNat 0 = 0,Int.ofNat 0 = 0,false = false,Int.ofNat 0 = 0,Int.ofNat 0 = 0,Int.ofNat 0 = 0,Int.ofNat 0 = 0,Int.ofNat 0 = 0,Int.ofNat 0 = 0,Int.ofNat 0 = 0,Int.ofNat 0 = 0,Int.ofNat 0 = 0,Int.ofNat 0 = 0,Int.ofNat 0 = 0,Int.ofNat 0 = 0,Int.ofNat 0 = 0,false = false,Int.ofNat 0 = 0,false = false,Int.ofNat 0 = 0,Int.ofNat 0 = 0,Int.ofNat 0 = 0,Int.ofNat 0 = 0,Int.ofNat 0 = 0,false = false,Int.ofNat 0 = 0,Int.ofNat 0 = 0,false = false,false = false,false = false,false = false,false = false,Int.ofNat 0 = 0,Int.ofNat 0 = 0,Int.ofNat 0 = 0,Int.ofNat 0 = 0,(AS.mk 0 ZU []).s.C = [],([]:LL) = [],(AS.mk 0 ZU []).R = [],((Ql L).fin (AS.mk 0 ZU [])).bad = false → (Kc ((Ql L).fin (AS.mk 0 ZU [])).s.op ((Ql L).fin (AS.mk 0 ZU [])).s.cl ((Ql L).fin (AS.mk 0 ZU [])).s.er != 0) = false → (((Ql L).fin (AS.mk 0 ZU [])).R.length + (Ki ((Ql L).fin (AS.mk 0 ZU [])).s.op ((Ql L).fin (AS.mk 0 ZU [])).s.cl ((Ql L).fin (AS.mk 0 ZU [])).s.er []).length) * 176 ≤ 140737488355328 ∧ ((Ql L).fin (AS.mk 0 ZU [])).R.length + (Ki ((Ql L).fin (AS.mk 0 ZU [])).s.op ((Ql L).fin (AS.mk 0 ZU [])).s.cl ((Ql L).fin (AS.mk 0 ZU [])).s.er []).length ≤ 9223372036854775807]
end
theorem Jja {L:LL} (hW:∀ q ∈ ([L.length ≤ 1000]:List Prop),q):∀ q ∈ (z5 L),q := by
  simp only [awc,awn,and_true] at hW
  unfold z5
  simp only [awc,awn,and_true]
  have hr := (JuU L (L.length - 0) ⟨0,ZU,[]⟩ (Nat.zero_le _)).1
  have e:(Ql L).fin (AS.mk 0 ZU []) = apN L (L.length - 0) ⟨0,ZU,[]⟩ := rfl
  have h46:∀ op cl er,(Ki op cl er []).length = 0 := fun op cl er => Nat.le_zero.1 (by unfold Ki; exact JCf ..)
  have hz:(AS.mk 0 ZU []).R.length = 0 := rfl
  refine ⟨⟨Nat.zero_le _,hW,by decide,by decide⟩,?_⟩
  repeat' first | refine ⟨by kernel_rfl,?_⟩ | kernel_rfl | exact trivial | (exact fun _ _ => by rw [h46,e]; omega) | refine ⟨rfl,?_⟩ | refine ⟨trivial,?_⟩
def JlW :=
 [CK.int IntKind.i64,CK.int IntKind.i64,CK.int IntKind.i64,CK.int IntKind.i64,CK.int IntKind.i64,CK.int IntKind.i64,CK.int IntKind.i64,CK.int IntKind.i64,CK.int IntKind.i64,CK.int IntKind.i64,CK.int IntKind.i64,CK.int IntKind.i64,CK.int IntKind.i64,CK.bool,CK.int IntKind.i64,CK.bool,CK.int IntKind.i64,CK.int IntKind.i64,CK.int IntKind.i64,CK.int IntKind.i64,CK.int IntKind.i64,CK.bool]
theorem JlN (L:LL) (hNeeds:∀ pN ∈ (z5 L),pN):Runs (Jr (JB jK) JYS 12) (WU.args []) (WU.memo [] [L]) WU.n (SV.tup [(false,[SC.wh 499]),(false,[Ci (Jtc L)]),(false,[Ci (JtR L)])]) ([(499,Obj.row false 40 22 (RowC.lst 498 JlW (JuE L))),(0,Obj.row false 40 22 (RowC.lst 1 JlW L))]) :=
  Runs.of1 (ps := (z5 L)) (by kernel_rfl) hNeeds
def JRP:List Pm → Qm → Option CRes
  | [],[L] => some ⟨SV.tup [(false,[SC.wh 499]),(false,[Ci ((apI L))]),(false,[Ci ((apE L))])],[(499,Obj.row false 40 22 (RowC.lst 498 JlW ((apO L)))),(0,Obj.row false 40 22 (RowC.lst 1 JlW L))],[L.length ≤ 1000],[],500⟩
  | _,_ => none
theorem Jcd (L:LL) (hNeeds:∀ pN ∈ (z5 L),pN):Runs (Jr (JB jK) JYS 12) (WU.args []) (WU.memo [] [L]) WU.n (SV.tup [(false,[SC.wh 499]),(false,[SC.int IntKind.i64 (SI.v ((apI L)))]),(false,[SC.int IntKind.i64 (SI.v ((apE L)))])])
    ([(499,
     Obj.row false 40 22
     (RowC.lst 498
     [CK.int IntKind.i64,CK.int IntKind.i64,CK.int IntKind.i64,CK.int IntKind.i64,CK.int IntKind.i64,CK.int IntKind.i64,CK.int IntKind.i64,CK.int IntKind.i64,CK.int IntKind.i64,
     CK.int IntKind.i64,CK.int IntKind.i64,CK.int IntKind.i64,CK.int IntKind.i64,CK.bool,CK.int IntKind.i64,CK.bool,CK.int IntKind.i64,CK.int IntKind.i64,CK.int IntKind.i64,
     CK.int IntKind.i64,CK.int IntKind.i64,CK.bool]
     ((apO L)))),
    (0,
     Obj.row false 40 22
     (RowC.lst 1
     [CK.int IntKind.i64,CK.int IntKind.i64,CK.int IntKind.i64,CK.int IntKind.i64,CK.int IntKind.i64,CK.int IntKind.i64,CK.int IntKind.i64,CK.int IntKind.i64,CK.int IntKind.i64,
     CK.int IntKind.i64,CK.int IntKind.i64,CK.int IntKind.i64,CK.int IntKind.i64,CK.bool,CK.int IntKind.i64,CK.bool,CK.int IntKind.i64,CK.int IntKind.i64,CK.int IntKind.i64,
     CK.int IntKind.i64,CK.int IntKind.i64,CK.bool]
     L))]) :=
  (JlN L hNeeds).to (by first | rfl | (simp only [])) (by first | rfl | (simp only []))
theorem Jpc:Qg Tryz.prog 12 (JS WU JRP) := by
  refine JH (JD JbR 12) fun ps ls r hr hn _ => ?_
  unfold JRP at hr
  split at hr
  · cases hr; exact ⟨_,Jcd _ (Jja (by exact hn)),fun _ => rfl⟩
  · cases hr
def JeC:List (Nat × JY) := (12,JS WU JRP) :: jK
theorem JJS:Known Tryz.prog (JB JeC) JYS := J7 JbR Jpc
def je:Tpl := ⟨[],[],0⟩
def JE1:List Prop :=
 [4 ≤ 1000,true = true → 0 < 5,true = true → 0 < 5,true = true → 0 < 5,true = true → 1 < 5,true = true → 1 < 5,true = true → 1 < 5,true = true → 2 < 5,true = true → 2 < 5,true = true → 2 < 5,true = true → 2 < 5,true = true → 2 < 5,true = true → 2 < 5,true = true → 2 < 5,true = true → 2 < 5,true = true → 2 < 5,true = true → 3 < 5,true = true → 3 < 5,true = true → 3 < 5,true = true → 4 < 5,true = true → 4 < 5,true = true → 4 < 5]
theorem JVS:∀ q ∈ (JE1),q := by
  unfold JE1
  simp only [awc,awn,and_true]
  decide
theorem JZZ (hNeeds:∀ pN ∈ (JE1),pN):Runs (Jr (JB JeC) JYS 8) (je.args []) (je.memo [] []) je.n (SV.one (Cb true)) ([]) :=
  Runs.of1 (ps := (JE1)) (by kernel_rfl) hNeeds
def JPW:List Pm → Qm → Option CRes
  | [],[] => some ⟨SV.one (Cb true),
 [],[],[],1018⟩
  | _,_ => none
theorem Js9:Qg Tryz.prog 8 (JS je JPW) := by
  refine JH (JD JJS 8) fun ps ls r hr hn _ => ?_
  unfold JPW at hr
  split at hr
  · cases hr; exact ⟨_,JZZ  (fun p hp => JVS p hp),fun _ => rfl⟩
  · cases hr
def JBj:List (Nat × JY) := (8,JS je JPW) :: JeC
theorem JJQ:Known Tryz.prog (JB JBj) JYS := J7 JJS Js9
theorem JCC (e:Int):Jo e = e := by
  unfold Jo
  cases h:(e != 0)
  · rw [cond_false]; exact (by simpa using h:e = 0).symm
  · rfl
theorem JRp (x l y:List GC) (a0 a1:Int) (tr op cl en mo:Bool) (la0 la1 la2 er:Int) (C:LL) :
    Yh x l y a0 a1 tr op cl en mo la0 la1 la2 er C = Kx x l y a0 a1 tr op cl en mo la0 la1 la2 er C := by
  unfold Yh Kx
  rw [JCC,JCC]
theorem JXC (x:List GC) (s:St):Ye x s = (XA x s).er := JRp ..
theorem JSW (x:List GC) (s:St) (h:s.er ≠ 0):Ye x s = s.er := by
  unfold Ye
  rw [JRp]
  unfold Kx
  rw [show (s.er == 0) = false from by simpa using h]; rfl
theorem JhG (x:List GC) (s:St) (h:s.er ≠ 0):Kn x s = [] := by
  unfold Kn KS ZN
  rw [show (s.er == 0) = false from by simpa using h,cond_false]
  cases s.er != 0 <;> rfl
theorem Jon (x:List GC) (s:St) (h:Ye x s ≠ 0):Kn x s = [] := by
  unfold Ye Yh at h
  unfold Kn KS ZN
  cases he:s.er == 0
  · rw [cond_false]; cases s.er != 0 <;> rfl
  · rw [he,cond_true,JCC] at h
    rw [cond_true,show (Kj _ _ _ _ _ _ _ _ _ _ _ _ _ _ != 0) = true from by simpa using h]; rfl
theorem Jn3 {L:LL} (h:JNe L = true):L.length ≤ 120 := by
  unfold JNe at h
  have := of_decide_eq_true h
  simp at this
  omega
def JYn (xs:LL) (tag:Nat):Jn := [YM 0 2 xs,YM 1 tag xs]
def JHf (xs:LL):Fam Nat Unit where
  k := 10
  E j := [(5,ent 20 (.one (I (Int.ofNat j)))),(4,ent 4 (.one (.bool (.c false)))),(0,ent 0 (.one (.wh 0))),(1,ent 2 (.one (.wh 1)))]
  M _ := JYn xs 21
  out _ := .leaf (.exit 0) [] (JYn xs 21)
  fin _ := ()
  next j _ := j + 1
  J j := j ≤ xs.length ∧ xs.length ≤ 1000000
  μ j := xs.length - j
section
variable (xs:LL) (j:Nat)
def JcP:Prop:=
 decide (Int.ofNat j < Int.ofNat xs.length) = true
def JN5:Int:=
 (xs.getD (Int.ofNat j).toNat []).getD 0 0
def JOA:Bool:=
 (xs.getD (Int.ofNat j).toNat []).getD 13 0 != 0
def JNI:Bool:=
 (xs.getD (Int.ofNat j).toNat []).getD 15 0 != 0
def JN4:Bool:=
 (xs.getD (Int.ofNat j).toNat []).getD 21 0 != 0
def JMN:List Prop:=
 [JcP xs j → 0 ≤ Int.ofNat j ∧ (Int.ofNat j).toNat < xs.length ∧ (Int.ofNat j).toNat < xs.length ∧ 0 ≤ Int.ofNat j ∧ (Int.ofNat j).toNat < xs.length ∧ (Int.ofNat j).toNat < xs.length,JcP xs j → ((!(JN5 xs j == JN5 xs j && ((xs.getD (Int.ofNat j).toNat []).getD 1 0 == (xs.getD (Int.ofNat j).toNat []).getD 1 0 && ((xs.getD (Int.ofNat j).toNat []).getD 2 0 == (xs.getD (Int.ofNat j).toNat []).getD 2 0 && ((xs.getD (Int.ofNat j).toNat []).getD 3 0 == (xs.getD (Int.ofNat j).toNat []).getD 3 0 && ((xs.getD (Int.ofNat j).toNat []).getD 4 0 == (xs.getD (Int.ofNat j).toNat []).getD 4 0 && ((xs.getD (Int.ofNat j).toNat []).getD 5 0 == (xs.getD (Int.ofNat j).toNat []).getD 5 0 && ((xs.getD (Int.ofNat j).toNat []).getD 6 0 == (xs.getD (Int.ofNat j).toNat []).getD 6 0 && ((xs.getD (Int.ofNat j).toNat []).getD 7 0 == (xs.getD (Int.ofNat j).toNat []).getD 7 0 && ((xs.getD (Int.ofNat j).toNat []).getD 8 0 == (xs.getD (Int.ofNat j).toNat []).getD 8 0 && ((xs.getD (Int.ofNat j).toNat []).getD 9 0 == (xs.getD (Int.ofNat j).toNat []).getD 9 0 && ((xs.getD (Int.ofNat j).toNat []).getD 10 0 == (xs.getD (Int.ofNat j).toNat []).getD 10 0 && ((xs.getD (Int.ofNat j).toNat []).getD 11 0 == (xs.getD (Int.ofNat j).toNat []).getD 11 0 && ((xs.getD (Int.ofNat j).toNat []).getD 12 0 == (xs.getD (Int.ofNat j).toNat []).getD 12 0 && (JOA xs j == JOA xs j && ((xs.getD (Int.ofNat j).toNat []).getD 14 0 == (xs.getD (Int.ofNat j).toNat []).getD 14 0 && (JNI xs j == JNI xs j && ((xs.getD (Int.ofNat j).toNat []).getD 16 0 == (xs.getD (Int.ofNat j).toNat []).getD 16 0 && ((xs.getD (Int.ofNat j).toNat []).getD 17 0 == (xs.getD (Int.ofNat j).toNat []).getD 17 0 && ((xs.getD (Int.ofNat j).toNat []).getD 18 0 == (xs.getD (Int.ofNat j).toNat []).getD 18 0 && ((xs.getD (Int.ofNat j).toNat []).getD 19 0 == (xs.getD (Int.ofNat j).toNat []).getD 19 0 && ((xs.getD (Int.ofNat j).toNat []).getD 20 0 == (xs.getD (Int.ofNat j).toNat []).getD 20 0 && JN4 xs j == JN4 xs j)))))))))))))))))))))) = true → False) ∧ ((!(JN5 xs j == JN5 xs j && ((xs.getD (Int.ofNat j).toNat []).getD 1 0 == (xs.getD (Int.ofNat j).toNat []).getD 1 0 && ((xs.getD (Int.ofNat j).toNat []).getD 2 0 == (xs.getD (Int.ofNat j).toNat []).getD 2 0 && ((xs.getD (Int.ofNat j).toNat []).getD 3 0 == (xs.getD (Int.ofNat j).toNat []).getD 3 0 && ((xs.getD (Int.ofNat j).toNat []).getD 4 0 == (xs.getD (Int.ofNat j).toNat []).getD 4 0 && ((xs.getD (Int.ofNat j).toNat []).getD 5 0 == (xs.getD (Int.ofNat j).toNat []).getD 5 0 && ((xs.getD (Int.ofNat j).toNat []).getD 6 0 == (xs.getD (Int.ofNat j).toNat []).getD 6 0 && ((xs.getD (Int.ofNat j).toNat []).getD 7 0 == (xs.getD (Int.ofNat j).toNat []).getD 7 0 && ((xs.getD (Int.ofNat j).toNat []).getD 8 0 == (xs.getD (Int.ofNat j).toNat []).getD 8 0 && ((xs.getD (Int.ofNat j).toNat []).getD 9 0 == (xs.getD (Int.ofNat j).toNat []).getD 9 0 && ((xs.getD (Int.ofNat j).toNat []).getD 10 0 == (xs.getD (Int.ofNat j).toNat []).getD 10 0 && ((xs.getD (Int.ofNat j).toNat []).getD 11 0 == (xs.getD (Int.ofNat j).toNat []).getD 11 0 && ((xs.getD (Int.ofNat j).toNat []).getD 12 0 == (xs.getD (Int.ofNat j).toNat []).getD 12 0 && (JOA xs j == JOA xs j && ((xs.getD (Int.ofNat j).toNat []).getD 14 0 == (xs.getD (Int.ofNat j).toNat []).getD 14 0 && (JNI xs j == JNI xs j && ((xs.getD (Int.ofNat j).toNat []).getD 16 0 == (xs.getD (Int.ofNat j).toNat []).getD 16 0 && ((xs.getD (Int.ofNat j).toNat []).getD 17 0 == (xs.getD (Int.ofNat j).toNat []).getD 17 0 && ((xs.getD (Int.ofNat j).toNat []).getD 18 0 == (xs.getD (Int.ofNat j).toNat []).getD 18 0 && ((xs.getD (Int.ofNat j).toNat []).getD 19 0 == (xs.getD (Int.ofNat j).toNat []).getD 19 0 && ((xs.getD (Int.ofNat j).toNat []).getD 20 0 == (xs.getD (Int.ofNat j).toNat []).getD 20 0 && JN4 xs j == JN4 xs j)))))))))))))))))))))) = false → ((JHf xs).next j 1 ≤ xs.length ∧ xs.length ≤ 1000000) ∧ (JHf xs).μ ((JHf xs).next j 1) < (JHf xs).μ j ∧ (JHf xs).fin ((JHf xs).next j 1) =
 (JHf xs).fin j ∧ Int.ofNat ((JHf xs).next j 1) = IntKind.i64.wrap (Int.ofNat j + 1))]
end
theorem JjK (xs:LL) (j:Nat) (hNeeds:∀ pN ∈ (JMN xs j),pN):Q4 (Xh (JHf xs) (QW Tryz.prog (JB JBj) JYS 14 0) 12 j) :=
  Q4.of (ps := (JMN xs j)) (by kernel_rfl) (by kernel_rfl) hNeeds
theorem Jfb (xs:LL):Z1 (JHf xs) (QW Tryz.prog (JB JBj) JYS 14 0) 12 := by
  rintro j ⟨h1,h2⟩
  refine JjK xs j fun q hq => ?_
  unfold JMN at hq
  simp only [List.mem_cons,List.not_mem_nil,or_false,JcP,JN5,JOA,JNI,JN4] at hq
  rcases hq with rfl | rfl
  · intro h; simp at h ⊢; omega
  · intro h
    simp at h
    refine ⟨fun h => by simp at h,fun _ => ?_⟩
    have e1:IntKind.i64.wrap (Int.ofNat j + 1) = Int.ofNat (j + 1) := Zy (by simp; omega) (by simp; omega)
    simp only [JHf]
    exact ⟨⟨by omega,h2⟩,by omega,trivial,e1.symm⟩
def smF (A B:LL):Fam Nat Unit where
  k := 10
  E j := [(5,ent 20 (.one (I (Int.ofNat j)))),(4,ent 4 (.one (.bool (.c false)))),(0,ent 0 (.one (.sl 0 22 (.c 0) (.v B.length)))),(1,ent 2 (.one (.wh 1)))]
  M _ := [YM 0 2 A,YM 1 21 B]
  out _ := .leaf (.exit 0) [] [YM 0 2 A,YM 1 21 B]
  fin _ := ()
  next j _ := j + 1
  J j := j ≤ B.length ∧ B.length ≤ 1000000 ∧ A.take B.length = B
  μ j := B.length - j
def Jsi (B:LL) (j:Nat):Prop :=
 decide (Int.ofNat j < Int.ofNat B.length) = true
def JWb (A B:LL) (j:Nat):List Prop :=
 [Jsi B j → 0 ≤ Int.ofNat j ∧ (Int.ofNat j).toNat < B.length ∧ (Int.ofNat j).toNat < A.length ∧ (Int.ofNat j).toNat < A.length ∧ 0 ≤ Int.ofNat j ∧ (Int.ofNat j).toNat < B.length ∧ (Int.ofNat j).toNat < B.length,Jsi B j → ((!((A.getD (Int.ofNat j).toNat []).getD 0 0 == (B.getD (Int.ofNat j).toNat []).getD 0 0 && ((A.getD (Int.ofNat j).toNat []).getD 1 0 == (B.getD (Int.ofNat j).toNat []).getD 1 0 && ((A.getD (Int.ofNat j).toNat []).getD 2 0 == (B.getD (Int.ofNat j).toNat []).getD 2 0 && ((A.getD (Int.ofNat j).toNat []).getD 3 0 == (B.getD (Int.ofNat j).toNat []).getD 3 0 && ((A.getD (Int.ofNat j).toNat []).getD 4 0 == (B.getD (Int.ofNat j).toNat []).getD 4 0 && ((A.getD (Int.ofNat j).toNat []).getD 5 0 == (B.getD (Int.ofNat j).toNat []).getD 5 0 && ((A.getD (Int.ofNat j).toNat []).getD 6 0 == (B.getD (Int.ofNat j).toNat []).getD 6 0 && ((A.getD (Int.ofNat j).toNat []).getD 7 0 == (B.getD (Int.ofNat j).toNat []).getD 7 0 && ((A.getD (Int.ofNat j).toNat []).getD 8 0 == (B.getD (Int.ofNat j).toNat []).getD 8 0 && ((A.getD (Int.ofNat j).toNat []).getD 9 0 == (B.getD (Int.ofNat j).toNat []).getD 9 0 && ((A.getD (Int.ofNat j).toNat []).getD 10 0 == (B.getD (Int.ofNat j).toNat []).getD 10 0 && ((A.getD (Int.ofNat j).toNat []).getD 11 0 == (B.getD (Int.ofNat j).toNat []).getD 11 0 && ((A.getD (Int.ofNat j).toNat []).getD 12 0 == (B.getD (Int.ofNat j).toNat []).getD 12 0 && (((A.getD (Int.ofNat j).toNat []).getD 13 0 != 0) == ((B.getD (Int.ofNat j).toNat []).getD 13 0 != 0) && ((A.getD (Int.ofNat j).toNat []).getD 14 0 == (B.getD (Int.ofNat j).toNat []).getD 14 0 && (((A.getD (Int.ofNat j).toNat []).getD 15 0 != 0) == ((B.getD (Int.ofNat j).toNat []).getD 15 0 != 0) && ((A.getD (Int.ofNat j).toNat []).getD 16 0 == (B.getD (Int.ofNat j).toNat []).getD 16 0 && ((A.getD (Int.ofNat j).toNat []).getD 17 0 == (B.getD (Int.ofNat j).toNat []).getD 17 0 && ((A.getD (Int.ofNat j).toNat []).getD 18 0 == (B.getD (Int.ofNat j).toNat []).getD 18 0 && ((A.getD (Int.ofNat j).toNat []).getD 19 0 == (B.getD (Int.ofNat j).toNat []).getD 19 0 && ((A.getD (Int.ofNat j).toNat []).getD 20 0 == (B.getD (Int.ofNat j).toNat []).getD 20 0 && ((A.getD (Int.ofNat j).toNat []).getD 21 0 != 0) == ((B.getD (Int.ofNat j).toNat []).getD 21 0 != 0))))))))))))))))))))))) = true → False) ∧ ((!((A.getD (Int.ofNat j).toNat []).getD 0 0 == (B.getD (Int.ofNat j).toNat []).getD 0 0 && ((A.getD (Int.ofNat j).toNat []).getD 1 0 == (B.getD (Int.ofNat j).toNat []).getD 1 0 && ((A.getD (Int.ofNat j).toNat []).getD 2 0 == (B.getD (Int.ofNat j).toNat []).getD 2 0 && ((A.getD (Int.ofNat j).toNat []).getD 3 0 == (B.getD (Int.ofNat j).toNat []).getD 3 0 && ((A.getD (Int.ofNat j).toNat []).getD 4 0 == (B.getD (Int.ofNat j).toNat []).getD 4 0 && ((A.getD (Int.ofNat j).toNat []).getD 5 0 == (B.getD (Int.ofNat j).toNat []).getD 5 0 && ((A.getD (Int.ofNat j).toNat []).getD 6 0 == (B.getD (Int.ofNat j).toNat []).getD 6 0 && ((A.getD (Int.ofNat j).toNat []).getD 7 0 == (B.getD (Int.ofNat j).toNat []).getD 7 0 && ((A.getD (Int.ofNat j).toNat []).getD 8 0 == (B.getD (Int.ofNat j).toNat []).getD 8 0 && ((A.getD (Int.ofNat j).toNat []).getD 9 0 == (B.getD (Int.ofNat j).toNat []).getD 9 0 && ((A.getD (Int.ofNat j).toNat []).getD 10 0 == (B.getD (Int.ofNat j).toNat []).getD 10 0 && ((A.getD (Int.ofNat j).toNat []).getD 11 0 == (B.getD (Int.ofNat j).toNat []).getD 11 0 && ((A.getD (Int.ofNat j).toNat []).getD 12 0 == (B.getD (Int.ofNat j).toNat []).getD 12 0 && (((A.getD (Int.ofNat j).toNat []).getD 13 0 != 0) == ((B.getD (Int.ofNat j).toNat []).getD 13 0 != 0) && ((A.getD (Int.ofNat j).toNat []).getD 14 0 == (B.getD (Int.ofNat j).toNat []).getD 14 0 && (((A.getD (Int.ofNat j).toNat []).getD 15 0 != 0) == ((B.getD (Int.ofNat j).toNat []).getD 15 0 != 0) && ((A.getD (Int.ofNat j).toNat []).getD 16 0 == (B.getD (Int.ofNat j).toNat []).getD 16 0 && ((A.getD (Int.ofNat j).toNat []).getD 17 0 == (B.getD (Int.ofNat j).toNat []).getD 17 0 && ((A.getD (Int.ofNat j).toNat []).getD 18 0 == (B.getD
 (Int.ofNat j).toNat []).getD 18 0 && ((A.getD (Int.ofNat j).toNat []).getD 19 0 == (B.getD (Int.ofNat j).toNat []).getD 19 0 && ((A.getD (Int.ofNat j).toNat []).getD 20 0 == (B.getD (Int.ofNat j).toNat []).getD 20 0 && ((A.getD (Int.ofNat j).toNat []).getD 21 0 != 0) == ((B.getD (Int.ofNat j).toNat []).getD 21 0 != 0))))))))))))))))))))))) = false → ((smF A B).next j 1 ≤ B.length ∧ B.length ≤ 1000000 ∧ List.take B.length A = B) ∧ (smF A B).μ ((smF A B).next j 1) < (smF A B).μ j ∧ (smF A B).fin ((smF A B).next j 1) = (smF A B).fin j ∧ Int.ofNat ((smF A B).next j 1) = IntKind.i64.wrap (Int.ofNat j + 1) ∧ B.length = B.length)]
theorem JsU (A B:LL) (j:Nat) (hNeeds:∀ pN ∈ (JWb A B j),pN):Q4 (Xh (smF A B) (QW Tryz.prog (JB JBj) JYS 14 0) 12 j) :=
  Q4.of (ps := (JWb A B j)) (by kernel_rfl) (by kernel_rfl) hNeeds
theorem Jn2 (A B:LL):Z1 (smF A B) (QW Tryz.prog (JB JBj) JYS 14 0) 12 := by
  rintro j ⟨h1,h2,hp⟩
  have hl:B.length ≤ A.length := by
    have := congrArg List.length hp
    rw [List.length_take] at this; omega
  have hj:j < B.length → A.getD j [] = B.getD j [] := fun h => by
    have h3:B.getD j [] = (A.take B.length).getD j [] := by rw [hp]
    rw [h3]
    simp [List.getD,List.getElem?_take,h]
  refine JsU A B j fun q hq => ?_
  unfold JWb at hq
  simp only [List.mem_cons,List.not_mem_nil,or_false,Jsi] at hq
  have e0:(Int.ofNat j).toNat = j := rfl
  simp only [e0] at hq
  rcases hq with rfl | rfl
  · intro h; simp at h ⊢; omega
  · intro h
    simp at h
    rw [hj (by omega)]
    refine ⟨fun h => by simp at h,fun _ => ?_⟩
    have e1:IntKind.i64.wrap (Int.ofNat j + 1) = Int.ofNat (j + 1) := Zy (by simp; omega) (by simp; omega)
    simp only [smF]
    exact ⟨⟨by omega,h2,hp⟩,by omega,trivial,e1.symm,trivial⟩
def Juz:QG := fun env mem m => match SX.JC env 0 with
  | some ⟨_,_,_,.one (.sl _ _ _ _)⟩ => (match SX.JC mem 0,SX.JC mem 1 with
    | some (.row _ _ _ (.lst _ _ A)),some (.row _ _ _ (.lst _ _ B)) => zD (smF A B) 12 (fun _ _ => some 0) env mem m
    | _,_ => none)
  | _ => (match JLb CKi env mem 0 with
    | some xs => zD (JHf xs) 12 (fun _ _ => some 0) env mem m
    | none => none)
def YP:FuncId → Nat → Option QG := JB6 JYS 14 4 Juz
theorem JJ0:Known Tryz.prog (JB JBj) YP := by
  refine Qf 0 JJQ (by kernel_rfl) (Qs fun env mem m x h => ?_)
  unfold Juz at h
  have hlen:(QU Tryz.prog 14).length = 1 := by kernel_rfl
  split at h
  · split at h
    · exact ⟨_,XW (Qc X5 JJQ (by omega)) (Jn2 _ _),h⟩
    · cases h
  · split at h
    · exact ⟨_,XW (Qc X5 JJQ (by omega)) (Jfb _),h⟩
    · cases h
def JC6:Tpl := ⟨[.one (.wh 0),.one (.wh 1)],[(0,.row false 40 22 2 CKi),(1,.row false 40 22 3 CKi)],4⟩
section
variable (xs ys:LL)
def Jm7:Bool:=
 !Int.ofNat xs.length != Int.ofNat ys.length
def Jlc:LL:=
 bif Int.ofNat xs.length != Int.ofNat ys.length then ys else xs
def JDR:List Prop:=
 [(Int.ofNat xs.length != Int.ofNat ys.length) = false → (0 ≤ xs.length ∧ xs.length ≤ 1000000) ∧ Int.ofNat 0 = 0 ∧ xs = ys]
end
theorem JjO {xs:LL} {ys:LL} (hW:∀ q ∈ ([xs = ys,xs.length ≤ 1000000]:List Prop),q):∀ q ∈ (JDR xs ys),q := by
  simp only [awc,awn,and_true] at hW
  intro q hq
  unfold JDR at hq
  simp only [List.mem_cons,List.not_mem_nil,or_false] at hq
  obtain ⟨rfl,h2⟩ := hW
  subst hq
  exact fun _ => ⟨⟨Nat.zero_le _,h2⟩,rfl,rfl⟩
theorem Jkn (xs ys:LL) (hNeeds:∀ pN ∈ (JDR xs ys),pN):Runs (Jr (JB JBj) YP 14) (JC6.args []) (JC6.memo [] [xs,ys]) JC6.n (SV.one (Cb (Jm7 xs ys))) ([(0,Obj.row false 40 22 (RowC.lst 2 Wc xs)),(1,Obj.row false 40 22 (RowC.lst 23 Wc (Jlc xs ys)))]) :=
  Runs.of1 (ps := (JDR xs ys)) (by kernel_rfl) hNeeds
def JJk:List Pm → Qm → Option CRes
  | [],[xs,ys] => some ⟨SV.one (SC.bool (SB.c true)),[YM 0 2 xs,YM 1 23 xs],[xs = ys,xs.length ≤ 1000000],[],30⟩
  | _,_ => none
theorem JfK:Qg Tryz.prog 14 (JS JC6 JJk) := by
  refine JH (JD JJ0 14) fun ps ls r hr hn _ => ?_
  unfold JJk at hr
  split at hr
  · rename_i xs ys
    cases hr
    have h1:xs = ys := hn _ (by simp)
    have h2:xs.length ≤ 1000000 := hn _ (by simp)
    subst h1
    refine ⟨_,(Jkn xs xs (JjO (by simp [h2]))).to rfl ?_,fun θ => ?_⟩
    · simp only [Wc,Cb,Jlc,YM,CKi]
      cases (Int.ofNat xs.length != Int.ofNat xs.length) <;> rfl
    · simp [SV.den,SC.den,SB.val,Cb,Jm7]
  · cases hr
theorem Jq5 (m:Nat) (xs ys:LL) (h:∀ p ∈ [(Int.ofNat m != Int.ofNat ys.length) = false → (0 ≤ ys.length ∧ ys.length ≤ 1000000 ∧ xs.take ys.length = ys) ∧ Int.ofNat 0 = 0 ∧ ys.length = m ∧ ys = ys],p) :
    Runs (Jr (JB JBj) YP 14) [.one (.sl 0 22 (.c 0) (.v m)),.one (.wh 1)] [YM 0 2 xs,YM 1 3 ys] 4 (.one (.bool (.v (!(Int.ofNat m != Int.ofNat ys.length))))) [YM 0 2 xs,YM 1 23 (bif Int.ofNat m != Int.ofNat ys.length then ys else ys)] :=
  Runs.of1 (ps := _) (by kernel_rfl) h
def JtY:JY := fun vs mem n => match vs,mem,n with
  | [.one (.sl 0 22 (.c 0) (.v m)),.one (.wh 1)],[(0,.row false 40 22 (.lst 2 ks xs)),(1,.row false 40 22 (.lst 3 js ys))],4 =>
    bif W3 ks CKi && W3 js CKi then some ⟨.one (.bool (.c true)),[YM 0 2 xs,YM 1 23 ys],[m = ys.length,ys.length ≤ 1000000,xs.take ys.length = ys],[],30⟩ else none
  | _,_,_ => none
theorem Jln:Qg Tryz.prog 14 JtY := by
  intro vs mem n r hr hn he hwf hids θ w hm
  unfold JtY at hr
  split at hr
  · rename_i m ks xs js ys
    cases hk:(W3 ks CKi && W3 js CKi)
    · rw [hk] at hr; cases hr
    rw [hk] at hr
    simp only [Bool.and_eq_true] at hk
    obtain rfl := K3 hk.1
    obtain rfl := K3 hk.2
    cases hr
    have h1:m = ys.length := hn _ (by simp)
    have h2:ys.length ≤ 1000000 := hn _ (by simp)
    have h3:xs.take ys.length = ys := hn _ (by simp)
    obtain ⟨r',q1,q2,q3,q4,q5⟩ := (Jq5 m xs ys (by simp [h1,h2,h3])).run
    have := JD JJ0 14 _ _ _ r' q1 q2 q3 hwf hids θ w hm
    have e1:(Int.ofNat m != Int.ofNat ys.length) = false := by rw [h1]; simp
    rw [q4,q5,e1] at this
    exact this
  · cases hr
def Jsz:List (Nat × JY) := (14,orS (JS JC6 JJk) JtY) :: JBj
theorem Jc2:Known Tryz.prog (JB Jsz) YP := J7 JJ0 (JLS JfK Jln)
def JFI:Tpl := ⟨[.one (.int .i64),.one (.int .i64)],[],0⟩
theorem JkQ (a b:Int):Runs (Jr (JB Jsz) YP 110) (JFI.args [.i a,.i b]) (JFI.memo [.i a,.i b] []) JFI.n (SV.one (Ci (Qe a b))) ([]) :=
  Runs.of1 (ps := []) (by kernel_rfl) (by simp)
def JPw:List Pm → Qm → Option CRes
  | [.i a,.i b],[] => some ⟨SV.one (Ci (Qe a b)),
 [],[],[],17⟩
  | _,_ => none
theorem JrN:Qg Tryz.prog 110 (JS JFI JPw) := by
  refine JH (JD Jc2 110) fun ps ls r hr hn _ => ?_
  unfold JPw at hr
  split at hr
  · cases hr; exact ⟨_,JkQ _ _,fun _ => rfl⟩
  · cases hr
def JeE:List (Nat × JY) := (110,JS JFI JPw) :: Jsz
theorem JTa:Known Tryz.prog (JB JeE) YP := J7 Jc2 JrN
def JNf:Tpl := ⟨[.one (.int .i64)],[],0⟩
theorem Jrv (a:Int):Runs (Jr (JB JeE) YP 140) (JNf.args [.i a]) (JNf.memo [.i a] []) JNf.n (SV.one (SC.int IntKind.u64 (SI.v (J6 a)))) ([]) :=
  Runs.of1 (ps := []) (by kernel_rfl) (by simp)
def Jdx:List Pm → Qm → Option CRes
  | [.i a],[] => some ⟨SV.one (SC.int IntKind.u64 (SI.v (J6 a))),
 [],[],[],12⟩
  | _,_ => none
theorem Jvf:Qg Tryz.prog 140 (JS JNf Jdx) := by
  refine JH (JD JTa 140) fun ps ls r hr hn _ => ?_
  unfold Jdx at hr
  split at hr
  · cases hr; exact ⟨_,Jrv _,fun _ => rfl⟩
  · cases hr
def JqV:List (Nat × JY) := (140,JS JNf Jdx) :: JeE
theorem Jaz:Known Tryz.prog (JB JqV) YP := J7 JTa Jvf
def JF4:Tpl := ⟨[.agg [.int .i64,.int .i64],.agg [.int .i64,.int .i64]],[],0⟩
theorem JkJ (a b c d:Int):Runs (Jr (JB JqV) YP 79) (JF4.args [.i a,.i b,.i c,.i d]) (JF4.memo [.i a,.i b,.i c,.i d] []) JF4.n (SV.agg [Ci (J0 a c),Ci (J0 b d)]) ([]) :=
  Runs.of1 (ps := []) (by kernel_rfl) (by simp)
def JP5:List Pm → Qm → Option CRes
  | [.i a,.i b,.i c,.i d],[] => some ⟨SV.agg [Ci (J0 a c),Ci (J0 b d)],
 [],[],[],26⟩
  | _,_ => none
theorem Jt6:Qg Tryz.prog 79 (JS JF4 JP5) := by
  refine JH (JD Jaz 79) fun ps ls r hr hn _ => ?_
  unfold JP5 at hr
  split at hr
  · cases hr; exact ⟨_,JkJ _ _ _ _,fun _ => rfl⟩
  · cases hr
def Jct:List (Nat × JY) := (79,JS JF4 JP5) :: JqV
theorem JTD:Known Tryz.prog (JB Jct) YP := J7 Jaz Jt6
def JCG:Tpl := ⟨[.agg [.int .i64,.int .i64],.agg [.int .i64,.int .i64]],[],0⟩
theorem JgZ (a b c d:Int):Runs (Jr (JB Jct) YP 82) (JCG.args [.i a,.i b,.i c,.i d]) (JCG.memo [.i a,.i b,.i c,.i d] []) JCG.n (SV.one (Ci (JE a b c d))) ([]) :=
  Runs.of1 (ps := []) (by kernel_rfl) (by simp)
def JMG:List Pm → Qm → Option CRes
  | [.i a,.i b,.i c,.i d],[] => some ⟨SV.one (Ci (JE a b c d)),
 [],[],[],21⟩
  | _,_ => none
theorem JnI:Qg Tryz.prog 82 (JS JCG JMG) := by
  refine JH (JD JTD 82) fun ps ls r hr hn _ => ?_
  unfold JMG at hr
  split at hr
  · cases hr; exact ⟨_,JgZ _ _ _ _,fun _ => rfl⟩
  · cases hr
def JXm:List (Nat × JY) := (82,JS JCG JMG) :: Jct
theorem JNS:Known Tryz.prog (JB JXm) YP := J7 JTD JnI
def JD0:Tpl := ⟨[.agg [.int .i64,.int .i64],.agg [.int .i64,.int .i64]],[],0⟩
theorem JhL (a b c d:Int):Runs (Jr (JB JXm) YP 80) (JD0.args [.i a,.i b,.i c,.i d]) (JD0.memo [.i a,.i b,.i c,.i d] []) JD0.n (SV.one (Ci (J8 a b c d))) ([]) :=
  Runs.of1 (ps := []) (by kernel_rfl) (by simp)
def JMB:List Pm → Qm → Option CRes
  | [.i a,.i b,.i c,.i d],[] => some ⟨SV.one (Ci (J8 a b c d)),
 [],[],[],21⟩
  | _,_ => none
theorem JpL:Qg Tryz.prog 80 (JS JD0 JMB) := by
  refine JH (JD JNS 80) fun ps ls r hr hn _ => ?_
  unfold JMB at hr
  split at hr
  · cases hr; exact ⟨_,JhL _ _ _ _,fun _ => rfl⟩
  · cases hr
def JEc:List (Nat × JY) := (80,JS JD0 JMB) :: JXm
theorem JH1:Known Tryz.prog (JB JEc) YP := J7 JNS JpL
def JBS (id tag:Nat) (xs:Dg):Nat × SX.Obj := (id,.row false 140 1 (.lst tag [.int .u64] xs))
def JRS (n:Int):Fam Nat Unit where
  k := 20
  E j := [(3,ent 1000000000 (.one (.wh 4))),(0,ent 1000000001 (.one (U (n / 65536 ^ j))))]
  M j := [JBS 4 1000000002 (j4 n j)]
  out _ := .leaf (.exit 0) [(3,ent 6 (.one (.wh 4)))] [JBS 4 7 (JA n)]
  fin _ := ()
  next j _ := j + 1
  J j := j ≤ nd n ∧ 0 ≤ n ∧ n < 18446744073709551616
  μ j := nd n - j
section
variable (n:Int) (j:Nat)
def JX8:Int:=
 n / 65536 ^ j
def Jj6:Prop:=
 decide (JX8 n j > 0) = true
def JQO:List Prop:=
 [Jj6 n j → (List.length (j4 n j) + 1) * 8 ≤ 140737488355328 ∧ List.length (j4 n j) + 1 ≤ 9223372036854775807,Jj6 n j → ((JRS n).next j 0 ≤ nd n ∧ 0 ≤ n ∧ n < 18446744073709551616) ∧ (JRS n).μ ((JRS n).next j 0) < (JRS n).μ j ∧ (JRS n).fin ((JRS n).next j 0) = (JRS n).fin j ∧ n / 65536 ^ (JRS n).next j 0 = JV BinOp.shr IntKind.u64 (JX8 n j) 16 ∧ j4 n ((JRS n).next j 0) = j4 n j ++ [[Ze BinOp.and IntKind.u64 (JX8 n j) 65535]],decide (JX8 n j > 0) = false → JA n = j4 n j]
end
theorem JnK (n:Int) (j:Nat) (hNeeds:∀ pN ∈ (JQO n j),pN):Q4 (Xh (JRS n) (QW Tryz.prog (JB JEc) YP 139 0) 2 j) :=
  Q4.of (ps := (JQO n j)) (by kernel_rfl) (by kernel_rfl) hNeeds
theorem JVw (n:Int):Z1 (JRS n) (QW Tryz.prog (JB JEc) YP 139 0) 2 := by
  intro j hJ
  obtain ⟨h1,h2,h3⟩:j ≤ nd n ∧ 0 ≤ n ∧ n < 18446744073709551616 := hJ
  have h4 := (Kw h2 h3 (j := 0) (by omega)).2
  have h5 := (Kw h2 h3 (j := j) (by omega)).1
  obtain ⟨h6,h7⟩ := Jtu h2 h3 j
  have e:JX8 n j = n / 65536 ^ j := rfl
  refine JnK n j fun q hq => ?_
  unfold JQO at hq
  simp only [List.mem_cons,List.not_mem_nil,or_false] at hq
  rcases hq with rfl | rfl | rfl
  · intro _
    rw [KI]; omega
  · intro h
    have h:0 < n / 65536 ^ j := by simpa [Jj6,e] using h
    have h8 := h5.1 h
    refine ⟨⟨by show j + 1 ≤ nd n; omega,h2,h3⟩,by show nd n - (j + 1) < nd n - j; omega,trivial,?_,?_⟩
    · rw [e,JsV _ h6]; exact Jf1 n j
    · rw [e,JqT _ h6 h7]; exact Jaq n j
  · intro h
    have h:¬ 0 < n / 65536 ^ j := by simpa [e] using h
    have:j = nd n := by
      rcases Nat.lt_or_ge j (nd n) with h8 | h8
      · exact absurd (h5.2 h8) h
      · omega
    rw [this]; rfl
def Jub:QG := fun env mem m => match SX.JC env 0 with
  | some ⟨_,_,_,.one (.int .u64 (.v n))⟩ => zD (JRS n) 2 (fun _ _ => some 0) env mem m
  | some ⟨_,_,_,.one (.int .u64 (.c n))⟩ => zD (JRS n) 2 (fun _ _ => some 0) env mem m
  | _ => none
def JSE:FuncId → Nat → Option QG := JB6 YP 139 2 Jub
theorem JXl:Known Tryz.prog (JB JEc) JSE := by
  refine Qf 0 JH1 (by kernel_rfl) (Qs fun env mem m x h => ?_)
  unfold Jub at h
  have hlen:(QU Tryz.prog 139).length = 1 := by kernel_rfl
  split at h
  · exact ⟨_,XW (Qc X5 JH1 (by omega)) (JVw _),h⟩
  · exact ⟨_,XW (Qc X5 JH1 (by omega)) (JVw _),h⟩
  · cases h
def JFU:Tpl := ⟨[.one (.int .u64)],[],0⟩
def JE2 (n:Int):List Prop :=
 [0 ≤ nd n ∧ 0 ≤ n ∧ n < 18446744073709551616,n / 1 = n,j4 n 0 = []]
theorem Jjj {n:Int} (hW:∀ q ∈ ([0 ≤ n,n < 18446744073709551616]:List Prop),q):∀ q ∈ (JE2 n),q := by
  simp only [awc,awn,and_true] at hW
  intro q hq
  unfold JE2 at hq
  simp only [List.mem_cons,List.not_mem_nil,or_false] at hq
  obtain ⟨h1,h2⟩ := hW
  rcases hq with rfl | rfl | rfl
  · exact ⟨Nat.zero_le _,h1,h2⟩
  · simp
  · rfl
theorem JiH (n:Int) (hNeeds:∀ pN ∈ (JE2 n),pN):Runs (Jr (JB JEc) JSE 139) (JFU.args [.i n]) (JFU.memo [.i n] []) JFU.n (SV.one (SC.wh 4)) ([(4,Obj.row false 140 1 (RowC.lst 7 [CK.int IntKind.u64] (JA n)))]) :=
  Runs.of1 (ps := (JE2 n)) (by kernel_rfl) hNeeds
def JPo:List Pm → Qm → Option CRes
  | [.i n],[] => some ⟨SV.one (SC.wh 4),
 [(4,Obj.row false 140 1 (RowC.lst 7 [CK.int IntKind.u64] (JA n)))],[0 ≤ n,n < 18446744073709551616],[],24⟩
  | _,_ => none
theorem JsS:Qg Tryz.prog 139 (JS JFU JPo) := by
  refine JH (JD JXl 139) fun ps ls r hr hn _ => ?_
  unfold JPo at hr
  split at hr
  · cases hr; exact ⟨_,JiH _ (Jjj (by exact hn)),fun _ => rfl⟩
  · cases hr
def JB1:List (Nat × JY) := (139,JS JFU JPo) :: JEc
theorem JJf:Known Tryz.prog (JB JB1) JSE := J7 JXl JsS
def JTr (xs:Dg):Fam Nat Unit where
  k := 20
  E j := [(0,ent 1000000000 (.one (.wh 5)))]
  M j := [JBS 5 1000000001 (xs.take j)]
  out _ := .leaf (.exit 0) [(0,ent 7 (.one (.wh 5)))] [JBS 5 8 (JF6 xs)]
  fin _ := ()
  next j _ := j - 1
  J j := j ≤ xs.length ∧ JEV xs j = JEV xs xs.length ∧ xs.length ≤ 1000000
  μ j := j
section
variable (xs:Dg) (j:Nat)
def JM5:Bool:=
 decide (Int.ofNat (List.take j xs).length > 0)
def JCS:Int:=
 IntKind.i64.wrap (Int.ofNat (List.take j xs).length - 1)
def Jcm:Prop:=
 (JM5 xs j && ((List.take j xs).getD (JCS xs j).toNat []).getD 0 0 == 0) = true
def JQy:List Prop:=
 [JM5 xs j = true → 0 ≤ JCS xs j,JM5 xs j = true → (JCS xs j).toNat < (List.take j xs).length,JM5 xs j = true → (JCS xs j).toNat < (List.take j xs).length,Jcm xs j → 0 ≤ JCS xs j ∧ (JCS xs j).toNat ≤ (List.take j xs).length,Jcm xs j → ((JTr xs).next j 0 ≤ List.length xs ∧ JEV xs ((JTr xs).next j 0) = JEV xs (List.length xs) ∧ List.length xs ≤ 1000000) ∧ (JTr xs).μ ((JTr xs).next j 0) < (JTr xs).μ j ∧ (JTr xs).fin ((JTr xs).next j 0) = (JTr xs).fin j ∧ List.take ((JTr xs).next j 0) xs = List.take (JCS xs j).toNat (List.drop 0 (List.take j xs)),(JM5 xs j && ((List.take j xs).getD (JCS xs j).toNat []).getD 0 0 == 0) = false → JF6 xs = List.take j xs]
end
theorem Jo9 (xs:Dg) (j:Nat) (hNeeds:∀ pN ∈ (JQy xs j),pN):Q4 (Xh (JTr xs) (QW Tryz.prog (JB JB1) JSE 164 0) 3 j) :=
  Q4.of (ps := (JQy xs j)) (by kernel_rfl) (by kernel_rfl) hNeeds
theorem JlR (xs:Dg):Z1 (JTr xs) (QW Tryz.prog (JB JB1) JSE 164 0) 3 := by
  intro j hJ
  obtain ⟨h1,h2,h3⟩:j ≤ xs.length ∧ JEV xs j = JEV xs xs.length ∧ xs.length ≤ 1000000 := hJ
  have hl:(xs.take j).length = j := by rw [List.length_take]; omega
  have e0:JM5 xs j = decide (0 < j) := by unfold JM5; rw [hl]; simp
  have e1:0 < j → JCS xs j = Int.ofNat (j - 1) := fun h => by
    unfold JCS
    rw [hl,Zy (by simp; omega) (by simp; omega)]
    simp; omega
  have e2:0 < j → ((xs.take j).getD (JCS xs j).toNat []).getD 0 0 = dg xs (j - 1) := fun h => by
    rw [e1 h]
    show dg (xs.take j) (j - 1) = _
    rw [JdM,if_pos (by omega)]
  have e3:0 < j → JEV xs j = bif dg xs (j - 1) == 0 then JEV xs (j - 1) else j := fun h => by
    obtain ⟨m,rfl⟩:∃ m,j = m + 1 := ⟨j - 1,by omega⟩
    rfl
  have e4:Jcm xs j → 0 < j ∧ (dg xs (j - 1) == 0) = true := fun h => by
    unfold Jcm at h
    rw [Bool.and_eq_true,e0,decide_eq_true_eq] at h
    rw [e2 h.1] at h
    exact h
  refine Jo9 xs j fun q hq => ?_
  unfold JQy at hq
  simp only [List.mem_cons,List.not_mem_nil,or_false] at hq
  rcases hq with rfl | rfl | rfl | rfl | rfl | rfl
  · intro h
    rw [e0,decide_eq_true_eq] at h
    rw [e1 h]; simp
  · intro h
    rw [e0,decide_eq_true_eq] at h
    rw [e1 h,hl]; simp; omega
  · intro h
    rw [e0,decide_eq_true_eq] at h
    rw [e1 h,hl]; simp; omega
  · intro h
    obtain ⟨h4,h5⟩ := e4 h
    rw [e1 h4,hl]; simp
  · intro h
    obtain ⟨h4,h5⟩ := e4 h
    refine ⟨⟨?_,?_,h3⟩,?_,trivial,?_⟩
    · show j - 1 ≤ _; omega
    · have := e3 h4
      rw [h5,cond_true] at this
      show JEV xs (j - 1) = _
      rw [← this,h2]
    · show j - 1 < j; omega
    · rw [e1 h4,List.drop_zero,List.take_take]
      show xs.take (j - 1) = xs.take (min (j - 1) j)
      rw [Nat.min_eq_left (by omega)]
  · intro h
    unfold JF6
    rw [← h2]
    rcases Nat.eq_zero_or_pos j with h4 | h4
    · subst h4; rfl
    · rw [e2 h4,e0,decide_eq_true h4,Bool.true_and] at h
      rw [e3 h4,h,cond_false]
def Jux:QG := fun env mem m => match JLb [.int .u64] env mem 0 with
  | some xs => zD (JTr xs) 3 (fun _ _ => some xs.length) env mem m
  | none => none
def JuX:FuncId → Nat → Option QG := JB6 JSE 164 1 Jux
theorem Jij:Known Tryz.prog (JB JB1) JuX := by
  refine Qf 0 JJf (by kernel_rfl) (Qs fun env mem m x h => ?_)
  unfold Jux at h
  have hlen:(QU Tryz.prog 164).length = 1 := by kernel_rfl
  split at h
  · exact ⟨_,XW (Qc X5 JJf (by omega)) (JlR _),h⟩
  · cases h
def Jge (A B:Dg):Jn := [JBS 0 2 A,JBS 1 3 B]
def JHH (A B:Dg):Fam Nat Int where
  k := 20
  E j := [(5,ent 1000000000 (.one (I (Int.ofNat j - 1)))),(0,ent 0 (.one (.wh 0))),(1,ent 2 (.one (.wh 1)))]
  M j := Jge A B
  out t := .ite (decide (t < 0)) (.leaf .ret [(4,ent 24 (.one (.int .i64 (.c (-1)))))] (Jge A B)) (.ite (decide (0 < t)) (.leaf .ret [(4,ent 25 (.one (.int .i64 (.c 1))))] (Jge A B)) (.leaf (.exit 0) [] (Jge A B)))
  fin j := JEX A B j
  next j _ := j - 1
  J j := j ≤ A.length ∧ A.length = B.length ∧ A.length ≤ 1000000
  μ j := j
section
variable (A B:Dg) (j:Nat)
def Jf7:Prop:=
 decide (Int.ofNat j - 1 ≥ 0) = true
def JZj:Prop:=
 (Int.ofNat j - 1).toNat < List.length B
def JAj:Int:=
 (List.getD A (Int.ofNat j - 1).toNat []).getD 0 0
def JlU:Prop:=
 decide (JAj A j < JAj B j) = false
def Ja8:Prop:=
 decide ((JHH A B).fin j < 0) = false
def Jdv:Prop:=
 decide (0 < (JHH A B).fin j) = true
def JlD:Prop:=
 decide (0 < (JHH A B).fin j) = false → False
def Jeu:Prop:=
 decide ((JHH A B).fin j < 0) = true
def JPH:List Prop:=
 [Jf7 j → 0 ≤ Int.ofNat j - 1 ∧ (Int.ofNat j - 1).toNat < List.length A ∧ (Int.ofNat j - 1).toNat < List.length A ∧ 0 ≤ Int.ofNat j - 1 ∧ JZj B j ∧ JZj B j ∧ (JlU A B j → 0 ≤ Int.ofNat j - 1 ∧ (Int.ofNat j - 1).toNat < List.length A ∧ (Int.ofNat j - 1).toNat < List.length A ∧ 0 ≤ Int.ofNat j - 1 ∧ JZj B j ∧ JZj B j),Jf7 j → (decide (JAj A j < JAj B j) = true → Ja8 A B j → (Jdv A B j → Int.ofNat 1 = -1) ∧ JlD A B j) ∧ (JlU A B j → (decide (JAj A j > JAj B j) = true → (Jeu A B j → -1 = 1) ∧ (Ja8 A B j → JlD A B j)) ∧ (decide (JAj A j > JAj B j) = false → ((JHH A B).next j 2 ≤ List.length A ∧ List.length A = List.length B ∧ List.length A ≤ 1000000) ∧ (JHH A B).μ ((JHH A B).next j 2) < (JHH A B).μ j ∧ (JHH A B).fin ((JHH A B).next j 2) = (JHH A B).fin j ∧ Int.ofNat ((JHH A B).next j 2) - 1 = IntKind.i64.wrap (Int.ofNat j - 1 - 1))),decide (Int.ofNat j - 1 ≥ 0) = false → (Jeu A B j → False) ∧ (Ja8 A B j → Jdv A B j → False)]
end
theorem JpB (A B:Dg) (j:Nat) (hNeeds:∀ pN ∈ (JPH A B j),pN):Q4 (Xh (JHH A B) (QW Tryz.prog (JB JB1) JSE 111 0) 22 j) :=
  Q4.of (ps := (JPH A B j)) (by kernel_rfl) (by kernel_rfl) hNeeds
theorem JfS (A B:Dg):∀ j,JEX A B j = -1 ∨ JEX A B j = 0 ∨ JEX A B j = 1
  | 0 => .inr (.inl rfl)
  | j + 1 => by
    rw [JEX]
    cases decide (dg A j < dg B j)
    · rw [cond_false]
      cases decide (dg B j < dg A j)
      · rw [cond_false]; exact JfS A B j
      · exact .inr (.inr rfl)
    · exact .inl rfl
theorem JiS (A B:Dg):Z1 (JHH A B) (QW Tryz.prog (JB JB1) JSE 111 0) 22 := by
  intro j hJ
  obtain ⟨h1,h2,h3⟩:j ≤ A.length ∧ A.length = B.length ∧ A.length ≤ 1000000 := hJ
  refine JpB A B j fun q hq => ?_
  unfold JPH at hq
  rcases Nat.eq_zero_or_pos j with h0 | h0
  · subst h0
    have e0:¬ Jf7 0 := by unfold Jf7; simp
    have e1:(JHH A B).fin 0 = 0 := rfl
    simp only [List.mem_cons,List.not_mem_nil,or_false,Ja8,Jdv,Jeu,e1] at hq
    rcases hq with rfl | rfl | rfl
    · intro h; exact absurd h e0
    · intro h; exact absurd h e0
    · intro _; simp
  · obtain ⟨m,rfl⟩:∃ m,j = m + 1 := ⟨j - 1,by omega⟩
    have e1:Int.ofNat (m + 1) - 1 = Int.ofNat m := by simp
    have e2:(Int.ofNat m).toNat = m := rfl
    have e3:JAj A (m + 1) = dg A m := by unfold JAj; rw [e1]; rfl
    have e4:JAj B (m + 1) = dg B m := by unfold JAj; rw [e1]; rfl
    have e5:(JHH A B).fin (m + 1) = JEX A B (m + 1) := rfl
    have e6:0 ≤ Int.ofNat m := by simp
    have e7:IntKind.i64.wrap (Int.ofNat m - 1) = Int.ofNat m - 1 := Zy (by simp; omega) (by simp; omega)
    simp only [List.mem_cons,List.not_mem_nil,or_false,JZj,JlU,Ja8,Jdv,JlD,Jeu,e1,e2,e3,e4,e5,e7] at hq
    rcases hq with rfl | rfl | rfl
    · intro _
      have h4:m < A.length := by omega
      have h5:m < B.length := by omega
      exact ⟨e6,h4,h4,e6,h5,h5,fun _ => ⟨e6,h4,h4,e6,h5,h5⟩⟩
    · intro _
      refine ⟨fun h => ?_,fun h => ⟨fun h4 => ?_,fun h4 => ⟨⟨?_,h2,h3⟩,?_,?_,?_⟩⟩⟩
      · have:JEX A B (m + 1) = -1 := by rw [JEX,h,cond_true]
        rw [this]
        intro h; simp at h
      · have h4:decide (dg B m < dg A m) = true := h4
        have:JEX A B (m + 1) = 1 := by rw [JEX,h,cond_false,h4,cond_true]
        rw [this]
        exact ⟨fun h => by simp at h,fun _ h => by simp at h⟩
      · show m ≤ _; omega
      · show m < m + 1; omega
      · have h4:decide (dg B m < dg A m) = false := h4
        show JEX A B m = JEX A B (m + 1)
        rw [JEX,h,cond_false,h4,cond_false]
      · rfl
    · intro h; simp at h
def JuW:QG := fun env mem m => match JLb [.int .u64] env mem 0,JLb [.int .u64] env mem 1 with
  | some A,some B => zD (JHH A B) 22 (fun _ _ => some A.length) env mem m
  | _,_ => none
def JOY:FuncId → Nat → Option QG := JB6 JuX 111 6 JuW
theorem JVg:Known Tryz.prog (JB JB1) JOY := by
  refine Qf 0 Jij (by kernel_rfl) (Qs fun env mem m x h => ?_)
  unfold JuW at h
  have hlen:(QU Tryz.prog 111).length = 1 := by kernel_rfl
  split at h
  · exact ⟨_,XW (Qc X5 JJf (by omega)) (JiS _ _),h⟩
  · cases h
def JIz:Tpl := ⟨[.one (.wh 0)],[(0,.row false 140 1 1 [.int .u64])],2⟩
def JGP (xs:LL):List Prop :=
 [xs.length ≤ xs.length ∧ JEV xs xs.length = JEV xs xs.length ∧ xs.length ≤ 1000000,List.take xs.length xs = xs]
theorem Jot {xs:LL} (hW:∀ q ∈ ([xs.length ≤ 1000000]:List Prop),q):∀ q ∈ (JGP xs),q := by
  simp only [awc,awn,and_true] at hW
  intro q hq
  unfold JGP at hq
  simp only [List.mem_cons,List.not_mem_nil,or_false] at hq
  rcases hq with rfl | rfl
  · exact ⟨Nat.le_refl _,trivial,hW⟩
  · exact List.take_length
theorem JoI (xs:LL) (hNeeds:∀ pN ∈ (JGP xs),pN):Runs (Jr (JB JB1) JOY 164) (JIz.args []) (JIz.memo [] [xs]) JIz.n (SV.one (SC.wh 5)) ([(5,Obj.row false 140 1 (RowC.lst 8 [CK.int IntKind.u64] (JF6 xs)))]) :=
  Runs.of1 (ps := (JGP xs)) (by kernel_rfl) hNeeds
def JZh:List Pm → Qm → Option CRes
  | [],[xs] => some ⟨SV.one (SC.wh 5),
 [(5,Obj.row false 140 1 (RowC.lst 8 [CK.int IntKind.u64] (JF6 xs)))],[xs.length ≤ 1000000],[],25⟩
  | _,_ => none
theorem JtO:Qg Tryz.prog 164 (JS JIz JZh) := by
  refine JH (JD JVg 164) fun ps ls r hr hn _ => ?_
  unfold JZh at hr
  split at hr
  · cases hr; exact ⟨_,JoI _ (Jot (by exact hn)),fun _ => rfl⟩
  · cases hr
def JeO:List (Nat × JY) := (164,JS JIz JZh) :: JB1
theorem JYz:Known Tryz.prog (JB JeO) JOY := J7 JVg JtO
def kn:Tpl := ⟨[.one (.wh 0),.one (.wh 1)],[(0,.row false 140 1 2 [.int .u64]),(1,.row false 140 1 3 [.int .u64])],4⟩
def Jjm (A B:LL):Int :=
 bif Int.ofNat A.length != Int.ofNat B.length then bif decide (Int.ofNat A.length < Int.ofNat B.length) then -1 else 1 else bif decide ((JHH A B).fin A.length < 0) then -1 else bif decide (0 < (JHH A B).fin A.length) then 1 else 0
def JCi (A B:LL):List Prop :=
 [(Int.ofNat A.length != Int.ofNat B.length) = false → (A.length ≤ A.length ∧ A.length = B.length ∧ A.length ≤ 1000000) ∧ Int.ofNat A.length - 1 = IntKind.i64.wrap (Int.ofNat A.length - 1)]
theorem Jmi (A B:LL):(Jjm A B) = JGD A B := by
  unfold Jjm JGD
  show (bif _ then _ else bif decide (JEX A B A.length < 0) then (-1:Int) else bif decide (0 < JEX A B A.length) then 1 else 0) = _
  rcases JfS A B A.length with h | h | h <;> rw [h] <;> rfl
theorem Jo1 {A:LL} {B:LL} (hW:∀ q ∈ ([A.length ≤ 1000000]:List Prop),q):∀ q ∈ (JCi A B),q := by
  simp only [awc,awn,and_true] at hW
  intro q hq
  unfold JCi at hq
  simp only [List.mem_cons,List.not_mem_nil,or_false] at hq
  subst hq
  intro h
  simp at h
  exact ⟨⟨Nat.le_refl _,by omega,hW⟩,(Zy (by simp; omega) (by simp; omega)).symm⟩
theorem JoW (A B:LL) (hNeeds:∀ pN ∈ (JCi A B),pN):Runs (Jr (JB JeO) JOY 111) (kn.args []) (kn.memo [] [A,B]) kn.n (SV.one (Ci (Jjm A B))) ([(0,Obj.row false 140 1 (RowC.lst 2 [CK.int IntKind.u64] A)),(1,Obj.row false 140 1 (RowC.lst 3 [CK.int IntKind.u64] B))]) :=
  Runs.of1 (ps := (JCi A B)) (by kernel_rfl) hNeeds
def JXO:List Pm → Qm → Option CRes
  | [],[A,B] => some ⟨SV.one (Ci ((JGD A B))),[(0,Obj.row false 140 1 (RowC.lst 2 [CK.int IntKind.u64] A)),(1,Obj.row false 140 1 (RowC.lst 3 [CK.int IntKind.u64] B))],[A.length ≤ 1000000],[],43⟩
  | _,_ => none
theorem JfO (A B:LL) (hNeeds:∀ pN ∈ (JCi A B),pN):Runs (Jr (JB JeO) JOY 111) (kn.args []) (kn.memo [] [A,B]) kn.n (SV.one (SC.int IntKind.i64 (SI.v ((JGD A B)))))
    ([(0,Obj.row false 140 1 (RowC.lst 2 [CK.int IntKind.u64] A)),(1,Obj.row false 140 1 (RowC.lst 3 [CK.int IntKind.u64] B))]) :=
  (JoW A B hNeeds).to (by first | rfl | (simp only [Ci,Cb,Wc,Jmi])) (by first | rfl | (simp only [Ci,Cb,Wc,Jmi]))
theorem Ju6:Qg Tryz.prog 111 (JS kn JXO) := by
  refine JH (JD JYz 111) fun ps ls r hr hn _ => ?_
  unfold JXO at hr
  split at hr
  · cases hr; exact ⟨_,JfO _ _ (Jo1 (by exact hn)),fun _ => rfl⟩
  · cases hr
def JGw:List (Nat × JY) := (111,JS kn JXO) :: JeO
theorem JLU:Known Tryz.prog (JB JGw) JOY := J7 JYz Ju6
def inF (A B O:Dg) (i:Nat):Fam Nat Unit where
  k := 20
  E k := [(8,ent 1000000000 (.one (I (Int.ofNat k)))),(7,ent 1000000001 (.one (U (Xk (dg A i) B O i k).2))),(6,ent 1000000002 (.one (I (Int.ofNat i)))),(5,ent 1000000003 (.one (.wh 42))),(0,ent 0 (.one (.wh 0))),(1,ent 2 (.one (.wh 1)))]
  M k := JBS 42 1000000004 (Xk (dg A i) B O i k).1 :: Jge A B
  out _ := .leaf (.exit 2) [(7,ent 45 (.one (U (Xk (dg A i) B O i B.length).2))),(6,ent 46 (.one (I (Int.ofNat i)))),(5,ent 47 (.one (.wh 42))),(0,ent 0 (.one (.wh 0))),(1,ent 2 (.one (.wh 1)))] (JBS 42 48 (Xk (dg A i) B O i B.length).1 :: Jge A B)
  fin _ := ()
  next k _ := k + 1
  J k := k ≤ B.length ∧ i < A.length ∧ jB A ∧ jB B ∧ jB O ∧ O.length = A.length + B.length ∧ A.length + B.length ≤ 1000000
  μ k := B.length - k
section
variable (A B O:Dg) (i k:Nat)
def Jez:Prop:=
 decide (Int.ofNat k < Int.ofNat (List.length B)) = true
def JP7:Prop:=
 (IntKind.i64.wrap (Int.ofNat i + Int.ofNat k)).toNat < List.length (Xk (dg A i) B O i k).fst
def JfE:List Int:=
 List.getD (Xk (dg A i) B O i k).fst (IntKind.i64.wrap (Int.ofNat i + Int.ofNat k)).toNat []
def Je2:Int:=
 IntKind.u64.wrap (IntKind.u64.wrap ((JfE A B O i k).getD 0 0 + IntKind.u64.wrap ((List.getD A (Int.ofNat i).toNat []).getD 0 0 * (List.getD B (Int.ofNat k).toNat []).getD 0 0)) + (Xk (dg A i) B O i k).snd)
end
def JQT (A:Dg) (B:Dg) (O:Dg) (i k:Nat):List Prop :=
 [Jez B k → 0 ≤ IntKind.i64.wrap (Int.ofNat i + Int.ofNat k) ∧ JP7 A B O i k ∧ JP7 A B O i k ∧ 0 ≤ Int.ofNat i ∧ (Int.ofNat i).toNat < List.length A ∧ (Int.ofNat i).toNat < List.length A ∧ 0 ≤ Int.ofNat k ∧ (Int.ofNat k).toNat < List.length B ∧ (Int.ofNat k).toNat < List.length B ∧ 0 ≤ IntKind.i64.wrap (Int.ofNat i + Int.ofNat k) ∧ JP7 A B O i k ∧ JP7 A B O i k,Jez B k → ((inF A B O i).next k 0 ≤ List.length B ∧ i < List.length A ∧ (∀ (i:Nat),0 ≤ dg A i ∧ dg A i < 65536) ∧ (∀ (i:Nat),0 ≤ dg B i ∧ dg B i < 65536) ∧ (∀ (i:Nat),0 ≤ dg O i ∧ dg O i < 65536) ∧ List.length O = List.length A + List.length B ∧ List.length A + List.length B ≤ 1000000) ∧ (inF A B O i).μ ((inF A B O i).next k 0) < (inF A B O i).μ k ∧ (inF A B O i).fin ((inF A B O i).next k 0) = (inF A B O i).fin k ∧ Int.ofNat ((inF A B O i).next k 0) = IntKind.i64.wrap (Int.ofNat k + 1) ∧ (Xk (dg A i) B O i ((inF A B O i).next k 0)).snd = JV BinOp.shr IntKind.u64 (Je2 A B O i k) 16 ∧ Int.ofNat i = Int.ofNat i ∧ (Xk (dg A i) B O i ((inF A B O i).next k 0)).fst = List.set (Xk (dg A i) B O i k).fst (IntKind.i64.wrap (Int.ofNat i + Int.ofNat k)).toNat (JLH 1 0 0 [Ze BinOp.and IntKind.u64 (Je2 A B O i k) 65535] (JfE A B O i k)),decide (Int.ofNat k < Int.ofNat (List.length B)) = false → (Xk (dg A i) B O i (List.length B)).snd = (Xk (dg A i) B O i k).snd ∧ Int.ofNat i = Int.ofNat i ∧ (Xk (dg A i) B O i (List.length B)).fst = (Xk (dg A i) B O i k).fst]
theorem JpD (A B O:Dg) (i k:Nat) (hNeeds:∀ pN ∈ (JQT A B O i k),pN):Q4 (Xh (inF A B O i) (QW Tryz.prog (JB JGw) JOY 138 1) 41 k) :=
  Q4.of (ps := (JQT A B O i k)) (by kernel_rfl) (by kernel_rfl) hNeeds
theorem JZ7 (A B O:Dg) (i:Nat):Z1 (inF A B O i) (QW Tryz.prog (JB JGw) JOY 138 1) 41 := by
  intro k hJ
  have hJ' := hJ
  obtain ⟨h1,h2,hA,hB,hO,h3,h4⟩:k ≤ B.length ∧ i < A.length ∧ jB A ∧ jB B ∧ jB O ∧ O.length = A.length + B.length ∧ A.length + B.length ≤ 1000000 := hJ
  have hl:List.length (Xk (dg A i) B O i k).fst = A.length + B.length := by rw [WG,h3]
  refine JpD A B O i k fun q hq => ?_
  unfold JQT at hq
  simp only [List.mem_cons,List.not_mem_nil,or_false] at hq
  have ew:IntKind.i64.wrap (Int.ofNat i + Int.ofNat k) = Int.ofNat (i + k) := by rw [Zy (by simp; omega) (by simp; omega)]; simp
  have ew2:(IntKind.i64.wrap (Int.ofNat i + Int.ofNat k)).toNat = i + k := by rw [ew]; rfl
  have es:Jez B k → k < B.length := fun h => by simpa [Jez] using h
  have e2:JfE A B O i k = (Xk (dg A i) B O i k).1.getD (i + k) [] := by unfold JfE; rw [ew2]
  rcases hq with rfl | rfl | rfl
  · intro h
    have hk := es h
    have e1:JP7 A B O i k := by unfold JP7; rw [ew2,hl]; omega
    have e0:0 ≤ IntKind.i64.wrap (Int.ofNat i + Int.ofNat k) := by rw [ew]; exact Int.natCast_nonneg _
    exact ⟨e0,e1,e1,by simp,h2,h2,by simp,hk,hk,e0,e1,e1⟩
  · intro h
    have hk := es h
    obtain ⟨hr,hc⟩ := JK9 (i := i) (hA i) hB hO k (by omega)
    obtain ⟨d1,d2⟩ := hr (i + k)
    obtain ⟨p1,p2⟩ := JYg (hA i) (hB k)
    have e3:Je2 A B O i k = dg (Xk (dg A i) B O i k).1 (i + k) + dg A i * dg B k + (Xk (dg A i) B O i k).2 := by
      unfold Je2
      rw [e2]
      show IntKind.u64.wrap (IntKind.u64.wrap (dg (Xk (dg A i) B O i k).1 (i + k) + IntKind.u64.wrap (dg A i * dg B k)) + _) = _
      rw [Yy p1 (by omega),Yy (x := _ + dg A i * dg B k) (by omega) (by omega),Yy (by omega) (by omega)]
    have e4:0 ≤ dg (Xk (dg A i) B O i k).1 (i + k) + dg A i * dg B k + (Xk (dg A i) B O i k).2 := by omega
    refine ⟨⟨hk,h2,hA,hB,hO,h3,h4⟩,?_,trivial,?_,?_,trivial,?_⟩
    · show B.length - (k + 1) < B.length - k; omega
    · rw [Zy (by simp; omega) (by simp; omega)]; rfl
    · rw [e3,JsV _ e4]; rfl
    · rw [e3,JqT _ e4 (by omega),ew2]; rfl
  · intro h
    have hk:k = B.length := by simp at h; omega
    subst hk
    exact ⟨rfl,trivial,rfl⟩
def Jtn:QG := fun env mem m => match JLb [.int .u64] env mem 0,JLb [.int .u64] env mem 1,JLb [.int .u64] env mem 5,Wb env 6 with
  | some A,some B,some O,some i => zD (inF A B O i.toNat) 41 (fun _ _ => some 0) env mem m
  | _,_,_,_ => none
def Jls:FuncId → Nat → Option QG := JB6 JOY 138 7 Jtn
theorem JM4:Known Tryz.prog (JB JGw) Jls := by
  refine Qf 1 JLU (by kernel_rfl) (Qs fun env mem m x h => ?_)
  unfold Jtn at h
  have hlen:(QU Tryz.prog 138).length = 2 := by kernel_rfl
  split at h
  · exact ⟨_,XW (Qc X5 JLU (by omega)) (JZ7 _ _ _ _),h⟩
  · cases h
def JTs (A B:Dg):Fam Nat Unit where
  k := 20
  E i := [(6,ent 1000000000 (.one (I (Int.ofNat i)))),(5,ent 1000000001 (.one (.wh 16))),(0,ent 0 (.one (.wh 0))),(1,ent 2 (.one (.wh 1)))]
  M i := JBS 16 1000000002 (Qu A B i) :: Jge A B
  out _ := .leaf (.exit 0) [(5,ent 18 (.one (.wh 16)))] (JBS 16 19 (Qu A B A.length) :: Jge A B)
  fin _ := ()
  next i _ := i + 1
  J i := i ≤ A.length ∧ jB A ∧ jB B ∧ A.length + B.length ≤ 1000000
  μ i := A.length - i
section
variable (A B:Dg) (i:Nat)
def JdZ:Prop:=
 decide (Int.ofNat i < Int.ofNat (List.length A)) = true
def Jsx:Prop:=
 List.length A + List.length B ≤ 1000000
def JHb:Int:=
 IntKind.i64.wrap (Int.ofNat (Int.ofNat i).toNat + Int.ofNat (List.length B))
def JRK:Prop:=
 (JHb B i).toNat < List.length (Xk (dg A (Int.ofNat i).toNat) B (Qu A B i) (Int.ofNat i).toNat (List.length B)).fst
def Jcg:List Int:=
 List.getD (Xk (dg A (Int.ofNat i).toNat) B (Qu A B i) (Int.ofNat i).toNat (List.length B)).fst (JHb B i).toNat []
end
def JRX (A:Dg) (B:Dg) (i:Nat):List Prop :=
 [JdZ A i → (0 ≤ List.length B ∧ (Int.ofNat i).toNat < List.length A ∧ (∀ (i:Nat),0 ≤ dg A i ∧ dg A i < 65536) ∧ (∀ (i:Nat),0 ≤ dg B i ∧ dg B i < 65536) ∧ (∀ (i_1:Nat),0 ≤ dg (Qu A B i) i_1 ∧ dg (Qu A B i) i_1 < 65536) ∧ List.length (Qu A B i) = List.length A + List.length B ∧ Jsx A B) ∧ Int.ofNat 0 = 0 ∧ (Xk (dg A (Int.ofNat i).toNat) B (Qu A B i) (Int.ofNat i).toNat 0).snd = 0 ∧ Int.ofNat (Int.ofNat i).toNat = Int.ofNat i ∧ (Xk (dg A (Int.ofNat i).toNat) B (Qu A B i) (Int.ofNat i).toNat 0).fst = Qu A B i ∧ 0 ≤ JHb B i ∧ JRK A B i ∧ JRK A B i ∧ 0 ≤ JHb B i ∧ JRK A B i ∧ JRK A B i,JdZ A i → ((JTs A B).next i 0 ≤ List.length A ∧ (∀ (i:Nat),0 ≤ dg A i ∧ dg A i < 65536) ∧ (∀ (i:Nat),0 ≤ dg B i ∧ dg B i < 65536) ∧ Jsx A B) ∧ (JTs A B).μ ((JTs A B).next i 0) < (JTs A B).μ i ∧ (JTs A B).fin ((JTs A B).next i 0) = (JTs A B).fin i ∧ Int.ofNat ((JTs A B).next i 0) = IntKind.i64.wrap (Int.ofNat (Int.ofNat i).toNat + 1) ∧ Qu A B ((JTs A B).next i 0) = List.set (Xk (dg A (Int.ofNat i).toNat) B (Qu A B i) (Int.ofNat i).toNat (List.length B)).fst (JHb B i).toNat (JLH 1 0 0 [IntKind.u64.wrap ((Jcg A B i).getD 0 0 + (Xk (dg A (Int.ofNat i).toNat) B (Qu A B i) (Int.ofNat i).toNat (List.length B)).snd)] (Jcg A B i)),decide (Int.ofNat i < Int.ofNat (List.length A)) = false → Qu A B (List.length A) = Qu A B i]
theorem JoT (A B:Dg) (i:Nat) (hNeeds:∀ pN ∈ (JRX A B i),pN):Q4 (Xh (JTs A B) (QW Tryz.prog (JB JGw) Jls 138 0) 15 i) :=
  Q4.of (ps := (JRX A B i)) (by kernel_rfl) (by kernel_rfl) hNeeds
theorem JXF (A B:Dg):Z1 (JTs A B) (QW Tryz.prog (JB JGw) Jls 138 0) 15 := by
  intro i hJ
  obtain ⟨h1,hA,hB,h4⟩:i ≤ A.length ∧ jB A ∧ jB B ∧ A.length + B.length ≤ 1000000 := hJ
  have e0:(Int.ofNat i).toNat = i := rfl
  have e1:JHb B i = Int.ofNat (i + B.length) := by unfold JHb; rw [e0,Zy (by simp; omega) (by simp; omega)]; simp
  have e2:(JHb B i).toNat = i + B.length := by rw [e1]; rfl
  have hl := XP A B i
  have hn:List.length (Xk (dg A i) B (Qu A B i) i B.length).fst = A.length + B.length := by rw [WG,hl]
  have es:JdZ A i → i < A.length := fun h => by simpa [JdZ] using h
  have e3:Jcg A B i = (Xk (dg A i) B (Qu A B i) i B.length).1.getD (i + B.length) [] := by unfold Jcg; rw [e2,e0]
  refine JoT A B i fun q hq => ?_
  unfold JRX at hq
  simp only [List.mem_cons,List.not_mem_nil,or_false,e0] at hq
  rcases hq with rfl | rfl | rfl
  · intro h
    have hi := es h
    have e4:JRK A B i := by unfold JRK; rw [e2,e0,hn]; omega
    have e5:0 ≤ JHb B i := by rw [e1]; exact Int.natCast_nonneg _
    exact ⟨⟨Nat.zero_le _,hi,hA,hB,JD3 hA hB i (by omega),hl,h4⟩,rfl,rfl,trivial,rfl,e5,e4,e4,e5,e4,e4⟩
  · intro h
    have hi := es h
    obtain ⟨hr,c1,c2⟩ := JK9 (i := i) (hA i) hB (JD3 hA hB i (by omega)) B.length (by omega)
    obtain ⟨d1,d2⟩ := hr (i + B.length)
    refine ⟨⟨hi,hA,hB,h4⟩,?_,trivial,?_,?_⟩
    · show A.length - (i + 1) < A.length - i; omega
    · rw [Zy (by simp; omega) (by simp; omega)]; rfl
    · rw [e2,e3]
      have:IntKind.u64.wrap (dg (Xk (dg A i) B (Qu A B i) i B.length).1 (i + B.length) + (Xk (dg A i) B (Qu A B i) i B.length).2) = dg (Xk (dg A i) B (Qu A B i) i B.length).1 (i + B.length) + (Xk (dg A i) B (Qu A B i) i B.length).2 := Yy (by omega) (by omega)
      show _ = List.set _ _ [IntKind.u64.wrap (dg (Xk (dg A i) B (Qu A B i) i B.length).1 (i + B.length) + (Xk (dg A i) B (Qu A B i) i B.length).2)]
      rw [this]; rfl
  · intro h
    have:i = A.length := by simp at h; omega
    rw [this]
def Jlg:QG := fun env mem m => match JLb [.int .u64] env mem 0,JLb [.int .u64] env mem 1 with
  | some A,some B => zD (JTs A B) 15 (fun _ _ => some 0) env mem m
  | _,_ => none
def JKk:FuncId → Nat → Option QG := JB6 Jls 138 3 Jlg
theorem JWd:Known Tryz.prog (JB JGw) JKk := by
  refine Qf 0 JM4 (by kernel_rfl) (Qs fun env mem m x h => ?_)
  unfold Jlg at h
  have hlen:(QU Tryz.prog 138).length = 2 := by kernel_rfl
  split at h
  · exact ⟨_,XW (Qc X5 JM4 (by omega)) (JXF _ _),h⟩
  · cases h
def JFe:Tpl := ⟨[.one (.wh 0),.one (.wh 1)],[(0,.row false 140 1 2 [.int .u64]),(1,.row false 140 1 3 [.int .u64])],4⟩
def Ja (A B:LL):Dg :=
 JF6 (Qu A B A.length)
def JH4 (A B:LL):Int :=
 IntKind.i64.wrap (Int.ofNat A.length + Int.ofNat B.length)
def JGW (A B:LL):List Prop :=
 [0 ≤ JH4 A B,((JH4 A B).toNat + 0) * 8 ≤ 140737488355328,(JH4 A B).toNat + 0 ≤ 9223372036854775807,0 ≤ A.length ∧ (∀ (i:Nat),0 ≤ dg A i ∧ dg A i < 65536) ∧ (∀ (i:Nat),0 ≤ dg B i ∧ dg B i < 65536) ∧ A.length + B.length ≤ 1000000,Int.ofNat 0 = 0,Qu A B 0 = List.replicate (JH4 A B).toNat [0],List.length (Qu A B A.length) ≤ 1000000]
theorem Jnr {A:LL} {B:LL} (hW:∀ q ∈ ([jB A,jB B,A.length + B.length ≤ 1000000]:List Prop),q):∀ q ∈ (JGW A B),q := by
  simp only [awc,awn,and_true] at hW
  intro q hq
  unfold JGW at hq
  simp only [List.mem_cons,List.not_mem_nil,or_false] at hq
  obtain ⟨hA,hB,h⟩ := hW
  have e:JH4 A B = Int.ofNat (A.length + B.length) := by unfold JH4; rw [Zy (by simp; omega) (by simp; omega)]; simp
  have e2:(JH4 A B).toNat = A.length + B.length := by rw [e]; rfl
  rcases hq with rfl | rfl | rfl | rfl | rfl | rfl | rfl
  · rw [e]; exact Int.natCast_nonneg _
  · rw [e2]; omega
  · rw [e2]; omega
  · exact ⟨Nat.zero_le _,hA,hB,h⟩
  · rfl
  · rw [e2]; rfl
  · rw [XP]; exact h
def Jlq (A B:LL):Jn :=
 [(41,Obj.row false 140 1 (RowC.lst 44 [CK.int IntKind.u64] (Ja A B))),(0,Obj.row false 140 1 (RowC.lst 2 [CK.int IntKind.u64] A)),(1,Obj.row false 140 1 (RowC.lst 3 [CK.int IntKind.u64] B))]
theorem Jna (A B:LL) (hNeeds:∀ pN ∈ (JGW A B),pN):Runs (Jr (JB JGw) JKk 138) (JFe.args []) (JFe.memo [] [A,B]) JFe.n (SV.one (SC.wh 41)) (Jlq A B) :=
  Runs.of1 (ps := (JGW A B)) (by kernel_rfl) hNeeds
def JNK:List Pm → Qm → Option CRes
  | [],[A,B] => some ⟨SV.one (SC.wh 41),
 Jlq A B,[jB A,jB B,A.length + B.length ≤ 1000000],[],63⟩
  | _,_ => none
theorem Jmg:Qg Tryz.prog 138 (JS JFe JNK) := by
  refine JH (JD JWd 138) fun ps ls r hr hn _ => ?_
  unfold JNK at hr
  split at hr
  · cases hr; exact ⟨_,Jna _ _ (Jnr (by exact hn)),fun _ => rfl⟩
  · cases hr
def Jkl:List (Nat × JY) := (138,JS JFe JNK) :: JGw
theorem JWG:Known Tryz.prog (JB Jkl) JKk := J7 JWd Jmg
def JEa:Tpl := ⟨[.one (.int .i64),.one (.int .i64)],[],0⟩
def JDK (a b:Int):List Prop :=
 [0 ≤ J6 a,J6 a < 18446744073709551616,0 ≤ J6 b,J6 b < 18446744073709551616,∀ (i:Nat),0 ≤ dg (JA (J6 a)) i ∧ dg (JA (J6 a)) i < 65536,∀ (i:Nat),0 ≤ dg (JA (J6 b)) i ∧ dg (JA (J6 b)) i < 65536,List.length (JA (J6 a)) + List.length (JA (J6 b)) ≤ 1000000]
theorem Jky {a:Int} {b:Int} (hW:∀ q ∈ ([XT a,XT b]:List Prop),q):∀ q ∈ (JDK a b),q := by
  simp only [awc,awn,and_true] at hW
  intro q hq
  unfold JDK at hq
  simp only [List.mem_cons,List.not_mem_nil,or_false] at hq
  obtain ⟨ha,hb⟩ := hW
  obtain ⟨a1,a2⟩ := Qn ha
  obtain ⟨b1,b2⟩ := Qn hb
  have la:(JA (J6 a)).length ≤ 4 := by rw [JA,KI]; exact (Kw a1 a2 (j := 0) (by omega)).2
  have lb:(JA (J6 b)).length ≤ 4 := by rw [JA,KI]; exact (Kw b1 b2 (j := 0) (by omega)).2
  rcases hq with rfl | rfl | rfl | rfl | rfl | rfl | rfl
  · exact a1
  · exact a2
  · exact b1
  · exact b2
  · exact Kh _ _
  · exact Kh _ _
  · omega
theorem Ji0 (a b:Int) (hNeeds:∀ pN ∈ (JDK a b),pN):Runs (Jr (JB Jkl) JKk 112) (JEa.args [.i a,.i b]) (JEa.memo [.i a,.i b] []) JEa.n (SV.one (SC.wh 120)) ([(120,Obj.row false 140 1 (RowC.lst 123 [CK.int IntKind.u64] (Ja (JA (J6 a)) (JA (J6 b)))))]) :=
  Runs.of1 (ps := (JDK a b)) (by kernel_rfl) hNeeds
def JPt:List Pm → Qm → Option CRes
  | [.i a,.i b],[] => some ⟨SV.one (SC.wh 120),
 [(120,Obj.row false 140 1 (RowC.lst 123 [CK.int IntKind.u64] (Ja (JA (J6 a)) (JA (J6 b)))))],[XT a,XT b],[],144⟩
  | _,_ => none
theorem JsW:Qg Tryz.prog 112 (JS JEa JPt) := by
  refine JH (JD JWG 112) fun ps ls r hr hn _ => ?_
  unfold JPt at hr
  split at hr
  · cases hr; exact ⟨_,Ji0 _ _ (Jky (by exact hn)),fun _ => rfl⟩
  · cases hr
def Jcx:List (Nat × JY) := (112,JS JEa JPt) :: Jkl
theorem JT3:Known Tryz.prog (JB Jcx) JKk := J7 JWG JsW
def JI4:Tpl := ⟨[.one (.int .i64),.one (.int .i64),.one (.int .i64),.one (.int .i64)],[],0⟩
def JHJ (a b c d:Int):Int :=
 bif decide (Qe a b < Qe c d) then -1 else bif decide (Qe a b > Qe c d) then 1 else IntKind.i64.wrap (Qe a b * JGD (Ja (JA (J6 a)) (JA (J6 b))) (Ja (JA (J6 c)) (JA (J6 d))))
def JGX (a b c d:Int):List Prop :=
 [decide (Qe a b < Qe c d) = false → decide (Qe a b > Qe c d) = false → (-9223372036854775808 ≤ a ∧ a < 9223372036854775808) ∧ (-9223372036854775808 ≤ b ∧ b < 9223372036854775808) ∧ (-9223372036854775808 ≤ c ∧ c < 9223372036854775808) ∧ (-9223372036854775808 ≤ d ∧ d < 9223372036854775808) ∧ List.length (Ja (JA (J6 a)) (JA (J6 b))) ≤ 1000000]
theorem JcW (a b c d:Int) (ha:XT a) (hb:XT b) (hc:XT c) (hd:XT d):(JHJ a b c d) = K6 (a * b) (c * d) := by
  unfold JHJ
  obtain ⟨x1,x2,x3⟩ := JCz (Qn ha) (Qn hb)
  obtain ⟨y1,y2,y3⟩ := JCz (Qn hc) (Qn hd)
  have h0 := JOH x1 y1 x2 y2
  rw [x3,y3] at h0
  unfold JZ1 at h0
  unfold Ja
  rw [h0,Xl a ha,Xl b hb,Xl c hc,Xl d hd]
  have s1 := JJO a b
  have s2 := JJO c d
  generalize (if a < 0 then -a else a) * (if b < 0 then -b else b) = X at *
  generalize (if c < 0 then -c else c) * (if d < 0 then -d else d) = Y at *
  generalize a * b = P at *
  generalize c * d = Q at *
  have w:∀ x:Int,-1 ≤ x ∧ x ≤ 1 → IntKind.i64.wrap x = x := fun x h => Zy (by omega) (by omega)
  have hcm:K6 X Y = -1 ∧ X < Y ∨ K6 X Y = 0 ∧ X = Y ∨ K6 X Y = 1 ∧ Y < X := by unfold K6; (repeat' split) <;> omega
  have hcp:K6 P Q = -1 ∧ P < Q ∨ K6 P Q = 0 ∧ P = Q ∨ K6 P Q = 1 ∧ Q < P := by unfold K6; (repeat' split) <;> omega
  clear h0
  generalize K6 X Y = m at *
  generalize K6 P Q = n at *
  rcases s1 with ⟨e1,p1⟩ | ⟨e1,p1,q1⟩ | ⟨e1,p1,q1⟩ <;> rcases s2 with ⟨e2,p2⟩ | ⟨e2,p2,q2⟩ | ⟨e2,p2,q2⟩ <;> rw [e1,e2]
  · show IntKind.i64.wrap (0 * m) = n; rw [w _ (by omega)]; omega
  · show (-1:Int) = n; omega
  · show (1:Int) = n; omega
  · show (1:Int) = n; omega
  · show IntKind.i64.wrap (1 * m) = n; rw [w _ (by omega)]; omega
  · show (1:Int) = n; omega
  · show (-1:Int) = n; omega
  · show (-1:Int) = n; omega
  · show IntKind.i64.wrap (-1 * m) = n; rw [w _ (by omega)]; omega
theorem Jn9 {a:Int} {b:Int} {c:Int} {d:Int} (hW:∀ q ∈ ([XT a,XT b,XT c,XT d]:List Prop),q):∀ q ∈ (JGX a b c d),q := by
  simp only [awc,awn,and_true] at hW
  intro q hq
  unfold JGX at hq
  simp only [List.mem_cons,List.not_mem_nil,or_false] at hq
  obtain ⟨ha,hb,hc,hd⟩ := hW
  subst hq
  intro _ _
  refine ⟨ha,hb,hc,hd,?_⟩
  obtain ⟨a1,a2⟩ := Qn ha
  obtain ⟨b1,b2⟩ := Qn hb
  have la:(JA (J6 a)).length ≤ 4 := by rw [JA,KI]; exact (Kw a1 a2 (j := 0) (by omega)).2
  have lb:(JA (J6 b)).length ≤ 4 := by rw [JA,KI]; exact (Kw b1 b2 (j := 0) (by omega)).2
  unfold Ja
  rw [JIB]
  have := JK5 (Qu (JA (J6 a)) (JA (J6 b)) (JA (J6 a)).length) (Qu (JA (J6 a)) (JA (J6 b)) (JA (J6 a)).length).length
  rw [XP] at this
  rw [XP]
  omega
theorem Joa (a b c d:Int) (hNeeds:∀ pN ∈ (JGX a b c d),pN):Runs (Jr (JB Jcx) JKk 81) (JI4.args [.i a,.i b,.i c,.i d]) (JI4.memo [.i a,.i b,.i c,.i d] []) JI4.n (SV.one (Ci (JHJ a b c d))) ([]) :=
  Runs.of1 (ps := (JGX a b c d)) (by kernel_rfl) hNeeds
def Ja6:List Pm → Qm → Option CRes
  | [.i a,.i b,.i c,.i d],[] => some ⟨SV.one (Ci (JHJ a b c d)),
 [],[XT a,XT b,XT c,XT d],[],394⟩
  | _,_ => none
theorem Jth:Qg Tryz.prog 81 (JS JI4 Ja6) := by
  refine JH (JD JT3 81) fun ps ls r hr hn _ => ?_
  unfold Ja6 at hr
  split at hr
  · cases hr; exact ⟨_,Joa _ _ _ _ (Jn9 (by exact hn)),fun _ => rfl⟩
  · cases hr
def JHI:List (Nat × JY) := (81,JS JI4 Ja6) :: Jcx
theorem JVD:Known Tryz.prog (JB JHI) JKk := J7 JT3 Jth
def JPU (A O:Dg) (i:Nat):Fam Nat Unit where
  k := 20
  E k := [(8,ent 1000000000 (.one (I (Int.ofNat k)))),(7,ent 1000000001 (.one (U (Xk (dg A i) A O i k).2))),(6,ent 1000000002 (.one (I (Int.ofNat i)))),(5,ent 1000000003 (.one (.wh 40))),(0,ent 0 (.one (.wh 0))),(1,ent 2 (.one (.wh 0)))]
  M k := [JBS 40 1000000004 (Xk (dg A i) A O i k).1,JBS 0 1 A]
  out _ := .leaf (.exit 2) [(7,ent 43 (.one (U (Xk (dg A i) A O i A.length).2))),(6,ent 44 (.one (I (Int.ofNat i)))),(5,ent 45 (.one (.wh 40))),(0,ent 0 (.one (.wh 0))),(1,ent 2 (.one (.wh 0)))] [JBS 40 46 (Xk (dg A i) A O i A.length).1,JBS 0 1 A]
  fin _ := ()
  next k _ := k + 1
  J k := k ≤ A.length ∧ i < A.length ∧ jB A ∧ jB O ∧ O.length = A.length + A.length ∧ A.length + A.length ≤ 1000000
  μ k := A.length - k
section
variable (A O:Dg) (i k:Nat)
def JeW:Prop:=
 decide (Int.ofNat k < Int.ofNat (List.length A)) = true
def JOw:Prop:=
 (IntKind.i64.wrap (Int.ofNat i + Int.ofNat k)).toNat < List.length (Xk (dg A i) A O i k).fst
def Jcr:List Int:=
 List.getD (Xk (dg A i) A O i k).fst (IntKind.i64.wrap (Int.ofNat i + Int.ofNat k)).toNat []
def Jds:Int:=
 IntKind.u64.wrap (IntKind.u64.wrap ((Jcr A O i k).getD 0 0 + IntKind.u64.wrap ((List.getD A (Int.ofNat i).toNat []).getD 0 0 * (List.getD A (Int.ofNat k).toNat []).getD 0 0)) + (Xk (dg A i) A O i k).snd)
end
def JRk (A:Dg) (O:Dg) (i k:Nat):List Prop :=
 [JeW A k → 0 ≤ IntKind.i64.wrap (Int.ofNat i + Int.ofNat k) ∧ JOw A O i k ∧ JOw A O i k ∧ 0 ≤ Int.ofNat i ∧ (Int.ofNat i).toNat < List.length A ∧ (Int.ofNat i).toNat < List.length A ∧ 0 ≤ Int.ofNat k ∧ (Int.ofNat k).toNat < List.length A ∧ (Int.ofNat k).toNat < List.length A ∧ 0 ≤ IntKind.i64.wrap (Int.ofNat i + Int.ofNat k) ∧ JOw A O i k ∧ JOw A O i k,JeW A k → ((JPU A O i).next k 0 ≤ List.length A ∧ i < List.length A ∧ (∀ (i:Nat),0 ≤ dg A i ∧ dg A i < 65536) ∧ (∀ (i:Nat),0 ≤ dg O i ∧ dg O i < 65536) ∧ List.length O = List.length A + List.length A ∧ List.length A + List.length A ≤ 1000000) ∧ (JPU A O i).μ ((JPU A O i).next k 0) < (JPU A O i).μ k ∧ (JPU A O i).fin ((JPU A O i).next k 0) = (JPU A O i).fin k ∧ Int.ofNat ((JPU A O i).next k 0) = IntKind.i64.wrap (Int.ofNat k + 1) ∧ (Xk (dg A i) A O i ((JPU A O i).next k 0)).snd = JV BinOp.shr IntKind.u64 (Jds A O i k) 16 ∧ Int.ofNat i = Int.ofNat i ∧ (Xk (dg A i) A O i ((JPU A O i).next k 0)).fst = List.set (Xk (dg A i) A O i k).fst (IntKind.i64.wrap (Int.ofNat i + Int.ofNat k)).toNat (JLH 1 0 0 [Ze BinOp.and IntKind.u64 (Jds A O i k) 65535] (Jcr A O i k)),decide (Int.ofNat k < Int.ofNat (List.length A)) = false → (Xk (dg A i) A O i (List.length A)).snd = (Xk (dg A i) A O i k).snd ∧ Int.ofNat i = Int.ofNat i ∧ (Xk (dg A i) A O i (List.length A)).fst = (Xk (dg A i) A O i k).fst]
theorem JpG (A O:Dg) (i k:Nat) (hNeeds:∀ pN ∈ (JRk A O i k),pN):Q4 (Xh (JPU A O i) (QW Tryz.prog (JB JHI) JKk 138 1) 39 k) :=
  Q4.of (ps := (JRk A O i k)) (by kernel_rfl) (by kernel_rfl) hNeeds
theorem Jhs (A O:Dg) (i:Nat):Z1 (JPU A O i) (QW Tryz.prog (JB JHI) JKk 138 1) 39 := by
  intro k hJ
  have hJ' := hJ
  obtain ⟨h1,h2,hA,hO,h3,h4⟩:k ≤ A.length ∧ i < A.length ∧ jB A ∧ jB O ∧ O.length = A.length + A.length ∧ A.length + A.length ≤ 1000000 := hJ
  have hl:List.length (Xk (dg A i) A O i k).fst = A.length + A.length := by rw [WG,h3]
  refine JpG A O i k fun q hq => ?_
  unfold JRk at hq
  simp only [List.mem_cons,List.not_mem_nil,or_false] at hq
  have ew:IntKind.i64.wrap (Int.ofNat i + Int.ofNat k) = Int.ofNat (i + k) := by rw [Zy (by simp; omega) (by simp; omega)]; simp
  have ew2:(IntKind.i64.wrap (Int.ofNat i + Int.ofNat k)).toNat = i + k := by rw [ew]; rfl
  have es:JeW A k → k < A.length := fun h => by simpa [JeW] using h
  have e2:Jcr A O i k = (Xk (dg A i) A O i k).1.getD (i + k) [] := by unfold Jcr; rw [ew2]
  rcases hq with rfl | rfl | rfl
  · intro h
    have hk := es h
    have e1:JOw A O i k := by unfold JOw; rw [ew2,hl]; omega
    have e0:0 ≤ IntKind.i64.wrap (Int.ofNat i + Int.ofNat k) := by rw [ew]; exact Int.natCast_nonneg _
    exact ⟨e0,e1,e1,by simp,h2,h2,by simp,hk,hk,e0,e1,e1⟩
  · intro h
    have hk := es h
    obtain ⟨hr,hc⟩ := JK9 (i := i) (hA i) hA hO k (by omega)
    obtain ⟨d1,d2⟩ := hr (i + k)
    obtain ⟨p1,p2⟩ := JYg (hA i) (hA k)
    have e3:Jds A O i k = dg (Xk (dg A i) A O i k).1 (i + k) + dg A i * dg A k + (Xk (dg A i) A O i k).2 := by
      unfold Jds
      rw [e2]
      show IntKind.u64.wrap (IntKind.u64.wrap (dg (Xk (dg A i) A O i k).1 (i + k) + IntKind.u64.wrap (dg A i * dg A k)) + _) = _
      rw [Yy p1 (by omega),Yy (x := _ + dg A i * dg A k) (by omega) (by omega),Yy (by omega) (by omega)]
    have e4:0 ≤ dg (Xk (dg A i) A O i k).1 (i + k) + dg A i * dg A k + (Xk (dg A i) A O i k).2 := by omega
    refine ⟨⟨hk,h2,hA,hO,h3,h4⟩,?_,trivial,?_,?_,trivial,?_⟩
    · show A.length - (k + 1) < A.length - k; omega
    · rw [Zy (by simp; omega) (by simp; omega)]; rfl
    · rw [e3,JsV _ e4]; rfl
    · rw [e3,JqT _ e4 (by omega),ew2]; rfl
  · intro h
    have hk:k = A.length := by simp at h; omega
    subst hk
    exact ⟨rfl,trivial,rfl⟩
def JwR:QG := fun env mem m => match Jtn env mem m with
  | some x => some x
  | none => (match JLb [.int .u64] env mem 0,JLb [.int .u64] env mem 5,Wb env 6 with
    | some A,some O,some i => zD (JPU A O i.toNat) 39 (fun _ _ => some 0) env mem m
    | _,_,_ => none)
def JmS:FuncId → Nat → Option QG := JB6 JKk 138 7 JwR
theorem JVC:Known Tryz.prog (JB JHI) JmS := by
  refine Qf 1 JVD (by kernel_rfl) (Qs fun env mem m x h => ?_)
  unfold JwR at h
  have hlen:(QU Tryz.prog 138).length = 2 := by kernel_rfl
  split at h
  · rename_i h1
    cases h
    unfold Jtn at h1
    split at h1
    · exact ⟨_,XW (Qc X5 JLU (by omega)) (JZ7 _ _ _ _),h1⟩
    · cases h1
  · split at h
    · exact ⟨_,XW (Qc X5 JVD (by omega)) (Jhs _ _ _),h⟩
    · cases h
def JHl (A:Dg):Fam Nat Unit where
  k := 20
  E i := [(6,ent 1000000000 (.one (I (Int.ofNat i)))),(5,ent 1000000001 (.one (.wh 14))),(0,ent 0 (.one (.wh 0))),(1,ent 2 (.one (.wh 0)))]
  M i := [JBS 14 1000000002 (Qu A A i),JBS 0 1 A]
  out _ := .leaf (.exit 0) [(5,ent 16 (.one (.wh 14)))] [JBS 14 17 (Qu A A A.length),JBS 0 1 A]
  fin _ := ()
  next i _ := i + 1
  J i := i ≤ A.length ∧ jB A ∧ A.length + A.length ≤ 1000000
  μ i := A.length - i
section
variable (A:Dg) (i:Nat)
def Jdg:Prop:=
 decide (Int.ofNat i < Int.ofNat (List.length A)) = true
def Jrm:Prop:=
 List.length A + List.length A ≤ 1000000
def JHL:Int:=
 IntKind.i64.wrap (Int.ofNat (Int.ofNat i).toNat + Int.ofNat (List.length A))
def JR5:Prop:=
 (JHL A i).toNat < List.length (Xk (dg A (Int.ofNat i).toNat) A (Qu A A i) (Int.ofNat i).toNat (List.length A)).fst
def Jex:List Int:=
 List.getD (Xk (dg A (Int.ofNat i).toNat) A (Qu A A i) (Int.ofNat i).toNat (List.length A)).fst (JHL A i).toNat []
end
def JS4 (A:Dg) (i:Nat):List Prop :=
 [Jdg A i → (0 ≤ List.length A ∧ (Int.ofNat i).toNat < List.length A ∧ (∀ (i:Nat),0 ≤ dg A i ∧ dg A i < 65536) ∧ (∀ (i_1:Nat),0 ≤ dg (Qu A A i) i_1 ∧ dg (Qu A A i) i_1 < 65536) ∧ List.length (Qu A A i) = List.length A + List.length A ∧ Jrm A) ∧ Int.ofNat 0 = 0 ∧ (Xk (dg A (Int.ofNat i).toNat) A (Qu A A i) (Int.ofNat i).toNat 0).snd = 0 ∧ Int.ofNat (Int.ofNat i).toNat = Int.ofNat i ∧ (Xk (dg A (Int.ofNat i).toNat) A (Qu A A i) (Int.ofNat i).toNat 0).fst = Qu A A i ∧ 0 ≤ JHL A i ∧ JR5 A i ∧ JR5 A i ∧ 0 ≤ JHL A i ∧ JR5 A i ∧ JR5 A i,Jdg A i → ((JHl A).next i 0 ≤ List.length A ∧ (∀ (i:Nat),0 ≤ dg A i ∧ dg A i < 65536) ∧ Jrm A) ∧ (JHl A).μ ((JHl A).next i 0) < (JHl A).μ i ∧ (JHl A).fin ((JHl A).next i 0) = (JHl A).fin i ∧ Int.ofNat ((JHl A).next i 0) = IntKind.i64.wrap (Int.ofNat (Int.ofNat i).toNat + 1) ∧ Qu A A ((JHl A).next i 0) = List.set (Xk (dg A (Int.ofNat i).toNat) A (Qu A A i) (Int.ofNat i).toNat (List.length A)).fst (JHL A i).toNat (JLH 1 0 0 [IntKind.u64.wrap ((Jex A i).getD 0 0 + (Xk (dg A (Int.ofNat i).toNat) A (Qu A A i) (Int.ofNat i).toNat (List.length A)).snd)] (Jex A i)),decide (Int.ofNat i < Int.ofNat (List.length A)) = false → Qu A A (List.length A) = Qu A A i]
theorem JnR (A:Dg) (i:Nat) (hNeeds:∀ pN ∈ (JS4 A i),pN):Q4 (Xh (JHl A) (QW Tryz.prog (JB JHI) JmS 138 0) 13 i) :=
  Q4.of (ps := (JS4 A i)) (by kernel_rfl) (by kernel_rfl) hNeeds
theorem JkF (A:Dg):Z1 (JHl A) (QW Tryz.prog (JB JHI) JmS 138 0) 13 := by
  intro i hJ
  obtain ⟨h1,hA,h4⟩:i ≤ A.length ∧ jB A ∧ A.length + A.length ≤ 1000000 := hJ
  have e0:(Int.ofNat i).toNat = i := rfl
  have e1:JHL A i = Int.ofNat (i + A.length) := by unfold JHL; rw [e0,Zy (by simp; omega) (by simp; omega)]; simp
  have e2:(JHL A i).toNat = i + A.length := by rw [e1]; rfl
  have hl := XP A A i
  have hn:List.length (Xk (dg A i) A (Qu A A i) i A.length).fst = A.length + A.length := by rw [WG,hl]
  have es:Jdg A i → i < A.length := fun h => by simpa [Jdg] using h
  have e3:Jex A i = (Xk (dg A i) A (Qu A A i) i A.length).1.getD (i + A.length) [] := by unfold Jex; rw [e2,e0]
  refine JnR A i fun q hq => ?_
  unfold JS4 at hq
  simp only [List.mem_cons,List.not_mem_nil,or_false,e0] at hq
  rcases hq with rfl | rfl | rfl
  · intro h
    have hi := es h
    have e4:JR5 A i := by unfold JR5; rw [e2,e0,hn]; omega
    have e5:0 ≤ JHL A i := by rw [e1]; exact Int.natCast_nonneg _
    exact ⟨⟨Nat.zero_le _,hi,hA,JD3 hA hA i (by omega),hl,h4⟩,rfl,rfl,trivial,rfl,e5,e4,e4,e5,e4,e4⟩
  · intro h
    have hi := es h
    obtain ⟨hr,c1,c2⟩ := JK9 (i := i) (hA i) hA (JD3 hA hA i (by omega)) A.length (by omega)
    obtain ⟨d1,d2⟩ := hr (i + A.length)
    refine ⟨⟨hi,hA,h4⟩,?_,trivial,?_,?_⟩
    · show A.length - (i + 1) < A.length - i; omega
    · rw [Zy (by simp; omega) (by simp; omega)]; rfl
    · rw [e2,e3]
      have:IntKind.u64.wrap (dg (Xk (dg A i) A (Qu A A i) i A.length).1 (i + A.length) + (Xk (dg A i) A (Qu A A i) i A.length).2) = dg (Xk (dg A i) A (Qu A A i) i A.length).1 (i + A.length) + (Xk (dg A i) A (Qu A A i) i A.length).2 := Yy (by omega) (by omega)
      show _ = List.set _ _ [IntKind.u64.wrap (dg (Xk (dg A i) A (Qu A A i) i A.length).1 (i + A.length) + (Xk (dg A i) A (Qu A A i) i A.length).2)]
      rw [this]; rfl
  · intro h
    have:i = A.length := by simp at h; omega
    rw [this]
def JwP:QG := fun env mem m => match Jlg env mem m with
  | some x => some x
  | none => (match JLb [.int .u64] env mem 0 with
    | some A => zD (JHl A) 13 (fun _ _ => some 0) env mem m
    | _ => none)
def Jc5:FuncId → Nat → Option QG := JB6 JmS 138 3 JwP
theorem JWE:Known Tryz.prog (JB JHI) Jc5 := by
  refine Qf 0 JVC (by kernel_rfl) (Qs fun env mem m x h => ?_)
  unfold JwP at h
  have hlen:(QU Tryz.prog 138).length = 2 := by kernel_rfl
  split at h
  · rename_i h1
    cases h
    unfold Jlg at h1
    split at h1
    · exact ⟨_,XW (Qc X5 JM4 (by omega)) (JXF _ _),h1⟩
    · cases h1
  · split at h
    · exact ⟨_,XW (Qc X5 JVC (by omega)) (JkF _),h⟩
    · cases h
def JJW:Tpl := ⟨[.one (.wh 0),.one (.wh 0)],[(0,.row false 140 1 1 [.int .u64])],2⟩
def QI (A:LL):Dg :=
 JF6 (Qu A A A.length)
def JHG (A:LL):Int :=
 IntKind.i64.wrap (Int.ofNat A.length + Int.ofNat A.length)
def JGa (A:LL):List Prop :=
 [0 ≤ JHG A,((JHG A).toNat + 0) * 8 ≤ 140737488355328,(JHG A).toNat + 0 ≤ 9223372036854775807,0 ≤ A.length ∧ (∀ (i:Nat),0 ≤ dg A i ∧ dg A i < 65536) ∧ A.length + A.length ≤ 1000000,Int.ofNat 0 = 0,Qu A A 0 = List.replicate (JHG A).toNat [0],List.length (Qu A A A.length) ≤ 1000000]
theorem Jnl {A:LL} (hW:∀ q ∈ ([jB A,A.length + A.length ≤ 1000000]:List Prop),q):∀ q ∈ (JGa A),q := by
  simp only [awc,awn,and_true] at hW
  intro q hq
  unfold JGa at hq
  simp only [List.mem_cons,List.not_mem_nil,or_false] at hq
  obtain ⟨hA,h⟩ := hW
  have e:JHG A = Int.ofNat (A.length + A.length) := by unfold JHG; rw [Zy (by simp; omega) (by simp; omega)]; simp
  have e2:(JHG A).toNat = A.length + A.length := by rw [e]; rfl
  rcases hq with rfl | rfl | rfl | rfl | rfl | rfl | rfl
  · rw [e]; exact Int.natCast_nonneg _
  · rw [e2]; omega
  · rw [e2]; omega
  · exact ⟨Nat.zero_le _,hA,h⟩
  · rfl
  · rw [e2]; rfl
  · rw [XP]; exact h
theorem JoV (A:LL) (hNeeds:∀ pN ∈ (JGa A),pN):Runs (Jr (JB JHI) Jc5 138) (JJW.args []) (JJW.memo [] [A]) JJW.n (SV.one (SC.wh 39)) ([(39,Obj.row false 140 1 (RowC.lst 42 [CK.int IntKind.u64] (QI A))),(0,Obj.row false 140 1 (RowC.lst 1 [CK.int IntKind.u64] A))]) :=
  Runs.of1 (ps := (JGa A)) (by kernel_rfl) hNeeds
def JXA:List Pm → Qm → Option CRes
  | [],[A] => some ⟨SV.one (SC.wh 39),
 [(39,Obj.row false 140 1 (RowC.lst 42 [CK.int IntKind.u64] (QI A))),(0,Obj.row false 140 1 (RowC.lst 1 [CK.int IntKind.u64] A))],[jB A,A.length + A.length ≤ 1000000],[],61⟩
  | _,_ => none
theorem Jtd:Qg Tryz.prog 138 (JS JJW JXA) := by
  refine JH (JD JWE 138) fun ps ls r hr hn _ => ?_
  unfold JXA at hr
  split at hr
  · cases hr; exact ⟨_,JoV _ (Jnl (by exact hn)),fun _ => rfl⟩
  · cases hr
def JQJ:List (Nat × JY) := (138,orS (JS JJW JXA) (JS JFe JNK)) :: JHI
theorem JaA:Known Tryz.prog (JB JQJ) Jc5 := J7 JWE (JLS Jtd Jmg)
def rtF (X:Dg):Fam Nat Unit where
  k := 20
  E j := [(6,ent 1000000000 (.one (I (62 - Int.ofNat j)))),(5,ent 1000000001 (.one (U (fr 63 (val X) j)))),(0,ent 0 (.one (.wh 0)))]
  M j := [JBS 0 1 X]
  out _ := .leaf (.exit 0) [(5,ent 7 (.one (U (fr 63 (val X) 63)))),(0,ent 0 (.one (.wh 0)))] [JBS 0 1 X]
  fin _ := ()
  next j _ := j + 1
  J j := j ≤ 63 ∧ jB X ∧ JGd X ∧ X.length ≤ 1000000 ∧ val X < 85070591730234615865843651857942052864
  μ j := 63 - j
section
variable (X:Dg) (j:Nat)
def JsR:Prop:=
 decide (62 - Int.ofNat j ≥ 0) = true
def Jmh:Prop:=
 0 ≤ IntKind.u64.wrap (62 - Int.ofNat j)
def JFl:Int:=
 Ze BinOp.or IntKind.u64 (fr 63 (val X) j) (JV BinOp.shl IntKind.u64 1 (IntKind.u64.wrap (62 - Int.ofNat j)))
def Jqc:Bool:=
 decide (JGD (QI (JA (JFl X j))) X ≤ 0)
end
def JYB (X:Dg) (j:Nat):List Prop :=
 [JsR j → Jmh j ∧ 0 ≤ JFl X j ∧ JFl X j < 18446744073709551616 ∧ (∀ (i:Nat),0 ≤ dg (JA (JFl X j)) i ∧ dg (JA (JFl X j)) i < 65536) ∧ List.length (JA (JFl X j)) + List.length (JA (JFl X j)) ≤ 1000000 ∧ List.length (QI (JA (JFl X j))) ≤ 1000000 ∧ (Jqc X j = true → Jmh j),JsR j → ((rtF X).next j 0 ≤ 63 ∧ (∀ (i:Nat),0 ≤ dg X i ∧ dg X i < 65536) ∧ (List.length X ≠ 0 → dg X (List.length X - 1) ≠ 0) ∧ List.length X ≤ 1000000 ∧ val X < 85070591730234615865843651857942052864) ∧ (rtF X).μ ((rtF X).next j 0) < (rtF X).μ j ∧ (rtF X).fin ((rtF X).next j 0) = (rtF X).fin j ∧ 62 - Int.ofNat ((rtF X).next j 0) = IntKind.i64.wrap (62 - Int.ofNat j - 1) ∧ fr 63 (val X) ((rtF X).next j 0) = bif Jqc X j then JFl X j else fr 63 (val X) j,decide (62 - Int.ofNat j ≥ 0) = false → fr 63 (val X) 63 = fr 63 (val X) j]
theorem JpX (X:Dg) (j:Nat) (hNeeds:∀ pN ∈ (JYB X j),pN):Q4 (Xh (rtF X) (QW Tryz.prog (JB JQJ) Jc5 174 0) 7 j) :=
  Q4.of (ps := (JYB X j)) (by kernel_rfl) (by kernel_rfl) hNeeds
theorem sqD {n:Int} (h:0 ≤ n ∧ n < 18446744073709551616) {X:Dg} (hX:jB X) (nX:JGd X):JGD (QI (JA n)) X = K6 (n * n) (val X) ∧ jB (JA n) ∧ (JA n).length ≤ 4 ∧ (QI (JA n)).length ≤ 8 := by
  obtain ⟨x1,x2,x3⟩ := JCz h h
  have h0 := JOH x1 hX x2 nX
  rw [x3] at h0
  have hl:(JA n).length ≤ 4 := by rw [JA,KI]; exact (Kw h.1 h.2 (j := 0) (by omega)).2
  refine ⟨h0,Kh _ _,hl,?_⟩
  show (JF6 _).length ≤ 8
  rw [JIB]
  have := JK5 (Qu (JA n) (JA n) (JA n).length) (Qu (JA n) (JA n) (JA n).length).length
  rw [XP] at this
  rw [XP]
  omega
theorem Joz (X:Dg):Z1 (rtF X) (QW Tryz.prog (JB JQJ) Jc5 174 0) 7 := by
  intro j hJ
  obtain ⟨h1,hX,nX,h3,h4⟩:j ≤ 63 ∧ jB X ∧ JGd X ∧ X.length ≤ 1000000 ∧ val X < 85070591730234615865843651857942052864 := hJ
  have v0 := (JO1 hX).1
  have v1:val X < 2 ^ 63 * 2 ^ 63 := h4
  have es:JsR j → j < 63 := fun h => by
    have h:decide (62 - Int.ofNat j ≥ 0) = true := h
    rw [decide_eq_true_eq] at h
    have:(0:Int) ≤ 62 - (j:Int) := h
    omega
  have ew:j < 63 → IntKind.u64.wrap (62 - Int.ofNat j) = ((63 - 1 - j:Nat):Int) := fun h => by
    have e:Int.ofNat j = (j:Int) := rfl
    rw [e,Yy (by omega) (by omega)]
    omega
  have e2:j < 63 → JFl X j = fr 63 (val X) j + 2 ^ (63 - 1 - j) ∧ 0 ≤ JFl X j ∧ JFl X j < 18446744073709551616 := fun h => by
    have := Jr2 v0 v1 h (by omega)
    unfold JFl
    rw [ew h,this.1]
    exact ⟨rfl,this.2⟩
  refine JpX X j fun q hq => ?_
  unfold JYB at hq
  simp only [List.mem_cons,List.not_mem_nil,or_false] at hq
  rcases hq with rfl | rfl | rfl
  · intro h
    have hj := es h
    obtain ⟨e3,b1,b2⟩ := e2 hj
    obtain ⟨_,d2,d3,d4⟩ := sqD ⟨b1,b2⟩ hX nX
    have e1:Jmh j := by unfold Jmh; rw [ew hj]; exact Int.natCast_nonneg _
    exact ⟨e1,b1,b2,d2,by omega,by omega,fun _ => e1⟩
  · intro h
    have hj := es h
    obtain ⟨e3,b1,b2⟩ := e2 hj
    obtain ⟨d1,_,_,_⟩ := sqD ⟨b1,b2⟩ hX nX
    refine ⟨⟨hj,hX,nX,h3,h4⟩,?_,trivial,?_,?_⟩
    · show 63 - (j + 1) < 63 - j; omega
    · have e:Int.ofNat j = (j:Int) := rfl
      have e':Int.ofNat (j + 1) = (j:Int) + 1 := rfl
      show 62 - Int.ofNat (j + 1) = _
      rw [e,e',Zy (by omega) (by omega)]
      omega
    · show fr 63 (val X) (j + 1) = _
      unfold Jqc
      rw [d1,JcK,e3]
      rfl
  · intro h
    have h:decide (62 - Int.ofNat j ≥ 0) = false := h
    rw [decide_eq_false_iff_not] at h
    have h:¬ (62 - (j:Int) ≥ 0) := h
    have:j = 63 := by omega
    rw [this]
def rtL:QG := fun env mem m => match JLb [.int .u64] env mem 0 with
  | some X => zD (rtF X) 7 (fun _ _ => some 0) env mem m
  | none => none
def JTq:FuncId → Nat → Option QG := JB6 Jc5 174 3 rtL
theorem Jbc:Known Tryz.prog (JB JQJ) JTq := by
  refine Qf 0 JaA (by kernel_rfl) (Qs fun env mem m x h => ?_)
  unfold rtL at h
  have hlen:(QU Tryz.prog 174).length = 1 := by kernel_rfl
  split at h
  · exact ⟨_,XW (Qc X5 JaA (by omega)) (Joz _),h⟩
  · cases h
def JFT:Tpl := ⟨[.one (.wh 0)],[(0,.row false 140 1 1 [.int .u64])],2⟩
section
variable (X:LL)
def JKA:Bool:=
 JGD (Ja (JA (fr 63 (val X) 63)) (JA (fr 63 (val X) 63))) X == 0
def JfU:Int:=
 JGD X (Ja (JA (fr 63 (val X) 63)) (JA (IntKind.u64.wrap (fr 63 (val X) 63 + 1))))
def JKC:Int:=
 bif decide (JfU X > 0) then 1 else -1
def JCd:Int:=
 IntKind.u64.wrap (fr 63 (val X) 63 + 1)
end
def JDC (X:LL):List Prop :=
 [0 ≤ 63 ∧ (∀ (i:Nat),0 ≤ dg X i ∧ dg X i < 65536) ∧ (X.length ≠ 0 → dg X (X.length - 1) ≠ 0) ∧ X.length ≤ 1000000 ∧ val X < 85070591730234615865843651857942052864,Int.ofNat 62 = 62,fr 63 (val X) 0 = 0,0 ≤ fr 63 (val X) 63,fr 63 (val X) 63 < 18446744073709551616,0 ≤ JCd X,JCd X < 18446744073709551616,∀ (i:Nat),0 ≤ dg (JA (fr 63 (val X) 63)) i ∧ dg (JA (fr 63 (val X) 63)) i < 65536,∀ (i:Nat),0 ≤ dg (JA (JCd X)) i ∧ dg (JA (JCd X)) i < 65536,List.length (JA (fr 63 (val X) 63)) + List.length (JA (JCd X)) ≤ 1000000,X.length ≤ 1000000,0 ≤ fr 63 (val X) 63,fr 63 (val X) 63 < 18446744073709551616,0 ≤ fr 63 (val X) 63,fr 63 (val X) 63 < 18446744073709551616,∀ (i:Nat),0 ≤ dg (JA (fr 63 (val X) 63)) i ∧ dg (JA (fr 63 (val X) 63)) i < 65536,∀ (i:Nat),0 ≤ dg (JA (fr 63 (val X) 63)) i ∧ dg (JA (fr 63 (val X) 63)) i < 65536,List.length (JA (fr 63 (val X) 63)) + List.length (JA (fr 63 (val X) 63)) ≤ 1000000,List.length (Ja (JA (fr 63 (val X) 63)) (JA (fr 63 (val X) 63))) ≤ 1000000]
theorem Jio {X:LL} (hW:∀ q ∈ ([jB X,JGd X,X.length ≤ 1000000,val X < 85070591730234615865843651857942052864]:List Prop),q):∀ q ∈ (JDC X),q := by
  simp only [awc,awn,and_true] at hW
  unfold JDC
  simp only [awc,awn,and_true]
  obtain ⟨hX,nX,h3,h4⟩ := hW
  have v0 := (JO1 hX).1
  have v1:val X < 2 ^ 63 * 2 ^ 63 := h4
  obtain ⟨r0,r1⟩ := JsN v0 v1 (j := 63) (by omega)
  have e63:(2:Int) ^ 63 = 9223372036854775808 := rfl
  rw [e63] at r1
  have e1:JCd X = fr 63 (val X) 63 + 1 := Yy (by omega) (by omega)
  have l0:∀ n:Int,0 ≤ n → n < 18446744073709551616 → (JA n).length ≤ 4 := fun n a b => by rw [JA,KI]; exact (Kw a b (j := 0) (by omega)).2
  have l1 := l0 (fr 63 (val X) 63) r0 (by omega)
  have l2 := l0 (JCd X) (by omega) (by omega)
  have l3:(Ja (JA (fr 63 (val X) 63)) (JA (fr 63 (val X) 63))).length ≤ 8 := (sqD ⟨r0,by omega⟩ hX nX).2.2.2
  exact ⟨⟨by omega,hX,nX,h3,h4⟩,rfl,rfl,r0,by omega,by omega,by omega,Kh _ _,Kh _ _,by omega,h3,r0,by omega,r0,by omega,Kh _ _,Kh _ _,by omega,by omega⟩
theorem Jk0 (X:LL) (hNeeds:∀ pN ∈ (JDC X),pN):Runs (Jr (JB JQJ) JTq 174) (JFT.args []) (JFT.memo [] [X]) JFT.n (SV.tup [(false,[SC.int IntKind.u64 (SI.v (fr 63 (val X) 63))]),(false,[Cb (JKA X)]),(false,[Ci (JKC X)])]) ([(0,Obj.row false 140 1 (RowC.lst 1 [CK.int IntKind.u64] X))]) :=
  Runs.of1 (ps := (JDC X)) (by kernel_rfl) hNeeds
def JPz:List Pm → Qm → Option CRes
  | [],[X] => some ⟨SV.tup [(false,[SC.int IntKind.u64 (SI.v (fr 63 (val X) 63))]),(false,[Cb (JKA X)]),(false,[Ci (JKC X)])],
 [(0,Obj.row false 140 1 (RowC.lst 1 [CK.int IntKind.u64] X))],[jB X,JGd X,X.length ≤ 1000000,val X < 85070591730234615865843651857942052864],[],360⟩
  | _,_ => none
theorem Jrt:Qg Tryz.prog 174 (JS JFT JPz) := by
  refine JH (JD Jbc 174) fun ps ls r hr hn _ => ?_
  unfold JPz at hr
  split at hr
  · cases hr; exact ⟨_,Jk0 _ (Jio (by exact hn)),fun _ => rfl⟩
  · cases hr
def JdW:List (Nat × JY) := (174,JS JFT JPz) :: JQJ
theorem JTN:Known Tryz.prog (JB JdW) JTq := J7 Jbc Jrt
def j7:Tpl := ⟨[.one (.bool),.one (.int .u64),.one (.bool),.one (.int .i64),.one (.int .i64)],[],0⟩
section
variable (neg:Bool) (q:Int) (exact:Bool) (half mode:Int)
def XX:Int:=
 bif bif mode == 0 then neg && !exact else bif mode == 1 then !neg && !exact else neg && decide (half > 0) || !neg && decide (half ≥ 0) then IntKind.u64.wrap (q + 1) else q
def jH:Int:=
 bif decide (q > 9223372036854775808) then 0 else bif neg then bif decide (XX neg q exact half mode > 9223372036854775808) then 0 else bif XX neg q exact half mode == 0 then 0 else IntKind.i64.wrap (IntKind.i64.wrap (0 - IntKind.i64.wrap (IntKind.u64.wrap (XX neg q exact half mode - 1))) - 1) else bif decide (XX neg q exact half mode > 9223372036854775807) then 0 else IntKind.i64.wrap (XX neg q exact half mode)
def jT:Bool:=
 bif decide (q > 9223372036854775808) then false else bif neg then !decide (XX neg q exact half mode > 9223372036854775808) else !decide (XX neg q exact half mode > 9223372036854775807)
end
theorem Jaj (neg:Bool) (q:Int) (exact:Bool) (half mode:Int):Runs (Jr (JB JdW) JTq 166) (j7.args [.b neg,.i q,.b exact,.i half,.i mode]) (j7.memo [.b neg,.i q,.b exact,.i half,.i mode] []) j7.n (SV.tup [(false,[Ci (jH neg q exact half mode)]),(false,[Cb (jT neg q exact half mode)])]) ([]) :=
  Runs.of1 (ps := []) (by kernel_rfl) (by simp)
def JGS:List Pm → Qm → Option CRes
  | [.b neg,.i q,.b exact,.i half,.i mode],[] => some ⟨SV.tup [(false,[Ci (jH neg q exact half mode)]),(false,[Cb (jT neg q exact half mode)])],
 [],[],[],74⟩
  | _,_ => none
theorem Jhj:Qg Tryz.prog 166 (JS j7 JGS) := by
  refine JH (JD JTN 166) fun ps ls r hr hn _ => ?_
  unfold JGS at hr
  split at hr
  · cases hr; exact ⟨_,Jaj _ _ _ _ _,fun _ => rfl⟩
  · cases hr
def JLf:List (Nat × JY) := (166,JS j7 JGS) :: JdW
theorem JJ1:Known Tryz.prog (JB JLf) JTq := J7 JTN Jhj
def JFa:Tpl := ⟨[.one (.int .i64),.one (.int .i64),.one (.int .i64)],[],0⟩
def qH (a b mode:Int):Int :=
 bif decide (a < 0) || decide (b < 0) || !(mode == 0 || mode == 1 || mode == 2) then 0 else jH false (fr 63 (val (Ja (JA (J6 a)) (JA (J6 b)))) 63) (JKA (Ja (JA (J6 a)) (JA (J6 b)))) (JKC (Ja (JA (J6 a)) (JA (J6 b)))) mode
def JGY (a b mode:Int):Bool :=
 bif decide (a < 0) || decide (b < 0) || !(mode == 0 || mode == 1 || mode == 2) then false else jT false (fr 63 (val (Ja (JA (J6 a)) (JA (J6 b)))) 63) (JKA (Ja (JA (J6 a)) (JA (J6 b)))) (JKC (Ja (JA (J6 a)) (JA (J6 b)))) mode
def JDJ (a b mode:Int):List Prop :=
 [(decide (a < 0) || decide (b < 0) || !(mode == 0 || mode == 1 || mode == 2)) = false → (-9223372036854775808 ≤ a ∧ a < 9223372036854775808) ∧ (-9223372036854775808 ≤ b ∧ b < 9223372036854775808) ∧ (∀ (i:Nat),0 ≤ dg (Ja (JA (J6 a)) (JA (J6 b))) i ∧ dg (Ja (JA (J6 a)) (JA (J6 b))) i < 65536) ∧ (List.length (Ja (JA (J6 a)) (JA (J6 b))) ≠ 0 → dg (Ja (JA (J6 a)) (JA (J6 b))) (List.length (Ja (JA (J6 a)) (JA (J6 b))) - 1) ≠ 0) ∧ List.length (Ja (JA (J6 a)) (JA (J6 b))) ≤ 1000000 ∧ val (Ja (JA (J6 a)) (JA (J6 b))) < 85070591730234615865843651857942052864]
theorem Jkv {a:Int} {b:Int} {mode:Int} (hW:∀ q ∈ ([XT a,XT b]:List Prop),q):∀ q ∈ (JDJ a b mode),q := by
  simp only [awc,awn,and_true] at hW
  unfold JDJ
  simp only [awc,awn,and_true]
  obtain ⟨ha,hb⟩ := hW
  intro h
  simp only [Bool.or_eq_false_iff,decide_eq_false_iff_not] at h
  obtain ⟨⟨a0,b0⟩,_⟩ := h
  have a1 := Qn ha
  have b1 := Qn hb
  obtain ⟨x1,x2,x3⟩ := JCz a1 b1
  have la:(JA (J6 a)).length ≤ 4 := by rw [JA,KI]; exact (Kw a1.1 a1.2 (j := 0) (by omega)).2
  have lb:(JA (J6 b)).length ≤ 4 := by rw [JA,KI]; exact (Kw b1.1 b1.2 (j := 0) (by omega)).2
  refine ⟨ha,hb,x1,x2,?_,?_⟩
  · show (JF6 _).length ≤ _
    rw [JIB]
    have := JK5 (Qu (JA (J6 a)) (JA (J6 b)) (JA (J6 a)).length) (Qu (JA (J6 a)) (JA (J6 b)) (JA (J6 a)).length).length
    rw [XP] at this
    rw [XP]
    omega
  · have e:val (Ja (JA (J6 a)) (JA (J6 b))) = a * b := by
      show val (JZ1 _ _) = _
      rw [x3,Xl a ha,Xl b hb,if_neg a0,if_neg b0]
    rw [e]
    obtain ⟨_,h2⟩ := Ke 9223372036854775807 9223372036854775807 (x := a) (y := b) ⟨by omega,by omega⟩ ⟨by omega,by omega⟩ (by omega)
    omega
theorem Jjt (a b mode:Int) (hNeeds:∀ pN ∈ (JDJ a b mode),pN):Runs (Jr (JB JLf) JTq 168) (JFa.args [.i a,.i b,.i mode]) (JFa.memo [.i a,.i b,.i mode] []) JFa.n (SV.tup [(false,[Ci (qH a b mode)]),(false,[Cb (JGY a b mode)])]) ([]) :=
  Runs.of1 (ps := (JDJ a b mode)) (by kernel_rfl) hNeeds
def JRF:List Pm → Qm → Option CRes
  | [.i a,.i b,.i mode],[] => some ⟨SV.tup [(false,[Ci (qH a b mode)]),(false,[Cb (JGY a b mode)])],
 [],[XT a,XT b],[],625⟩
  | _,_ => none
theorem Jpi:Qg Tryz.prog 168 (JS JFa JRF) := by
  refine JH (JD JJ1 168) fun ps ls r hr hn _ => ?_
  unfold JRF at hr
  split at hr
  · cases hr; exact ⟨_,Jjt _ _ _ (Jkv (by exact hn)),fun _ => rfl⟩
  · cases hr
def JfF:List (Nat × JY) := (168,JS JFa JRF) :: JLf
theorem JTJ:Known Tryz.prog (JB JfF) JTq := J7 JJ1 Jpi
def JFf:Tpl := ⟨[.one (.int .i64),.one (.int .i64)],[],0⟩
def JDU (a:Int):List Prop :=
 [-9223372036854775808 ≤ a ∧ a < 9223372036854775808,-9223372036854775808 ≤ 1 ∧ Int.ofNat 1 < 9223372036854775808]
theorem Jig {a:Int} (hW:∀ q ∈ ([XT a]:List Prop),q):∀ q ∈ (JDU a),q := by
  simp only [awc,awn,and_true] at hW
  unfold JDU
  simp only [awc,awn,and_true]
  exact ⟨hW,by decide⟩
theorem JkC (a mode:Int) (hNeeds:∀ pN ∈ (JDU a),pN):Runs (Jr (JB JfF) JTq 146) (JFf.args [.i a,.i mode]) (JFf.memo [.i a,.i mode] []) JFf.n (SV.tup [(false,[Ci (qH a 1 mode)]),(false,[Cb (JGY a 1 mode)])]) ([]) :=
  Runs.of1 (ps := (JDU a)) (by kernel_rfl) hNeeds
def JR1:List Pm → Qm → Option CRes
  | [.i a,.i mode],[] => some ⟨SV.tup [(false,[Ci (qH a 1 mode)]),(false,[Cb (JGY a 1 mode)])],
 [],[XT a],[],634⟩
  | _,_ => none
theorem Jse:Qg Tryz.prog 146 (JS JFf JR1) := by
  refine JH (JD JTJ 146) fun ps ls r hr hn _ => ?_
  unfold JR1 at hr
  split at hr
  · cases hr; exact ⟨_,JkC _ _ (Jig (by exact hn)),fun _ => rfl⟩
  · cases hr
def JKa:List (Nat × JY) := (146,JS JFf JR1) :: JfF
theorem JTE:Known Tryz.prog (JB JKa) JTq := J7 JTJ Jse
def ovF (a b m:Int) (X D:Dg):Fam Nat Unit where
  k := 20
  E j := [(14,ent 1000000000 (.one (I (62 - Int.ofNat j)))),(13,ent 1000000001 (.one (U (fr 63 (val X / val D) j)))),(12,ent 301 (.one (.wh 280))),(11,ent 273 (.one (.wh 250))),(0,ent 0 (.one (I a))),(1,ent 2 (.one (I b))),(3,ent 6 (.one (I m)))]
  M j := [JBS 280 283 D,JBS 250 253 X]
  out _ := .leaf (.exit 0) [(13,ent 305 (.one (U (fr 63 (val X / val D) 63)))),(12,ent 301 (.one (.wh 280))),(11,ent 273 (.one (.wh 250))),(0,ent 0 (.one (I a))),(1,ent 2 (.one (I b))),(3,ent 6 (.one (I m)))] [JBS 280 283 D,JBS 250 253 X]
  fin _ := ()
  next j _ := j + 1
  J j := j ≤ 63 ∧ jB X ∧ JGd X ∧ jB D ∧ JGd D ∧ X.length ≤ 100 ∧ D.length ≤ 100 ∧ 0 < val D ∧ val X < 85070591730234615865843651857942052864
  μ j := 63 - j
theorem W1 {A B:Dg} (hA:jB A) (hB:jB B):jB (Ja A B) ∧ JGd (Ja A B) ∧ val (Ja A B) = val A * val B ∧ (Ja A B).length ≤ A.length + B.length := by
  refine ⟨Jh7 (JD3 hA hB _ (Nat.le_refl _)),Jb2 _,?_,?_⟩
  · show val (JF6 _) = _
    rw [JgS,JXj _ (Nat.le_refl _),JDF]
  · show (JF6 _).length ≤ _
    rw [JIB]
    have := JK5 (Qu A B A.length) (Qu A B A.length).length
    rw [XP] at this
    rw [XP]
    omega
theorem JFm {n:Int} (h:0 ≤ n ∧ n < 18446744073709551616):jB (JA n) ∧ (JA n).length ≤ 4 ∧ jB (QI (JA n)) ∧ JGd (QI (JA n)) ∧ val (QI (JA n)) = n * n ∧ (QI (JA n)).length ≤ 8 := by
  have hl:(JA n).length ≤ 4 := by rw [JA,KI]; exact (Kw h.1 h.2 (j := 0) (by omega)).2
  obtain ⟨x1,x2,x3,x4⟩ := W1 (Kh n (nd n)) (Kh n (nd n))
  have e:val (j4 n (nd n)) = n := JKZ h.1 h.2
  rw [e] at x3
  exact ⟨Kh _ _,hl,x1,x2,x3,by have:(j4 n (nd n)).length ≤ 4 := hl; exact Nat.le_trans x4 (by omega)⟩
theorem JGI {n:Int} (h:0 ≤ n ∧ n < 18446744073709551616):jB (JA n) ∧ JGd (JA n) ∧ val (JA n) = n ∧ (JA n).length ≤ 4 := by
  obtain ⟨_,h2,_⟩ := JFm h
  refine ⟨Kh _ _,fun hl => ?_,JKZ h.1 h.2,h2⟩
  have hlen:(JA n).length = nd n := by rw [JA,KI]
  rw [hlen] at hl ⊢
  have h3 := (Kw h.1 h.2 (j := nd n - 1) (by omega)).1.2 (by omega)
  show dg (j4 n (nd n)) (nd n - 1) ≠ 0
  rw [JdC,if_pos (by omega)]
  have h4:¬ 0 < n / 65536 ^ nd n := fun h5 => by have := (Kw h.1 h.2 (j := nd n) (by omega)).1.1 h5; omega
  have h6 := Jf1 n (nd n - 1)
  rw [show nd n - 1 + 1 = nd n by omega] at h6
  have h7:0 ≤ n / 65536 ^ (nd n - 1) := by omega
  omega
section
variable (X D:Dg) (j:Nat)
def JtC:Prop:=
 decide (62 - Int.ofNat j ≥ 0) = true
def Jlv:Prop:=
 0 ≤ IntKind.u64.wrap (62 - Int.ofNat j)
def JmR:Int:=
 fr 63 (val X / val D) j
def JAl:Int:=
 Ze BinOp.or IntKind.u64 (JmR X D j) (JV BinOp.shl IntKind.u64 1 (IntKind.u64.wrap (62 - Int.ofNat j)))
def Jsj:Bool:=
 decide (JGD (Ja (QI (JA (JAl X D j))) D) X ≤ 0)
end
def JX2 (a b m:Int) (X:Dg) (D:Dg) (j:Nat):List Prop :=
 [JtC j → Jlv j ∧ 0 ≤ JAl X D j ∧ JAl X D j < 18446744073709551616 ∧ (∀ (i:Nat),0 ≤ dg (JA (JAl X D j)) i ∧ dg (JA (JAl X D j)) i < 65536) ∧ List.length (JA (JAl X D j)) + List.length (JA (JAl X D j)) ≤ 1000000 ∧ (∀ (i:Nat),0 ≤ dg (QI (JA (JAl X D j))) i ∧ dg (QI (JA (JAl X D j))) i < 65536) ∧ (∀ (i:Nat),0 ≤ dg D i ∧ dg D i < 65536) ∧ List.length (QI (JA (JAl X D j))) + List.length D ≤ 1000000 ∧ List.length (Ja (QI (JA (JAl X D j))) D) ≤ 1000000 ∧ (Jsj X D j = true → Jlv j),JtC j → ((ovF a b m X D).next j 0 ≤ 63 ∧ (∀ (i:Nat),0 ≤ dg X i ∧ dg X i < 65536) ∧ (List.length X ≠ 0 → dg X (List.length X - 1) ≠ 0) ∧ (∀ (i:Nat),0 ≤ dg D i ∧ dg D i < 65536) ∧ (List.length D ≠ 0 → dg D (List.length D - 1) ≠ 0) ∧ List.length X ≤ 100 ∧ List.length D ≤ 100 ∧ 0 < val D ∧ val X < 85070591730234615865843651857942052864) ∧ (ovF a b m X D).μ ((ovF a b m X D).next j 0) < (ovF a b m X D).μ j ∧ (ovF a b m X D).fin ((ovF a b m X D).next j 0) = (ovF a b m X D).fin j ∧ 62 - Int.ofNat ((ovF a b m X D).next j 0) = IntKind.i64.wrap (62 - Int.ofNat j - 1) ∧ fr 63 (val X / val D) ((ovF a b m X D).next j 0) = bif Jsj X D j then JAl X D j else JmR X D j,decide (62 - Int.ofNat j ≥ 0) = false → fr 63 (val X / val D) 63 = JmR X D j]
theorem JsZ (a b m:Int) (X D:Dg) (j:Nat) (hNeeds:∀ pN ∈ (JX2 a b m X D j),pN):Q4 (Xh (ovF a b m X D) (QW Tryz.prog (JB JKa) JTq 143 0) 304 j) :=
  Q4.of (ps := (JX2 a b m X D j)) (by kernel_rfl) (by kernel_rfl) hNeeds
theorem Jwf {p q r:Prop} (hp:p) (hq:q) (hr:r):∀ x ∈ [p,q,r],x := by
  intro x hx
  rcases List.mem_cons.1 hx with rfl | hx
  · exact hp
  rcases List.mem_cons.1 hx with rfl | hx
  · exact hq
  rcases List.mem_cons.1 hx with rfl | hx
  · exact hr
  · cases hx
theorem JpJ (a b m:Int) (X D:Dg):Z1 (ovF a b m X D) (QW Tryz.prog (JB JKa) JTq 143 0) 304 := by
  intro j hJ
  obtain ⟨h1,hX,nX,hD,nD,lX,lD,d0,x1⟩:j ≤ 63 ∧ jB X ∧ JGd X ∧ jB D ∧ JGd D ∧ X.length ≤ 100 ∧ D.length ≤ 100 ∧ 0 < val D ∧ val X < 85070591730234615865843651857942052864 := hJ
  have x0 := (JO1 hX).1
  have v0:0 ≤ val X / val D := Int.ediv_nonneg x0 (Int.le_of_lt d0)
  have v1:val X / val D < 2 ^ 63 * 2 ^ 63 := by
    have := Int.ediv_le_self (val D) x0
    have e:(2:Int) ^ 63 * 2 ^ 63 = 85070591730234615865843651857942052864 := rfl
    omega
  have es:JtC j → j < 63 := fun h => by
    have h:decide (62 - Int.ofNat j ≥ 0) = true := h
    rw [decide_eq_true_eq] at h
    have:(0:Int) ≤ 62 - (j:Int) := h
    omega
  have ew:j < 63 → IntKind.u64.wrap (62 - Int.ofNat j) = ((63 - 1 - j:Nat):Int) := fun h => by
    have e:Int.ofNat j = (j:Int) := rfl
    rw [e,Yy (by omega) (by omega)]
    omega
  have e2:j < 63 → JAl X D j = fr 63 (val X / val D) j + 2 ^ (63 - 1 - j) ∧ 0 ≤ JAl X D j ∧ JAl X D j < 18446744073709551616 := fun h => by
    have := Jr2 v0 v1 h (by omega)
    unfold JAl JmR
    rw [ew h,this.1]
    exact ⟨rfl,this.2⟩
  refine JsZ a b m X D j ?_
  unfold JX2
  refine Jwf ?_ ?_ ?_
  · intro h
    have hj := es h
    obtain ⟨e3,b1,b2⟩ := e2 hj
    obtain ⟨q1,q2,q3,q4,q5,q6⟩ := JFm ⟨b1,b2⟩
    obtain ⟨p1,p2,p3,p4⟩ := W1 q3 hD
    have e1:Jlv j := by unfold Jlv; rw [ew hj]; exact Int.natCast_nonneg _
    exact ⟨e1,b1,b2,q1,by omega,q3,hD,by omega,by omega,fun _ => e1⟩
  · intro h
    have hj := es h
    obtain ⟨e3,b1,b2⟩ := e2 hj
    obtain ⟨q1,q2,q3,q4,q5,q6⟩ := JFm ⟨b1,b2⟩
    obtain ⟨p1,p2,p3,p4⟩ := W1 q3 hD
    refine ⟨⟨hj,hX,nX,hD,nD,lX,lD,d0,x1⟩,?_,rfl,?_,?_⟩
    · show 63 - (j + 1) < 63 - j; omega
    · have e:Int.ofNat j = (j:Int) := rfl
      have e':Int.ofNat (j + 1) = (j:Int) + 1 := rfl
      show 62 - Int.ofNat (j + 1) = _
      rw [e,e',Zy (by omega) (by omega)]
      omega
    · show fr 63 (val X / val D) (j + 1) = _
      unfold Jsj
      rw [JOH p1 hX p2 nX,p3,q5,JcK,e3]
      have hle:decide ((fr 63 (val X / val D) j + 2 ^ (63 - 1 - j)) * (fr 63 (val X / val D) j + 2 ^ (63 - 1 - j)) * val D ≤ val X) = decide ((fr 63 (val X / val D) j + 2 ^ (63 - 1 - j)) * (fr 63 (val X / val D) j + 2 ^ (63 - 1 - j)) ≤ val X / val D) :=
        decide_eq_decide.2 (Int.le_ediv_iff_mul_le d0).symm
      rw [hle]
      rfl
  · intro h
    rw [decide_eq_false_iff_not] at h
    have h:¬ (62 - (j:Int) ≥ 0) := h
    have:j = 63 := by omega
    rw [this]; rfl
def ovL:QG := fun env mem m => match JLb [.int .u64] env mem 11,JLb [.int .u64] env mem 12,Wb env 0,Wb env 1,Wb env 3 with
  | some X,some D,some a,some b,some md => zD (ovF a b md X D) 304 (fun _ _ => some 0) env mem m
  | _,_,_,_,_ => none
def KE:FuncId → Nat → Option QG := JB6 JTq 143 8 ovL
theorem JbD:Known Tryz.prog (JB JKa) KE := by
  refine Qf 0 JTE (by kernel_rfl) (Qs fun env mem m x h => ?_)
  unfold ovL at h
  have hlen:(QU Tryz.prog 143).length = 1 := by kernel_rfl
  split at h
  · exact ⟨_,XW (Qc X5 JTE (by omega)) (JpJ _ _ _ _ _),h⟩
  · cases h
theorem JhD {a b:Int} (ha:XT a) (hb:XT b) (la:J6 a ≤ 2147483648) (lb:J6 b ≤ 2147483648):jB (Ja (JA (J6 a)) (JA (J6 b))) ∧ JGd (Ja (JA (J6 a)) (JA (J6 b))) ∧ val (Ja (JA (J6 a)) (JA (J6 b))) = J6 a * J6 b ∧ (Ja (JA (J6 a)) (JA (J6 b))).length ≤ 8 ∧ 0 ≤ J6 a * J6 b ∧ J6 a * J6 b ≤ 4611686018427387904 := by
  obtain ⟨a1,a2,a3,a4⟩ := JGI (Qn ha)
  obtain ⟨b1,b2,b3,b4⟩ := JGI (Qn hb)
  obtain ⟨p1,p2,p3,p4⟩ := W1 a1 b1
  rw [a3,b3] at p3
  have := Ke 2147483648 2147483648 (x := J6 a) (y := J6 b) ⟨(Qn ha).1,la⟩ ⟨(Qn hb).1,lb⟩ (by omega)
  exact ⟨p1,p2,p3,by omega,this.1,by omega⟩
def JFG:Tpl := ⟨[.one (.int .i64),.one (.int .i64),.one (.int .i64),.one (.int .i64)],[],0⟩
section
variable (a b n m:Int)
def Qp:Int:=
 fr 63 (val (QI (Ja (JA (J6 a)) (JA (J6 b)))) / val (JA (IntKind.u64.wrap n))) 63
def Wz:Int:=
 bif decide (J6 a > 2147483648) || decide (J6 b > 2147483648) || decide (n < 1) || decide (n > 4611686018427387904) || !(m == 0 || m == 1 || m == 2) then 0 else jH (decide (Qe a b < 0)) (Qp a b n) (JGD (Ja (QI (JA (Qp a b n))) (JA (IntKind.u64.wrap n))) (QI (Ja (JA (J6 a)) (JA (J6 b)))) == 0) (JGD (Ja (JA 4) (QI (Ja (JA (J6 a)) (JA (J6 b))))) (Ja (QI (JA (IntKind.u64.wrap (IntKind.u64.wrap (2 * Qp a b n) + 1)))) (JA (IntKind.u64.wrap n)))) m
def JUP:Bool:=
 bif decide (J6 a > 2147483648) || decide (J6 b > 2147483648) || decide (n < 1) || decide (n > 4611686018427387904) || !(m == 0 || m == 1 || m == 2) then false else jT (decide (Qe a b < 0)) (Qp a b n) (JGD (Ja (QI (JA (Qp a b n))) (JA (IntKind.u64.wrap n))) (QI (Ja (JA (J6 a)) (JA (J6 b)))) == 0) (JGD (Ja (JA 4) (QI (Ja (JA (J6 a)) (JA (J6 b))))) (Ja (QI (JA (IntKind.u64.wrap (IntKind.u64.wrap (2 * Qp a b n) + 1)))) (JA (IntKind.u64.wrap n)))) m
def Y4:Int:=
 IntKind.u64.wrap (IntKind.u64.wrap (2 * Qp a b n) + 1)
end
def JDv (a b n m:Int):List Prop :=
 [(decide (J6 a > 2147483648) || decide (J6 b > 2147483648) || decide (n < 1) || decide (n > 4611686018427387904) || !(m == 0 || m == 1 || m == 2)) = false → (-9223372036854775808 ≤ a ∧ a < 9223372036854775808) ∧ (-9223372036854775808 ≤ b ∧ b < 9223372036854775808) ∧ (∀ (i:Nat),0 ≤ dg (Ja (JA (J6 a)) (JA (J6 b))) i ∧ dg (Ja (JA (J6 a)) (JA (J6 b))) i < 65536) ∧ List.length (Ja (JA (J6 a)) (JA (J6 b))) + List.length (Ja (JA (J6 a)) (JA (J6 b))) ≤ 1000000 ∧ 0 ≤ IntKind.u64.wrap n ∧ IntKind.u64.wrap n < 18446744073709551616 ∧ (0 ≤ 63 ∧ (∀ (i:Nat),0 ≤ dg (QI (Ja (JA (J6 a)) (JA (J6 b)))) i ∧ dg (QI (Ja (JA (J6 a)) (JA (J6 b)))) i < 65536) ∧ (List.length (QI (Ja (JA (J6 a)) (JA (J6 b)))) ≠ 0 → dg (QI (Ja (JA (J6 a)) (JA (J6 b)))) (List.length (QI (Ja (JA (J6 a)) (JA (J6 b)))) - 1) ≠ 0) ∧ (∀ (i:Nat),0 ≤ dg (JA (IntKind.u64.wrap n)) i ∧ dg (JA (IntKind.u64.wrap n)) i < 65536) ∧ (List.length (JA (IntKind.u64.wrap n)) ≠ 0 → dg (JA (IntKind.u64.wrap n)) (List.length (JA (IntKind.u64.wrap n)) - 1) ≠ 0) ∧ List.length (QI (Ja (JA (J6 a)) (JA (J6 b)))) ≤ 100 ∧ List.length (JA (IntKind.u64.wrap n)) ≤ 100 ∧ 0 < val (JA (IntKind.u64.wrap n)) ∧ val (QI (Ja (JA (J6 a)) (JA (J6 b)))) < 85070591730234615865843651857942052864) ∧ Int.ofNat 62 = 62 ∧ fr 63 (val (QI (Ja (JA (J6 a)) (JA (J6 b)))) / val (JA (IntKind.u64.wrap n))) 0 = 0 ∧ 0 ≤ Qp a b n ∧ Qp a b n < 18446744073709551616 ∧ 0 ≤ Y4 a b n ∧ Y4 a b n < 18446744073709551616 ∧ Int.ofNat 0 ≤ 4 ∧ Int.ofNat 4 < 18446744073709551616 ∧ (∀ (i:Nat),Int.ofNat 0 ≤ dg (JA 4) i ∧ dg (JA 4) i < 65536) ∧ (∀ (i:Nat),0 ≤ dg (QI (Ja (JA (J6 a)) (JA (J6 b)))) i ∧ dg (QI (Ja (JA (J6 a)) (JA (J6 b)))) i < 65536) ∧ 1 + List.length (QI (Ja (JA (J6 a)) (JA (J6 b)))) ≤ 1000000 ∧ (∀ (i:Nat),0 ≤ dg (JA (Y4 a b n)) i ∧ dg (JA (Y4 a b n)) i < 65536) ∧ List.length (JA (Y4 a b n)) + List.length (JA (Y4 a b n)) ≤ 1000000 ∧ (∀ (i:Nat),0 ≤ dg (QI (JA (Y4 a b n))) i ∧ dg (QI (JA (Y4 a b n))) i < 65536) ∧ (∀ (i:Nat),0 ≤ dg (JA (IntKind.u64.wrap n)) i ∧ dg (JA (IntKind.u64.wrap n)) i < 65536) ∧ List.length (QI (JA (Y4 a b n))) + List.length (JA (IntKind.u64.wrap n)) ≤ 1000000 ∧ List.length (Ja (JA 4) (QI (Ja (JA (J6 a)) (JA (J6 b))))) ≤ 1000000 ∧ (∀ (i:Nat),0 ≤ dg (JA (Qp a b n)) i ∧ dg (JA (Qp a b n)) i < 65536) ∧ List.length (JA (Qp a b n)) + List.length (JA (Qp a b n)) ≤ 1000000 ∧ (∀ (i:Nat),0 ≤ dg (QI (JA (Qp a b n))) i ∧ dg (QI (JA (Qp a b n))) i < 65536) ∧ (∀ (i:Nat),0 ≤ dg (JA (IntKind.u64.wrap n)) i ∧ dg (JA (IntKind.u64.wrap n)) i < 65536) ∧ List.length (QI (JA (Qp a b n))) + List.length (JA (IntKind.u64.wrap n)) ≤ 1000000 ∧ List.length (Ja (QI (JA (Qp a b n))) (JA (IntKind.u64.wrap n))) ≤ 1000000]
theorem Jjy {a:Int} {b:Int} {n:Int} {m:Int} (hW:∀ q ∈ ([XT a,XT b,XT n]:List Prop),q):∀ q ∈ (JDv a b n m),q := by
  simp only [awc,awn,and_true] at hW
  unfold JDv
  simp only [awc,awn,and_true]
  obtain ⟨ha,hb,hn⟩ := hW
  intro h
  simp only [Bool.or_eq_false_iff,decide_eq_false_iff_not] at h
  obtain ⟨A1,A2,A3,A4,A5,A6⟩ := JhD ha hb (by omega) (by omega)
  have ew:IntKind.u64.wrap n = n := Yy (by omega) (by omega)
  obtain ⟨D1,D2,D3,D4⟩ := JGI (n := n) ⟨by omega,by omega⟩
  rw [ew]
  have hX:QI (Ja (JA (J6 a)) (JA (J6 b))) = Ja (Ja (JA (J6 a)) (JA (J6 b))) (Ja (JA (J6 a)) (JA (J6 b))) := rfl
  obtain ⟨X1,X2,X3,X4⟩ := W1 A1 A1
  rw [← hX] at X1 X2 X3 X4
  rw [A3] at X3
  have hp := Ke 4611686018427387904 4611686018427387904 (x := J6 a * J6 b) (y := J6 a * J6 b) ⟨A5,A6⟩ ⟨A5,A6⟩ (by omega)
  have hx1:val (QI (Ja (JA (J6 a)) (JA (J6 b)))) < 85070591730234615865843651857942052864 := by rw [X3]; omega
  have es:Qp a b n = fr 63 (val (QI (Ja (JA (J6 a)) (JA (J6 b)))) / n) 63 := by unfold Qp; rw [ew,D3]
  have hv:0 ≤ val (QI (Ja (JA (J6 a)) (JA (J6 b)))) / n := Int.ediv_nonneg (by rw [X3]; omega) (by omega)
  have hv1:val (QI (Ja (JA (J6 a)) (JA (J6 b)))) / n < 2 ^ 63 * 2 ^ 63 := by
    have := Int.ediv_le_self n (show 0 ≤ val (QI (Ja (JA (J6 a)) (JA (J6 b)))) by rw [X3]; omega)
    have e:(2:Int) ^ 63 * 2 ^ 63 = 85070591730234615865843651857942052864 := rfl
    omega
  have hq := JsN hv hv1 (j := 63) (by omega)
  rw [← es] at hq
  have e63:(2:Int) ^ 63 = 9223372036854775808 := rfl
  have hs:Y4 a b n = 2 * Qp a b n + 1 := by
    unfold Y4
    rw [Yy (x := 2 * Qp a b n) (by omega) (by omega),Yy (by omega) (by omega)]
  obtain ⟨q1,q2,q3,q4,q5,q6⟩ := JFm (n := Y4 a b n) ⟨by omega,by omega⟩
  obtain ⟨s1,s2,s3,s4,s5,s6⟩ := JFm (n := Qp a b n) ⟨by omega,by omega⟩
  obtain ⟨F1,F2,F3,F4⟩ := JGI (n := 4) ⟨by omega,by omega⟩
  obtain ⟨g1,g2,g3,g4⟩ := W1 F1 X1
  obtain ⟨k1,k2,k3,k4⟩ := W1 s3 D1
  exact ⟨ha,hb,A1,by omega,by omega,by omega,⟨by omega,X1,X2,D1,D2,by omega,by omega,by omega,hx1⟩,rfl,rfl,by omega,by omega,by omega,by omega,by decide,by decide,F1,X1,by omega,q1,by omega,q3,D1,by omega,by omega,s1,by omega,s3,D1,by omega,by omega⟩
theorem JlG (a b n m:Int) (hNeeds:∀ pN ∈ (JDv a b n m),pN):Runs (Jr (JB JKa) KE 143) (JFG.args [.i a,.i b,.i n,.i m]) (JFG.memo [.i a,.i b,.i n,.i m] []) JFG.n (SV.tup [(false,[Ci (Wz a b n m)]),(false,[Cb (JUP a b n m)])]) ([]) :=
  Runs.of1 (ps := (JDv a b n m)) (by kernel_rfl) hNeeds
def JQ0:List Pm → Qm → Option CRes
  | [.i a,.i b,.i n,.i m],[] => some ⟨SV.tup [(false,[Ci (Wz a b n m)]),(false,[Cb (JUP a b n m)])],
 [],[XT a,XT b,XT n],[],922⟩
  | _,_ => none
theorem Js4:Qg Tryz.prog 143 (JS JFG JQ0) := by
  refine JH (JD JbD 143) fun ps ls r hr hn _ => ?_
  unfold JQ0 at hr
  split at hr
  · cases hr; exact ⟨_,JlG _ _ _ _ (Jjy (by exact hn)),fun _ => rfl⟩
  · cases hr
def Jea:List (Nat × JY) := (143,JS JFG JQ0) :: JKa
theorem JTR:Known Tryz.prog (JB Jea) KE := J7 JbD Js4
def Zw (n:Int):Int := fr 63 n 63
theorem JfD {n:Int} (h0:0 ≤ n) (h1:n < 9223372036854775808):0 ≤ Zw n ∧ Zw n * Zw n ≤ n ∧ n < (Zw n + 1) * (Zw n + 1) ∧ Zw n ≤ 3037000499 := by
  obtain ⟨a,b,c,d⟩ := Jek (T := 63) h0 (show n < 2 ^ 63 * 2 ^ 63 from by have:(2:Int) ^ 63 * 2 ^ 63 = 85070591730234615865843651857942052864 := rfl; omega)
  have:fr 63 n 63 ≤ 3037000499 := by
    rcases Int.lt_or_le 3037000499 (fr 63 n 63) with h | h
    · have := Int.mul_le_mul (show (3037000500:Int) ≤ fr 63 n 63 by omega) (show (3037000500:Int) ≤ fr 63 n 63 by omega) (by omega) a
      omega
    · exact h
  exact ⟨a,b,c,this⟩
theorem Jmt {n:Int} (h0:0 ≤ n) (h:XT n):val (Ja (JA (J6 n)) (JA (J6 1))) = n := by
  show val (JZ1 _ _) = _
  rw [(JCz (Qn h) (Qn (a := 1) (by decide))).2.2,Xl n h,Xl 1 (by decide),if_neg (by omega),if_neg (by omega),Int.mul_one]
theorem JnS {n m:Int} (h0:0 ≤ n) (h:XT n) (hm:m = 0 ∨ m = 1 ∨ m = 2):JGY n 1 m = true ∧ qH n 1 m = if (m = 1 ∧ Zw n * Zw n ≠ n) ∨ (m = 2 ∧ Zw n * (Zw n + 1) < n) then Zw n + 1 else Zw n := by
  obtain ⟨a,b,c,d⟩ := JfD h0 h.2
  obtain ⟨x1,x2,x3⟩ := JCz (Qn h) (Qn (a := 1) (by decide))
  have vX := Jmt h0 h
  have X1:jB (Ja (JA (J6 n)) (JA (J6 1))) := x1
  have X2:JGd (Ja (JA (J6 n)) (JA (J6 1))) := x2
  have hc:(decide (n < 0) || decide ((1:Int) < 0) || !(m == 0 || m == 1 || m == 2)) = false := by
    rw [decide_eq_false (by omega)]
    rcases hm with rfl | rfl | rfl <;> rfl
  have es:fr 63 (val (Ja (JA (J6 n)) (JA (J6 1)))) 63 = Zw n := by rw [vX]; rfl
  have e0:JKA (Ja (JA (J6 n)) (JA (J6 1))) = decide (Zw n * Zw n = n) := by
    unfold JKA
    rw [es]
    have:JGD (Ja (JA (Zw n)) (JA (Zw n))) (Ja (JA (J6 n)) (JA (J6 1))) = _ := (sqD ⟨a,by omega⟩ X1 X2).1
    rw [this,vX]
    rcases JCH (Zw n * Zw n) n with ⟨g1,g2⟩ | ⟨g1,g2⟩ | ⟨g1,g2⟩ <;> rw [g2] <;> simp <;> omega
  have e1:JKC (Ja (JA (J6 n)) (JA (J6 1))) = if Zw n * (Zw n + 1) < n then 1 else -1 := by
    unfold JKC JfU
    rw [es,Yy (by omega) (by omega)]
    obtain ⟨y1,y2,y3⟩ := JCz (a := Zw n) (b := Zw n + 1) ⟨a,by omega⟩ ⟨by omega,by omega⟩
    have:JGD (Ja (JA (J6 n)) (JA (J6 1))) (Ja (JA (Zw n)) (JA (Zw n + 1))) = _ := JOH X1 y1 X2 y2
    have y4:val (Ja (JA (Zw n)) (JA (Zw n + 1))) = _ := y3
    rw [this,vX,y4]
    rcases JCH n (Zw n * (Zw n + 1)) with ⟨g1,g2⟩ | ⟨g1,g2⟩ | ⟨g1,g2⟩ <;> rw [g2]
    · rw [if_neg (by omega)]; rfl
    · rw [if_neg (by omega)]; rfl
    · rw [if_pos (by omega)]; rfl
  unfold qH JGY
  rw [hc,cond_false,cond_false,es,e0,e1]
  have es0:XX false (Zw n) (decide (Zw n * Zw n = n)) (if Zw n * (Zw n + 1) < n then 1 else -1) m = if (m = 1 ∧ Zw n * Zw n ≠ n) ∨ (m = 2 ∧ Zw n * (Zw n + 1) < n) then Zw n + 1 else Zw n := by
    unfold XX
    have w:IntKind.u64.wrap (Zw n + 1) = Zw n + 1 := Yy (by omega) (by omega)
    rw [w]
    rcases hm with rfl | rfl | rfl
    · rfl
    · by_cases h:Zw n * Zw n = n
      · simp [h]
      · simp [h]
    · by_cases h:Zw n * (Zw n + 1) < n
      · simp [h]
      · simp [h]
  have hb:0 ≤ (if (m = 1 ∧ Zw n * Zw n ≠ n) ∨ (m = 2 ∧ Zw n * (Zw n + 1) < n) then Zw n + 1 else Zw n) ∧ (if (m = 1 ∧ Zw n * Zw n ≠ n) ∨ (m = 2 ∧ Zw n * (Zw n + 1) < n) then Zw n + 1 else Zw n) ≤ 3037000500 := by split <;> omega
  unfold jH jT
  rw [es0,decide_eq_false (by omega)]
  generalize (if (m = 1 ∧ Zw n * Zw n ≠ n) ∨ (m = 2 ∧ Zw n * (Zw n + 1) < n) then Zw n + 1 else Zw n) = v at *
  simp only [cond_false]
  rw [decide_eq_false (by omega),cond_false,Zy (by omega) (by omega)]
  exact ⟨rfl,rfl⟩
theorem JaN {n:Int} (h0:0 ≤ n) (h1:n < 9223372036854775808):Jl 0 n = Zw n := by
  obtain ⟨a,b,c,d⟩ := JfD h0 h1
  obtain ⟨x,y,z,w⟩ := Jt9 (a := 0) (b := n) ⟨by omega,by omega⟩ ⟨h0,by omega⟩
  rw [Int.zero_mul,Int.zero_add] at y z
  exact JgA x a y z b c
theorem Jwi {x y:Int} (hx:u64 x) (hy:u64 y) (h:y ≤ x):JJ6 x y 0 = x - y ∧ JEO x y 0 = 0 := by
  obtain ⟨i,rfl⟩ := Int.eq_ofNat_of_zero_le hx.1
  obtain ⟨j,rfl⟩ := Int.eq_ofNat_of_zero_le hy.1
  unfold JJ6 JEO
  have e:(((i:Int).toNat + 18446744073709551616 - (j:Int).toNat - (0:Int).toNat) % 18446744073709551616:Nat) = i - j := by
    simp only [Int.toNat_natCast]
    have:(0:Int).toNat = 0 := rfl
    omega
  have e2:¬ ((i:Int).toNat < (j:Int).toNat + (0:Int).toNat) := by
    simp only [Int.toNat_natCast]
    have:(0:Int).toNat = 0 := rfl
    omega
  rw [e,if_neg e2]
  constructor
  · omega
  · rfl
theorem Joo {n m:Int} (h0:0 ≤ n) (h:XT n) (hm:m = 0 ∨ m = 1 ∨ m = 2):JOK n m = true ∧ JE5 n m = if (m = 1 ∧ Zw n * Zw n ≠ n) ∨ (m = 2 ∧ Zw n * (Zw n + 1) < n) then Zw n + 1 else Zw n := by
  obtain ⟨a,b,c,d⟩ := JfD h0 h.2
  have ef := JaN h0 h.2
  have hc:(decide (n < 0) || !(m == 0 || m == 1 || m == 2)) = false := by
    rw [decide_eq_false (by omega)]
    rcases hm with rfl | rfl | rfl <;> rfl
  have en:IntKind.u64.wrap n = n := Yy h0 (by omega)
  have u0:u64 (Zw n) := ⟨a,by omega⟩
  have p0 := Ke 3037000499 3037000499 (x := Zw n) (y := Zw n) ⟨a,d⟩ ⟨a,d⟩ (by omega)
  have eh:QJ (Zw n) (Zw n) = 0 := by rw [JAI _ _ u0 u0]; omega
  have el:Qa (Zw n) (Zw n) = Zw n * Zw n := by rw [zx]; omega
  obtain ⟨s1,s2⟩ := Jwi (x := n) (y := Zw n * Zw n) ⟨h0,by omega⟩ ⟨by omega,by omega⟩ b
  have s3:JJ6 0 0 0 = 0 := rfl
  have e1:JJN 0 n m = if (m = 1 ∧ Zw n * Zw n ≠ n) ∨ (m = 2 ∧ Zw n * (Zw n + 1) < n) then Zw n + 1 else Zw n := by
    unfold JJN JWP
    rw [ef,eh,el,s1,s2,s3,Yy (x := Zw n + 1) (by omega) (by omega)]
    have e:Zw n * (Zw n + 1) = Zw n * Zw n + Zw n := by rw [Int.mul_add,Int.mul_one]
    rw [e]
    rcases hm with rfl | rfl | rfl
    · rfl
    · by_cases g:Zw n * Zw n = n
      · simp [g]
      · have:Zw n * Zw n < n := by omega
        simp [g,this]
    · by_cases g:Zw n * Zw n + Zw n < n
      · have:Zw n < n - Zw n * Zw n := by omega
        simp [g,this]
      · have:¬ Zw n < n - Zw n * Zw n := by omega
        simp [g,this]
  have hb:(if (m = 1 ∧ Zw n * Zw n ≠ n) ∨ (m = 2 ∧ Zw n * (Zw n + 1) < n) then Zw n + 1 else Zw n) < 9223372036854775808 ∧ 0 ≤ (if (m = 1 ∧ Zw n * Zw n ≠ n) ∨ (m = 2 ∧ Zw n * (Zw n + 1) < n) then Zw n + 1 else Zw n) := by split <;> omega
  unfold JE5 JOK JUc JUd
  rw [hc,cond_false,cond_false,en,e1,decide_eq_true hb.1,cond_true,Zy (by omega) hb.1]
  exact ⟨rfl,rfl⟩
theorem Jnp {n m:Int} (h0:0 ≤ n) (h:XT n) (hm:m = 0 ∨ m = 1 ∨ m = 2):JE5 n m = qH n 1 m ∧ JOK n m = JGY n 1 m := by
  obtain ⟨a1,a2⟩ := Joo h0 h hm
  obtain ⟨b1,b2⟩ := JnS h0 h hm
  exact ⟨by rw [a2,b2],by rw [a1,b1]⟩
def tw (p n:Int):Int := fr 64 (4 * (p * p) / n) 64
def ovq (p n:Int) (neg:Bool):Int :=
  if tw p n % 2 = 1 ∧ (neg = false ∨ tw p n * tw p n * n ≠ 4 * (p * p)) then tw p n / 2 + 1 else tw p n / 2
theorem Jsk {p n:Int} (hp:0 ≤ p ∧ p ≤ 4611686018427387904) (hn:1 ≤ n ∧ n ≤ 4611686018427387904):0 ≤ tw p n ∧ tw p n * tw p n * n ≤ 4 * (p * p) ∧ 4 * (p * p) < (tw p n + 1) * (tw p n + 1) * n ∧ tw p n ≤ 9223372036854775808 := by
  have hq := Ke 4611686018427387904 4611686018427387904 (x := p) (y := p) hp hp (by omega)
  have hd:0 ≤ 4 * (p * p) / n := Int.ediv_nonneg (by omega) (by omega)
  have hd2 := Int.ediv_le_self n (show 0 ≤ 4 * (p * p) by omega)
  have e:(2:Int) ^ 64 * 2 ^ 64 = 340282366920938463463374607431768211456 := rfl
  obtain ⟨x,y,z,w⟩ := Jek (T := 64) (x := 4 * (p * p) / n) hd (by omega)
  have h1 := (Int.le_ediv_iff_mul_le (show 0 < n by omega)).1 y
  have h2:4 * (p * p) < (tw p n + 1) * (tw p n + 1) * n := by
    rcases Int.lt_or_le (4 * (p * p)) ((tw p n + 1) * (tw p n + 1) * n) with g | g
    · exact g
    · have := (Int.le_ediv_iff_mul_le (show 0 < n by omega)).2 g
      have z':4 * (p * p) / n < (tw p n + 1) * (tw p n + 1) := z
      omega
  refine ⟨x,h1,h2,?_⟩
  rcases Int.lt_or_le (tw p n) 9223372036854775809 with g | g
  · omega
  · exfalso
    have g2 := Int.mul_le_mul g g (by omega) x
    have y':tw p n * tw p n ≤ 4 * (p * p) / n := y
    omega
theorem JoG {a b n:Int} (ha:XT a) (hb:XT b) (la:J6 a ≤ 2147483648) (lb:J6 b ≤ 2147483648) (hn:1 ≤ n ∧ n ≤ 4611686018427387904) :
    Xg a b n 2 = (if Qe a b < 0 then -ovq (J6 a * J6 b) n true else ovq (J6 a * J6 b) n false) ∧ JUi a b n 2 = true := by
  have sa := Qn ha
  have sb := Qn hb
  obtain ⟨p0,p1⟩ := Ke 2147483648 2147483648 (x := J6 a) (y := J6 b) ⟨sa.1,la⟩ ⟨sb.1,lb⟩ (by omega)
  have hc:(decide (J6 a > 2147483648) || decide (J6 b > 2147483648) || decide (n < 1) || decide (n > 4611686018427387904) || !((2:Int) == 0 || (2:Int) == 1 || (2:Int) == 2)) = false := by
    rw [decide_eq_false (by omega),decide_eq_false (by omega),decide_eq_false (by omega),decide_eq_false (by omega)]; rfl
  have ew:IntKind.u64.wrap n = n := Yy (by omega) (by omega)
  have e0:Jp a b = 2 * (J6 a * J6 b) := by
    unfold Jp
    rw [Yy (x := J6 a * J6 b) (by omega) (by omega),Yy (by omega) (by omega)]
  generalize hP:J6 a * J6 b = P at *
  have us:u64 (Jp a b) := by rw [e0]; exact ⟨by omega,by omega⟩
  have hh := Jet us us
  have hl := Jdf (Jp a b) (Jp a b)
  have ehl:QJ (Jp a b) (Jp a b) * 18446744073709551616 + Qa (Jp a b) (Jp a b) = 4 * (P * P) := by
    rw [JAI _ _ us us,zx,e0]
    have:2 * P * (2 * P) = 4 * (P * P) := by grind
    rw [this]; omega
  obtain ⟨q1,q2,q3,q4⟩ := JhV hh hl (c := n) (by omega) (by omega)
  rw [ehl] at q3 q4
  have eT:YV a b n = tw P n := by
    unfold YV JCq
    rw [ew]
    show fr 64 _ 64 = _
    rw [q3]; rfl
  obtain ⟨t0,t1,t2,t3⟩ := Jsk (p := P) (n := n) ⟨p0,by omega⟩ hn
  have uT:u64 (tw P n) := ⟨t0,by omega⟩
  have dm := Int.mul_ediv_add_emod (4 * (P * P)) n
  have m3 := Int.emod_nonneg (4 * (P * P)) (show n ≠ 0 by omega)
  have e4:JGG a b n = decide (tw P n * tw P n * n ≠ 4 * (P * P)) := by
    unfold JGG JCq
    rw [ew,eT,q4,JAI _ _ uT uT,zx]
    have hT:(tw P n * tw P n / 18446744073709551616 == ZE 0 (QJ (Jp a b) (Jp a b)) n && tw P n * tw P n % 18446744073709551616 == ZE (ZF 0 (QJ (Jp a b) (Jp a b)) n) (Qa (Jp a b) (Jp a b)) n) = decide (tw P n * tw P n = 4 * (P * P) / n) := by
      rw [← q3]
      generalize tw P n * tw P n = z at *
      generalize ZE 0 (QJ (Jp a b) (Jp a b)) n = u at *
      generalize ZE (ZF 0 (QJ (Jp a b) (Jp a b)) n) (Qa (Jp a b) (Jp a b)) n = v at *
      rw [Bool.eq_iff_iff]
      simp only [Bool.and_eq_true,beq_iff_eq,decide_eq_true_eq]
      omega
    rw [hT]
    have hle:tw P n * tw P n ≤ 4 * (P * P) / n := (Int.le_ediv_iff_mul_le (show 0 < n by omega)).2 t1
    have hcm:n * (4 * (P * P) / n) = 4 * (P * P) / n * n := Int.mul_comm _ _
    rw [hcm] at dm
    rw [Bool.eq_iff_iff]
    simp only [Bool.or_eq_true,Bool.not_eq_true',decide_eq_true_eq,decide_eq_false_iff_not]
    constructor
    · rintro (g | g)
      · have := Int.mul_le_mul_of_nonneg_right hle (show 0 ≤ n by omega)
        omega
      · have := Int.mul_le_mul_of_nonneg_right (show tw P n * tw P n + 1 ≤ 4 * (P * P) / n by omega) (show 0 ≤ n by omega)
        rw [Int.add_mul] at this
        omega
    · intro g
      by_cases g2:tw P n * tw P n = 4 * (P * P) / n
      · left
        rw [g2] at g
        omega
      · exact .inr g2
  have e3:JEm a b n = decide (tw P n % 2 = 1) := by
    unfold JEm
    rw [eT,Int.tmod_eq_emod_of_nonneg t0]
    rfl
  have ehalf:IntKind.u64.wrap ((tw P n).tdiv 2) = tw P n / 2 := by
    rw [Int.tdiv_eq_ediv_of_nonneg t0,Yy (by omega) (by omega)]
  unfold Xg JUi
  rw [hc,cond_false,cond_false,eT,ehalf,e3,e4,Yy (x := tw P n / 2 + 1) (by omega) (by omega)]
  have e5:JJD a b = decide (Qe a b < 0) := rfl
  rw [e5]
  have key:∀ ng:Bool,(bif JBe 2 (bif decide (tw P n % 2 = 1) then bif decide (tw P n * tw P n * n ≠ 4 * (P * P)) then 1 else 0 else -1) (decide (tw P n * tw P n * n ≠ 4 * (P * P)) || decide (tw P n % 2 = 1)) ng then tw P n / 2 + 1 else tw P n / 2) = ovq P n ng := by
    intro ng
    unfold ovq JBe
    by_cases g1:tw P n % 2 = 1
    · by_cases g2:tw P n * tw P n * n = 4 * (P * P)
      · cases ng <;> simp [g1,g2]
      · cases ng <;> simp [g1,g2]
    · simp [g1]
  have hq:∀ ng,0 ≤ ovq P n ng ∧ ovq P n ng ≤ 4611686018427387905 := fun ng => by
    unfold ovq
    split <;> omega
  rw [key]
  by_cases hs:Qe a b < 0
  · rw [decide_eq_true hs,if_pos hs]
    unfold Ya JCx
    have := hq true
    rw [decide_eq_true (show ovq P n true ≤ 9223372036854775808 by omega)]
    simp only [Bool.and_self,cond_true,Bool.true_or,and_true]
    by_cases hz:ovq P n true = 0
    · rw [hz]; rfl
    · rw [JBi]
      have:(0 - ovq P n true) % 18446744073709551616 = 18446744073709551616 - ovq P n true := by omega
      rw [this]
      unfold IntKind.wrap
      simp only [IntKind.bits,IntKind.signed]
      simp
      omega
  · rw [decide_eq_false hs,if_neg hs]
    unfold Ya JCx
    have := hq false
    rw [decide_eq_true (show ovq P n false < 9223372036854775808 by omega)]
    simp only [Bool.false_and,cond_false,Bool.not_false,Bool.and_self,cond_true,Bool.false_or,and_true]
    rw [Zy (by omega) (by omega)]
theorem Joq {a b n:Int} (ha:XT a) (hb:XT b) (la:J6 a ≤ 2147483648) (lb:J6 b ≤ 2147483648) (hn:1 ≤ n ∧ n ≤ 4611686018427387904) :
    Wz a b n 2 = (if Qe a b < 0 then -ovq (J6 a * J6 b) n true else ovq (J6 a * J6 b) n false) ∧ JUP a b n 2 = true := by
  obtain ⟨A1,A2,A3,A4,A5,A6⟩ := JhD ha hb la lb
  have hc:(decide (J6 a > 2147483648) || decide (J6 b > 2147483648) || decide (n < 1) || decide (n > 4611686018427387904) || !((2:Int) == 0 || (2:Int) == 1 || (2:Int) == 2)) = false := by
    rw [decide_eq_false (by omega),decide_eq_false (by omega),decide_eq_false (by omega),decide_eq_false (by omega)]; rfl
  have ew:IntKind.u64.wrap n = n := Yy (by omega) (by omega)
  obtain ⟨D1,D2,D3,D4⟩ := JGI (n := n) ⟨by omega,by omega⟩
  have hX:QI (Ja (JA (J6 a)) (JA (J6 b))) = Ja (Ja (JA (J6 a)) (JA (J6 b))) (Ja (JA (J6 a)) (JA (J6 b))) := rfl
  obtain ⟨X1,X2,X3,X4⟩ := W1 A1 A1
  rw [← hX] at X1 X2 X3 X4
  rw [A3] at X3
  generalize hP:J6 a * J6 b = P at *
  have hpp := Ke 4611686018427387904 4611686018427387904 (x := P) (y := P) ⟨A5,A6⟩ ⟨A5,A6⟩ (by omega)
  obtain ⟨t0,t1,t2,t3⟩ := Jsk (p := P) (n := n) ⟨A5,A6⟩ hn
  have n0:0 < n := by omega
  have es:Qp a b n = fr 63 (P * P / n) 63 := by
    unfold Qp
    rw [ew,D3,X3]
  have hv:0 ≤ P * P / n := Int.ediv_nonneg hpp.1 (by omega)
  have hv1:P * P / n < 2 ^ 63 * 2 ^ 63 := by
    have := Int.ediv_le_self n hpp.1
    have e:(2:Int) ^ 63 * 2 ^ 63 = 85070591730234615865843651857942052864 := rfl
    omega
  obtain ⟨r0,r1,r2,r3⟩ := Jek hv hv1
  rw [← es] at r0 r1 r2 r3
  have e63:(2:Int) ^ 63 = 9223372036854775808 := rfl
  have hk1:(tw P n / 2) * (tw P n / 2) * n ≤ P * P := by
    have h1 := Ke (tw P n) (tw P n) (x := 2 * (tw P n / 2)) (y := 2 * (tw P n / 2)) ⟨by omega,by omega⟩ ⟨by omega,by omega⟩ t0
    have h2 := Int.mul_le_mul_of_nonneg_right h1.2 (show 0 ≤ n by omega)
    have h3:2 * (tw P n / 2) * (2 * (tw P n / 2)) * n = 4 * ((tw P n / 2) * (tw P n / 2) * n) := by grind
    omega
  have hk2:P * P < (tw P n / 2 + 1) * (tw P n / 2 + 1) * n := by
    have h1 := Ke (2 * (tw P n / 2 + 1)) (2 * (tw P n / 2 + 1)) (x := tw P n + 1) (y := tw P n + 1) ⟨by omega,by omega⟩ ⟨by omega,by omega⟩ (by omega)
    have h2 := Int.mul_le_mul_of_nonneg_right h1.2 (show 0 ≤ n by omega)
    have h3:2 * (tw P n / 2 + 1) * (2 * (tw P n / 2 + 1)) * n = 4 * ((tw P n / 2 + 1) * (tw P n / 2 + 1) * n) := by grind
    omega
  have hk3:P * P / n < (tw P n / 2 + 1) * (tw P n / 2 + 1) := by
    rcases Int.lt_or_le (P * P / n) ((tw P n / 2 + 1) * (tw P n / 2 + 1)) with g | g
    · exact g
    · have := (Int.le_ediv_iff_mul_le n0).1 g
      omega
  have eq:Qp a b n = tw P n / 2 := JgA r0 (by omega) r1 r2 ((Int.le_ediv_iff_mul_le n0).2 hk1) hk3
  have e2q:IntKind.u64.wrap (IntKind.u64.wrap (2 * Qp a b n) + 1) = 2 * (tw P n / 2) + 1 := by
    rw [eq,Yy (x := 2 * (tw P n / 2)) (by omega) (by omega),Yy (by omega) (by omega)]
  obtain ⟨q1,q2,q3,q4,q5,q6⟩ := JFm (n := 2 * (tw P n / 2) + 1) ⟨by omega,by omega⟩
  obtain ⟨F1,F2,F3,F4⟩ := JGI (n := 4) ⟨by omega,by omega⟩
  obtain ⟨g1,g2,g3,g4⟩ := W1 F1 X1
  obtain ⟨k1,k2,k3,k4⟩ := W1 q3 D1
  have eh:JGD (Ja (JA 4) (QI (Ja (JA (J6 a)) (JA (J6 b))))) (Ja (QI (JA (2 * (tw P n / 2) + 1))) (JA n)) = K6 (4 * (P * P)) ((2 * (tw P n / 2) + 1) * (2 * (tw P n / 2) + 1) * n) := by
    rw [JOH g1 k1 g2 k2,g3,k3,F3,X3,q5,D3]
  unfold Wz JUP
  rw [hc,cond_false,cond_false,ew,e2q,eh,eq]
  generalize hE:(JGD (Ja (QI (JA (tw P n / 2))) (JA n)) (QI (Ja (JA (J6 a)) (JA (J6 b)))) == 0) = exact'
  have key:∀ ng:Bool,XX ng (tw P n / 2) exact' (K6 (4 * (P * P)) ((2 * (tw P n / 2) + 1) * (2 * (tw P n / 2) + 1) * n)) 2 = ovq P n ng := by
    intro ng
    unfold XX ovq
    rw [Yy (x := tw P n / 2 + 1) (by omega) (by omega)]
    by_cases g1:tw P n % 2 = 1
    · have e:2 * (tw P n / 2) + 1 = tw P n := by omega
      rw [e]
      by_cases g2:tw P n * tw P n * n = 4 * (P * P)
      · rw [g2,Jog]
        cases ng <;> simp [g1]
      · rw [JeD (by omega)]
        cases ng <;> simp [g1,g2]
    · have e:2 * (tw P n / 2) + 1 = tw P n + 1 := by omega
      rw [e,Jf5 t2]
      cases ng <;> simp [g1]
  have hq:∀ ng,0 ≤ ovq P n ng ∧ ovq P n ng ≤ 4611686018427387905 := fun ng => by
    unfold ovq
    split <;> omega
  have hs5:decide (tw P n / 2 > 9223372036854775808) = false := decide_eq_false (by omega)
  unfold jH jT
  rw [key,hs5,cond_false,cond_false]
  by_cases hs:Qe a b < 0
  · rw [decide_eq_true hs,if_pos hs,cond_true,cond_true]
    have := hq true
    rw [decide_eq_false (show ¬ ovq P n true > 9223372036854775808 by omega),cond_false]
    refine ⟨?_,rfl⟩
    by_cases hz:ovq P n true = 0
    · rw [hz]; rfl
    · rw [show (ovq P n true == 0) = false by simpa using hz,cond_false,Yy (x := ovq P n true - 1) (by omega) (by omega),Zy (x := ovq P n true - 1) (by omega) (by omega),Zy (x := 0 - (ovq P n true - 1)) (by omega) (by omega),Zy (by omega) (by omega)]
      omega
  · rw [decide_eq_false hs,if_neg hs,cond_false,cond_false]
    have := hq false
    rw [decide_eq_false (show ¬ ovq P n false > 9223372036854775807 by omega),cond_false,Zy (by omega) (by omega)]
    exact ⟨rfl,rfl⟩
theorem Jo5 {a b n:Int} (ha:XT a) (hb:XT b) (la:J6 a ≤ 2147483648) (lb:J6 b ≤ 2147483648) (hn:1 ≤ n ∧ n ≤ 4611686018427387904):Xg a b n 2 = Wz a b n 2 := by
  rw [(JoG ha hb la lb hn).1,(Joq ha hb la lb hn).1]
def JIb:Tpl := ⟨[.agg [.int .i64,.int .i64],.agg [.int .i64,.int .i64]],[],0⟩
theorem JoU (a b c d:Int):Runs (Jr (JB Jea) KE 128) (JIb.args [.i a,.i b,.i c,.i d]) (JIb.memo [.i a,.i b,.i c,.i d] []) JIb.n (SV.agg [Ci (JI a c),Ci (JI b d)]) ([]) :=
  Runs.of1 (ps := []) (by kernel_rfl) (by simp)
def JY2:List Pm → Qm → Option CRes
  | [.i a,.i b,.i c,.i d],[] => some ⟨SV.agg [Ci (JI a c),Ci (JI b d)],
 [],[],[],26⟩
  | _,_ => none
theorem JuN:Qg Tryz.prog 128 (JS JIb JY2) := by
  refine JH (JD JTR 128) fun ps ls r hr hn _ => ?_
  unfold JY2 at hr
  split at hr
  · cases hr; exact ⟨_,JoU _ _ _ _,fun _ => rfl⟩
  · cases hr
def Jju:List (Nat × JY) := (128,orS (JS JIb JY2) (JS JBu JKF)) :: Jea
theorem JXs:Known Tryz.prog (JB Jju) KE := J7 JTR (JLS JuN JgU)
def JCa:Tpl := ⟨[.agg [.int .i64,.int .i64],.agg [.int .i64,.int .i64]],[],0⟩
theorem JgI (a b c d:Int):Runs (Jr (JB Jju) KE 99) (JCa.args [.i a,.i b,.i c,.i d]) (JCa.memo [.i a,.i b,.i c,.i d] []) JCa.n (SV.agg [Ci (J0 a c),Ci (J0 b d)]) ([]) :=
  Runs.of1 (ps := []) (by kernel_rfl) (by simp)
def JLe:List Pm → Qm → Option CRes
  | [.i a,.i b,.i c,.i d],[] => some ⟨SV.agg [Ci (J0 a c),Ci (J0 b d)],
 [],[],[],26⟩
  | _,_ => none
theorem JnG:Qg Tryz.prog 99 (JS JCa JLe) := by
  refine JH (JD JXs 99) fun ps ls r hr hn _ => ?_
  unfold JLe at hr
  split at hr
  · cases hr; exact ⟨_,JgI _ _ _ _,fun _ => rfl⟩
  · cases hr
def JZe:List (Nat × JY) := (99,orS (JS JCa JLe) (JS JC3 JJv)) :: Jju
theorem JOM:Known Tryz.prog (JB JZe) KE := J7 JXs (JLS JnG Jgf)
def JNh:Tpl := ⟨[.one (.int .i64),.one (.int .i64)],[],0⟩
theorem JrQ (n m:Int):Runs (Jr (JB JZe) KE 142) (JNh.args [.i n,.i m]) (JNh.memo [.i n,.i m] []) JNh.n (SV.one (Cb (Jc n m))) ([]) :=
  Runs.of1 (ps := []) (by kernel_rfl) (by simp)
def JfG:List Pm → Qm → Option CRes
  | [.i n,.i m],[] => some ⟨SV.one (Cb (Jc n m)),
 [],[],[],11⟩
  | _,_ => none
theorem JvY:Qg Tryz.prog 142 (JS JNh JfG) := by
  refine JH (JD JOM 142) fun ps ls r hr hn _ => ?_
  unfold JfG at hr
  split at hr
  · cases hr; exact ⟨_,JrQ _ _,fun _ => rfl⟩
  · cases hr
def Jrp:List (Nat × JY) := (142,JS JNh JfG) :: JZe
theorem JbW:Known Tryz.prog (JB Jrp) KE := J7 JOM JvY
def qv:Tpl := ⟨[.agg [.int .i64,.int .i64]],[],0⟩
def QN (a b:Int):Bool :=
 Jc a 1048576 && Jc b 1048576
theorem Jda (a b:Int):Runs (Jr (JB Jrp) KE 117) (qv.args [.i a,.i b]) (qv.memo [.i a,.i b] []) qv.n (SV.one (Cb (QN a b))) ([]) :=
  Runs.of1 (ps := []) (by kernel_rfl) (by simp)
def JHv:List Pm → Qm → Option CRes
  | [.i a,.i b],[] => some ⟨SV.one (Cb (QN a b)),
 [],[],[],36⟩
  | _,_ => none
theorem JkB:Qg Tryz.prog 117 (JS qv JHv) := by
  refine JH (JD JbW 117) fun ps ls r hr hn _ => ?_
  unfold JHv at hr
  split at hr
  · cases hr; exact ⟨_,Jda _ _,fun _ => rfl⟩
  · cases hr
def JP1:List (Nat × JY) := (117,JS qv JHv) :: Jrp
theorem JKl:Known Tryz.prog (JB JP1) KE := J7 JbW JkB
def Ww:Tpl := ⟨[.agg [.int .i64,.int .i64]],[],0⟩
def YU (a b:Int):Bool :=
 decide (a ≥ -4194304) && decide (a ≤ 4194304) && (decide (b ≥ -4194304) && decide (b ≤ 4194304))
theorem Jaa (a b:Int):Runs (Jr (JB JP1) KE 141) (Ww.args [.i a,.i b]) (Ww.memo [.i a,.i b] []) Ww.n (SV.one (Cb (YU a b))) ([]) :=
  Runs.of1 (ps := []) (by kernel_rfl) (by simp)
def JHP:List Pm → Qm → Option CRes
  | [.i a,.i b],[] => some ⟨SV.one (Cb (YU a b)),
 [],[],[],36⟩
  | _,_ => none
theorem Jgl:Qg Tryz.prog 141 (JS Ww JHP) := by
  refine JH (JD JKl 141) fun ps ls r hr hn _ => ?_
  unfold JHP at hr
  split at hr
  · cases hr; exact ⟨_,Jaa _ _,fun _ => rfl⟩
  · cases hr
def JLO:List (Nat × JY) := (141,JS Ww JHP) :: JP1
theorem JJE:Known Tryz.prog (JB JLO) KE := J7 JKl Jgl
def JA9:Tpl := ⟨[.agg [.int .i64,.int .i64],.agg [.int .i64,.int .i64],.one (.int .i64)],[],0⟩
def JHN (a b c d s:Int):Bool :=
 decide (JE a b c d > 0) && decide (s > 0)
def JC4 (a b c d s:Int):Int :=
 bif JE a b c d == 0 && decide (J8 a b c d > 0) then 0 else bif bif JHN a b c d s then JHN a b c d s else decide (JE a b c d < 0) && decide (s < 0) then 2 else 1
theorem Jej (a b c d s:Int):Runs (Jr (JB JLO) KE 89) (JA9.args [.i a,.i b,.i c,.i d,.i s]) (JA9.memo [.i a,.i b,.i c,.i d,.i s] []) JA9.n (SV.one (Ci (JC4 a b c d s))) ([]) :=
  Runs.of1 (ps := []) (by kernel_rfl) (by simp)
def JIc:List Pm → Qm → Option CRes
  | [.i a,.i b,.i c,.i d,.i s],[] => some ⟨SV.one (Ci (JC4 a b c d s)),
 [],[],[],82⟩
  | _,_ => none
theorem JkX:Qg Tryz.prog 89 (JS JA9 JIc) := by
  refine JH (JD JJE 89) fun ps ls r hr hn _ => ?_
  unfold JIc at hr
  split at hr
  · cases hr; exact ⟨_,Jej _ _ _ _ _,fun _ => rfl⟩
  · cases hr
def JQR:List (Nat × JY) := (89,JS JA9 JIc) :: JLO
theorem JKn:Known Tryz.prog (JB JQR) KE := J7 JJE JkX
theorem JgY (p0 p1 t0 t1 r:Int):(t0 == 0 && t1 == 0 || !YU t0 t1 || !QN p0 p1 || !Jc r 32768) = (t0 == 0 && t1 == 0 || !Jc t0 4194304 || !Jc t1 4194304 || !Jc p0 1048576 || !Jc p1 1048576 || !Jc r 32768) := by
  have e1:YU t0 t1 = (Jc t0 4194304 && Jc t1 4194304) := rfl
  have e2:QN p0 p1 = (Jc p0 1048576 && Jc p1 1048576) := rfl
  rw [e1,e2]
  generalize (t0 == 0 && t1 == 0) = a
  generalize Jc t0 4194304 = b
  generalize Jc t1 4194304 = c
  generalize Jc p0 1048576 = d
  generalize Jc p1 1048576 = e
  generalize Jc r 32768 = f
  revert a b c d e f
  decide
def kI:Tpl := ⟨[.agg [.int .i64,.int .i64],.agg [.int .i64,.int .i64],.one (.int .i64)],[],0⟩
section
variable (p0 p1 t0 t1 r:Int)
def Zo:Int:=
 bif t0 == 0 && t1 == 0 || !YU t0 t1 || !QN p0 p1 || !Jc r 32768 then 0 else IntKind.i64.wrap (p0 + Wz (IntKind.i64.wrap (0 - t1)) r (J8 t0 t1 t0 t1) 2)
def Zk:Int:=
 bif t0 == 0 && t1 == 0 || !YU t0 t1 || !QN p0 p1 || !Jc r 32768 then 0 else IntKind.i64.wrap (p1 + Wz t0 r (J8 t0 t1 t0 t1) 2)
def JKH:Bool:=
 !(t0 == 0 && t1 == 0 || !YU t0 t1 || !QN p0 p1 || !Jc r 32768)
def JYx:Prop:=
 -9223372036854775808 ≤ J8 t0 t1 t0 t1 ∧ J8 t0 t1 t0 t1 < 9223372036854775808
def qr:List Prop:=
 [(t0 == 0 && t1 == 0 || !YU t0 t1 || !QN p0 p1 || !Jc r 32768) = false → (-9223372036854775808 ≤ IntKind.i64.wrap (0 - t1) ∧ IntKind.i64.wrap (0 - t1) < 9223372036854775808) ∧ (-9223372036854775808 ≤ r ∧ r < 9223372036854775808) ∧ JYx t0 t1 ∧ (-9223372036854775808 ≤ t0 ∧ t0 < 9223372036854775808) ∧ (-9223372036854775808 ≤ r ∧ r < 9223372036854775808) ∧ JYx t0 t1]
end
theorem JcU {p0:Int} {p1:Int} {t0:Int} {t1:Int} {r:Int}:∀ q ∈ (qr p0 p1 t0 t1 r),q := by
  unfold qr
  simp only [awc,awn,and_true]
  intro h
  rw [JgY] at h
  obtain ⟨h0,h1,h2,h3,h4,h5⟩ := JlJ h
  exact ⟨Jk _,⟨by omega,by omega⟩,Jk _,⟨by omega,by omega⟩,⟨by omega,by omega⟩,Jk _⟩
theorem JcD (p0 p1 t0 t1 r:Int) (hNeeds:∀ pN ∈ (qr p0 p1 t0 t1 r),pN):Runs (Jr (JB JQR) KE 116) (kI.args [.i p0,.i p1,.i t0,.i t1,.i r]) (kI.memo [.i p0,.i p1,.i t0,.i t1,.i r] []) kI.n (SV.tup [(true,[Ci (Zo p0 p1 t0 t1 r),Ci (Zk p0 p1 t0 t1 r)]),(false,[Cb (JKH p0 p1 t0 t1 r)])]) ([]) :=
  Runs.of1 (ps := (qr p0 p1 t0 t1 r)) (by kernel_rfl) hNeeds
def JIe:List Pm → Qm → Option CRes
  | [.i p0,.i p1,.i t0,.i t1,.i r],[] => some ⟨SV.tup [(true,[Ci (Zo p0 p1 t0 t1 r),Ci (Zk p0 p1 t0 t1 r)]),(false,[Cb (JKH p0 p1 t0 t1 r)])],
 [],[],[],2024⟩
  | _,_ => none
theorem JkI:Qg Tryz.prog 116 (JS kI JIe) := by
  refine JH (JD JKn 116) fun ps ls r hr hn _ => ?_
  unfold JIe at hr
  split at hr
  · cases hr; exact ⟨_,JcD _ _ _ _ _ (fun p hp => JcU p hp),fun _ => rfl⟩
  · cases hr
def JQE:List (Nat × JY) := (116,JS kI JIe) :: JQR
theorem JL9:Known Tryz.prog (JB JQE) KE := J7 JKn JkI
def JAb:Tpl := ⟨[.agg [.int .i64,.int .i64]],[],0⟩
theorem JdG (a b:Int):Runs (Jr (JB JQE) KE 114) (JAb.args [.i a,.i b]) (JAb.memo [.i a,.i b] []) JAb.n (SV.one (Ci (J8 a b a b))) ([]) :=
  Runs.of1 (ps := []) (by kernel_rfl) (by simp)
def JJd:List Pm → Qm → Option CRes
  | [.i a,.i b],[] => some ⟨SV.one (Ci (J8 a b a b)),
 [],[],[],30⟩
  | _,_ => none
theorem JjP:Qg Tryz.prog 114 (JS JAb JJd) := by
  refine JH (JD JL9 114) fun ps ls r hr hn _ => ?_
  unfold JJd at hr
  split at hr
  · cases hr; exact ⟨_,JdG _ _,fun _ => rfl⟩
  · cases hr
def JR9:List (Nat × JY) := (114,JS JAb JJd) :: JQE
theorem JKq:Known Tryz.prog (JB JR9) KE := J7 JL9 JjP
def zP:Tpl := ⟨[.agg [.int .i64,.int .i64,.int .i64,.int .i64,.int .i64,.int .i64,.int .i64,.bool],.one (.int .i64)],[],0⟩
def Xy (e6 r:Int):Bool :=
 e6 == 1 && decide (r ≥ 0) || e6 == -1 && decide (r < 0)
theorem JdR (e0 e1 e2 e3 e4 e5 e6:Int) (e7:Bool) (r:Int):Runs (Jr (JB JR9) KE 113) (zP.args [.i e0,.i e1,.i e2,.i e3,.i e4,.i e5,.i e6,.b e7,.i r]) (zP.memo [.i e0,.i e1,.i e2,.i e3,.i e4,.i e5,.i e6,.b e7,.i r] []) zP.n (SV.one (Cb (Xy e6 r))) ([]) :=
  Runs.of1 (ps := []) (by kernel_rfl) (by simp)
def JHt:List Pm → Qm → Option CRes
  | [.i e0,.i e1,.i e2,.i e3,.i e4,.i e5,.i e6,.b e7,.i r],[] => some ⟨SV.one (Cb (Xy e6 r)),
 [],[],[],28⟩
  | _,_ => none
theorem Ji2:Qg Tryz.prog 113 (JS zP JHt) := by
  refine JH (JD JKq 113) fun ps ls r hr hn _ => ?_
  unfold JHt at hr
  split at hr
  · cases hr; exact ⟨_,JdR _ _ _ _ _ _ _ _ _,fun _ => rfl⟩
  · cases hr
def JQz:List (Nat × JY) := (113,JS zP JHt) :: JR9
theorem JKy:Known Tryz.prog (JB JQz) KE := J7 JKq Ji2
def JCh:Tpl := ⟨[.agg [.int .i64,.int .i64,.int .i64,.int .i64,.int .i64,.int .i64,.int .i64,.bool],.one (.bool)],[],0⟩
def JF (e0 e2 e4:Int) (w:Bool):Int :=
 bif w then J0 e2 e4 else J0 e0 e4
theorem JfJ (e0 e1 e2 e3 e4 e5 e6:Int) (e7 w:Bool):Runs (Jr (JB JQz) KE 115) (JCh.args [.i e0,.i e1,.i e2,.i e3,.i e4,.i e5,.i e6,.b e7,.b w]) (JCh.memo [.i e0,.i e1,.i e2,.i e3,.i e4,.i e5,.i e6,.b e7,.b w] []) JCh.n (SV.agg [Ci (JF e0 e2 e4 w),Ci (JF e1 e3 e5 w)]) ([]) :=
  Runs.of1 (ps := []) (by kernel_rfl) (by simp)
def JMZ:List Pm → Qm → Option CRes
  | [.i e0,.i e1,.i e2,.i e3,.i e4,.i e5,.i e6,.b e7,.b w],[] => some ⟨SV.agg [Ci (JF e0 e2 e4 w),Ci (JF e1 e3 e5 w)],
 [],[],[],85⟩
  | _,_ => none
theorem JnZ:Qg Tryz.prog 115 (JS JCh JMZ) := by
  refine JH (JD JKy 115) fun ps ls r hr hn _ => ?_
  unfold JMZ at hr
  split at hr
  · cases hr; exact ⟨_,JfJ _ _ _ _ _ _ _ _ _,fun _ => rfl⟩
  · cases hr
def JYf:List (Nat × JY) := (115,JS JCh JMZ) :: JQz
theorem JOk:Known Tryz.prog (JB JYf) KE := J7 JKy JnZ
def JFx:Tpl := ⟨[.agg [.int .i64,.int .i64,.int .i64,.int .i64,.int .i64,.int .i64,.int .i64,.bool],.one (.bool)],[],0⟩
def Qj (e0 e1 e2 e3 e5 e6:Int) (w:Bool):Int :=
 bif e6 == 0 then J0 e2 e0 else IntKind.i64.wrap (IntKind.i64.wrap (0 - JF e1 e3 e5 w) * e6)
def Qh (e0 e1 e2 e3 e4 e6:Int) (w:Bool):Int :=
 bif e6 == 0 then J0 e3 e1 else IntKind.i64.wrap (JF e0 e2 e4 w * e6)
theorem Jku (e0 e1 e2 e3 e4 e5 e6:Int) (e7 w:Bool):Runs (Jr (JB JYf) KE 90) (JFx.args [.i e0,.i e1,.i e2,.i e3,.i e4,.i e5,.i e6,.b e7,.b w]) (JFx.memo [.i e0,.i e1,.i e2,.i e3,.i e4,.i e5,.i e6,.b e7,.b w] []) JFx.n (SV.agg [Ci (Qj e0 e1 e2 e3 e5 e6 w),Ci (Qh e0 e1 e2 e3 e4 e6 w)]) ([]) :=
  Runs.of1 (ps := []) (by kernel_rfl) (by simp)
def JQ6:List Pm → Qm → Option CRes
  | [.i e0,.i e1,.i e2,.i e3,.i e4,.i e5,.i e6,.b e7,.b w],[] => some ⟨SV.agg [Ci (Qj e0 e1 e2 e3 e5 e6 w),Ci (Qh e0 e1 e2 e3 e4 e6 w)],
 [],[],[],163⟩
  | _,_ => none
theorem Jqw:Qg Tryz.prog 90 (JS JFx JQ6) := by
  refine JH (JD JOk 90) fun ps ls r hr hn _ => ?_
  unfold JQ6 at hr
  split at hr
  · cases hr; exact ⟨_,Jku _ _ _ _ _ _ _ _ _,fun _ => rfl⟩
  · cases hr
def JfC:List (Nat × JY) := (90,JS JFx JQ6) :: JYf
theorem JTI:Known Tryz.prog (JB JfC) KE := J7 JOk Jqw
def JCD:Tpl := ⟨[.agg [.int .i64,.int .i64,.int .i64,.int .i64,.int .i64,.int .i64,.int .i64,.bool],.agg [.int .i64,.int .i64],.one (.int .i64)],[],0⟩
section
variable (e0 e1 e2 e3 e4 e5 e6 y0 y1 r:Int)
def JQg:Int:=
 JHJ (JE (J0 e2 e0) (J0 e3 e1) (J0 y0 e0) (J0 y1 e1)) (JE (J0 e2 e0) (J0 e3 e1) (J0 y0 e0) (J0 y1 e1)) (IntKind.i64.wrap (r * r)) (J8 (J0 e2 e0) (J0 e3 e1) (J0 e2 e0) (J0 e3 e1))
def jX:Int:=
 bif Xy e6 r then J8 (J0 y0 e4) (J0 y1 e5) (J0 y0 e4) (J0 y1 e5) else J8 (JF e0 e2 e4 true) (JF e1 e3 e5 true) (JF e0 e2 e4 true) (JF e1 e3 e5 true)
def Yk:Int:=
 IntKind.i64.wrap (IntKind.i64.wrap ((bif Xy e6 r then J8 (JF e0 e2 e4 true) (JF e1 e3 e5 true) (JF e0 e2 e4 true) (JF e1 e3 e5 true) else J8 (J0 y0 e4) (J0 y1 e5) (J0 y0 e4) (J0 y1 e5)) - jX e0 e1 e2 e3 e4 e5 e6 y0 y1 r) - IntKind.i64.wrap (r * r))
def Jbs:Int:=
 JHJ (Yk e0 e1 e2 e3 e4 e5 e6 y0 y1 r) (Yk e0 e1 e2 e3 e4 e5 e6 y0 y1 r) (IntKind.i64.wrap (IntKind.i64.wrap (4 * r) * r)) (jX e0 e1 e2 e3 e4 e5 e6 y0 y1 r)
def X9:Bool:=
 bif e6 == 0 then (decide (r ≥ 0) && decide (JE (J0 e2 e0) (J0 e3 e1) (J0 y0 e0) (J0 y1 e1) ≥ 0) || decide (r < 0) && decide (JE (J0 e2 e0) (J0 e3 e1) (J0 y0 e0) (J0 y1 e1) ≤ 0)) && decide (JQg e0 e1 e2 e3 y0 y1 r ≥ 0) else decide (Yk e0 e1 e2 e3 e4 e5 e6 y0 y1 r ≥ 0) && decide (Jbs e0 e1 e2 e3 e4 e5 e6 y0 y1 r ≥ 0)
def JK1:Prop:=
 (decide (r ≥ 0) && decide (JE (J0 e2 e0) (J0 e3 e1) (J0 y0 e0) (J0 y1 e1) ≥ 0) || decide (r < 0) && decide (JE (J0 e2 e0) (J0 e3 e1) (J0 y0 e0) (J0 y1 e1) ≤ 0)) = true
def JJj:Prop:=
 decide (Yk e0 e1 e2 e3 e4 e5 e6 y0 y1 r ≥ 0) = true
def JbL:Int:=
 IntKind.i64.wrap (IntKind.i64.wrap (4 * r) * r)
def JBO:List Prop:=
 [(e6 == 0) = true → (JK1 e0 e1 e2 e3 y0 y1 r → -9223372036854775808 ≤ JE (J0 e2 e0) (J0 e3 e1) (J0 y0 e0) (J0 y1 e1) ∧ JE (J0 e2 e0) (J0 e3 e1) (J0 y0 e0) (J0 y1 e1) < 9223372036854775808) ∧ (JK1 e0 e1 e2 e3 y0 y1 r → -9223372036854775808 ≤ JE (J0 e2 e0) (J0 e3 e1) (J0 y0 e0) (J0 y1 e1) ∧ JE (J0 e2 e0) (J0 e3 e1) (J0 y0 e0) (J0 y1 e1) < 9223372036854775808) ∧ (JK1 e0 e1 e2 e3 y0 y1 r → -9223372036854775808 ≤ IntKind.i64.wrap (r * r) ∧ IntKind.i64.wrap (r * r) < 9223372036854775808) ∧ (JK1 e0 e1 e2 e3 y0 y1 r → -9223372036854775808 ≤ J8 (J0 e2 e0) (J0 e3 e1) (J0 e2 e0) (J0 e3 e1) ∧ J8 (J0 e2 e0) (J0 e3 e1) (J0 e2 e0) (J0 e3 e1) < 9223372036854775808),(e6 == 0) = false → (JJj e0 e1 e2 e3 e4 e5 e6 y0 y1 r → -9223372036854775808 ≤ Yk e0 e1 e2 e3 e4 e5 e6 y0 y1 r ∧ Yk e0 e1 e2 e3 e4 e5 e6 y0 y1 r < 9223372036854775808) ∧ (JJj e0 e1 e2 e3 e4 e5 e6 y0 y1 r → -9223372036854775808 ≤ Yk e0 e1 e2 e3 e4 e5 e6 y0 y1 r ∧ Yk e0 e1 e2 e3 e4 e5 e6 y0 y1 r < 9223372036854775808) ∧ (JJj e0 e1 e2 e3 e4 e5 e6 y0 y1 r → -9223372036854775808 ≤ JbL r ∧ JbL r < 9223372036854775808) ∧ (JJj e0 e1 e2 e3 e4 e5 e6 y0 y1 r → -9223372036854775808 ≤ jX e0 e1 e2 e3 e4 e5 e6 y0 y1 r ∧ jX e0 e1 e2 e3 e4 e5 e6 y0 y1 r < 9223372036854775808)]
end
theorem Jgn {e0:Int} {e1:Int} {e2:Int} {e3:Int} {e4:Int} {e5:Int} {e6:Int} {y0:Int} {y1:Int} {r:Int}:∀ q ∈ (JBO e0 e1 e2 e3 e4 e5 e6 y0 y1 r),q := by
  unfold JBO
  simp only [awc,awn,and_true]
  have s1:XT (jX e0 e1 e2 e3 e4 e5 e6 y0 y1 r) := by
    unfold jX
    cases Xy e6 r <;> exact Jk _
  exact ⟨fun _ => ⟨fun _ => Jk _,fun _ => Jk _,fun _ => Jk _,fun _ => Jk _⟩,fun _ => ⟨fun _ => Jk _,fun _ => Jk _,fun _ => Jk _,fun _ => s1⟩⟩
theorem Jg9 (e0 e1 e2 e3 e4 e5 e6:Int) (e7:Bool) (y0 y1 r:Int) (hNeeds:∀ pN ∈ (JBO e0 e1 e2 e3 e4 e5 e6 y0 y1 r),pN):Runs (Jr (JB JfC) KE 120) (JCD.args [.i e0,.i e1,.i e2,.i e3,.i e4,.i e5,.i e6,.b e7,.i y0,.i y1,.i r]) (JCD.memo [.i e0,.i e1,.i e2,.i e3,.i e4,.i e5,.i e6,.b e7,.i y0,.i y1,.i r] []) JCD.n (SV.one (Cb (X9 e0 e1 e2 e3 e4 e5 e6 y0 y1 r))) ([]) :=
  Runs.of1 (ps := (JBO e0 e1 e2 e3 e4 e5 e6 y0 y1 r)) (by kernel_rfl) hNeeds
def JM8:List Pm → Qm → Option CRes
  | [.i e0,.i e1,.i e2,.i e3,.i e4,.i e5,.i e6,.b e7,.i y0,.i y1,.i r],[] => some ⟨SV.one (Cb (X9 e0 e1 e2 e3 e4 e5 e6 y0 y1 r)),
 [],[],[],1194⟩
  | _,_ => none
theorem JpO:Qg Tryz.prog 120 (JS JCD JM8) := by
  refine JH (JD JTI 120) fun ps ls r hr hn _ => ?_
  unfold JM8 at hr
  split at hr
  · cases hr; exact ⟨_,Jg9 _ _ _ _ _ _ _ _ _ _ _ (fun p hp => Jgn p hp),fun _ => rfl⟩
  · cases hr
def JYV:List (Nat × JY) := (120,JS JCD JM8) :: JfC
theorem JOX:Known Tryz.prog (JB JYV) KE := J7 JTI JpO
def JFE:Tpl := ⟨[.agg [.int .i64,.int .i64,.int .i64,.int .i64,.int .i64,.int .i64,.int .i64,.bool],.one (.int .i64)],[],0⟩
section
variable (e0 e1 e2 e3 e4 e5 e6 r:Int)
def Zc:Int:=
 IntKind.i64.wrap ((if IntKind.i64.wrap (0 - r) > r then IntKind.i64.wrap (0 - r) else r) + 8)
def JXp:Int:=
 bif !QN (Zo e0 e1 (Qj e0 e1 e2 e3 e5 e6 false) (Qh e0 e1 e2 e3 e4 e6 false) r) (Zk e0 e1 (Qj e0 e1 e2 e3 e5 e6 false) (Qh e0 e1 e2 e3 e4 e6 false) r) || !QN (Zo e2 e3 (Qj e0 e1 e2 e3 e5 e6 true) (Qh e0 e1 e2 e3 e4 e6 true) r) (Zk e2 e3 (Qj e0 e1 e2 e3 e5 e6 true) (Qh e0 e1 e2 e3 e4 e6 true) r) then 0 else Zo e0 e1 (Qj e0 e1 e2 e3 e5 e6 false) (Qh e0 e1 e2 e3 e4 e6 false) r
def KY:Int:=
 bif e6 != 0 && Xy e6 r then bif decide (J8 (JF e0 e2 e4 false) (JF e1 e3 e5 false) (JF e0 e2 e4 false) (JF e1 e3 e5 false) < IntKind.i64.wrap (Zc r * Zc r)) || decide (J8 (JF e0 e2 e4 true) (JF e1 e3 e5 true) (JF e0 e2 e4 true) (JF e1 e3 e5 true) < IntKind.i64.wrap (Zc r * Zc r)) then 0 else JXp e0 e1 e2 e3 e4 e5 e6 r else JXp e0 e1 e2 e3 e4 e5 e6 r
def JYa:Int:=
 bif !QN (Zo e0 e1 (Qj e0 e1 e2 e3 e5 e6 false) (Qh e0 e1 e2 e3 e4 e6 false) r) (Zk e0 e1 (Qj e0 e1 e2 e3 e5 e6 false) (Qh e0 e1 e2 e3 e4 e6 false) r) || !QN (Zo e2 e3 (Qj e0 e1 e2 e3 e5 e6 true) (Qh e0 e1 e2 e3 e4 e6 true) r) (Zk e2 e3 (Qj e0 e1 e2 e3 e5 e6 true) (Qh e0 e1 e2 e3 e4 e6 true) r) then 0 else Zk e0 e1 (Qj e0 e1 e2 e3 e5 e6 false) (Qh e0 e1 e2 e3 e4 e6 false) r
def Ka:Int:=
 bif e6 != 0 && Xy e6 r then bif decide (J8 (JF e0 e2 e4 false) (JF e1 e3 e5 false) (JF e0 e2 e4 false) (JF e1 e3 e5 false) < IntKind.i64.wrap (Zc r * Zc r)) || decide (J8 (JF e0 e2 e4 true) (JF e1 e3 e5 true) (JF e0 e2 e4 true) (JF e1 e3 e5 true) < IntKind.i64.wrap (Zc r * Zc r)) then 0 else JYa e0 e1 e2 e3 e4 e5 e6 r else JYa e0 e1 e2 e3 e4 e5 e6 r
def JVT:Int:=
 bif !QN (Zo e0 e1 (Qj e0 e1 e2 e3 e5 e6 false) (Qh e0 e1 e2 e3 e4 e6 false) r) (Zk e0 e1 (Qj e0 e1 e2 e3 e5 e6 false) (Qh e0 e1 e2 e3 e4 e6 false) r) || !QN (Zo e2 e3 (Qj e0 e1 e2 e3 e5 e6 true) (Qh e0 e1 e2 e3 e4 e6 true) r) (Zk e2 e3 (Qj e0 e1 e2 e3 e5 e6 true) (Qh e0 e1 e2 e3 e4 e6 true) r) then 0 else Zo e2 e3 (Qj e0 e1 e2 e3 e5 e6 true) (Qh e0 e1 e2 e3 e4 e6 true) r
def Xf:Int:=
 bif e6 != 0 && Xy e6 r then bif decide (J8 (JF e0 e2 e4 false) (JF e1 e3 e5 false) (JF e0 e2 e4 false) (JF e1 e3 e5 false) < IntKind.i64.wrap (Zc r * Zc r)) || decide (J8 (JF e0 e2 e4 true) (JF e1 e3 e5 true) (JF e0 e2 e4 true) (JF e1 e3 e5 true) < IntKind.i64.wrap (Zc r * Zc r)) then 0 else JVT e0 e1 e2 e3 e4 e5 e6 r else JVT e0 e1 e2 e3 e4 e5 e6 r
def JXB:Int:=
 bif !QN (Zo e0 e1 (Qj e0 e1 e2 e3 e5 e6 false) (Qh e0 e1 e2 e3 e4 e6 false) r) (Zk e0 e1 (Qj e0 e1 e2 e3 e5 e6 false) (Qh e0 e1 e2 e3 e4 e6 false) r) || !QN (Zo e2 e3 (Qj e0 e1 e2 e3 e5 e6 true) (Qh e0 e1 e2 e3 e4 e6 true) r) (Zk e2 e3 (Qj e0 e1 e2 e3 e5 e6 true) (Qh e0 e1 e2 e3 e4 e6 true) r) then 0 else Zk e2 e3 (Qj e0 e1 e2 e3 e5 e6 true) (Qh e0 e1 e2 e3 e4 e6 true) r
def Xe:Int:=
 bif e6 != 0 && Xy e6 r then bif decide (J8 (JF e0 e2 e4 false) (JF e1 e3 e5 false) (JF e0 e2 e4 false) (JF e1 e3 e5 false) < IntKind.i64.wrap (Zc r * Zc r)) || decide (J8 (JF e0 e2 e4 true) (JF e1 e3 e5 true) (JF e0 e2 e4 true) (JF e1 e3 e5 true) < IntKind.i64.wrap (Zc r * Zc r)) then 0 else JXB e0 e1 e2 e3 e4 e5 e6 r else JXB e0 e1 e2 e3 e4 e5 e6 r
def JZz:Int:=
 bif !QN (Zo e0 e1 (Qj e0 e1 e2 e3 e5 e6 false) (Qh e0 e1 e2 e3 e4 e6 false) r) (Zk e0 e1 (Qj e0 e1 e2 e3 e5 e6 false) (Qh e0 e1 e2 e3 e4 e6 false) r) || !QN (Zo e2 e3 (Qj e0 e1 e2 e3 e5 e6 true) (Qh e0 e1 e2 e3 e4 e6 true) r) (Zk e2 e3 (Qj e0 e1 e2 e3 e5 e6 true) (Qh e0 e1 e2 e3 e4 e6 true) r) then 3 else 0
def QX:Int:=
 bif e6 != 0 && Xy e6 r then bif decide (J8 (JF e0 e2 e4 false) (JF e1 e3 e5 false) (JF e0 e2 e4 false) (JF e1 e3 e5 false) < IntKind.i64.wrap (Zc r * Zc r)) || decide (J8 (JF e0 e2 e4 true) (JF e1 e3 e5 true) (JF e0 e2 e4 true) (JF e1 e3 e5 true) < IntKind.i64.wrap (Zc r * Zc r)) then 16 else JZz e0 e1 e2 e3 e4 e5 e6 r else JZz e0 e1 e2 e3 e4 e5 e6 r
end
theorem Jjw (e0 e1 e2 e3 e4 e5 e6:Int) (e7:Bool) (r:Int):Runs (Jr (JB JYV) KE 83) (JFE.args [.i e0,.i e1,.i e2,.i e3,.i e4,.i e5,.i e6,.b e7,.i r]) (JFE.memo [.i e0,.i e1,.i e2,.i e3,.i e4,.i e5,.i e6,.b e7,.i r] []) JFE.n (SV.tup [(true,[Ci (KY e0 e1 e2 e3 e4 e5 e6 r),Ci (Ka e0 e1 e2 e3 e4 e5 e6 r)]),(true,[Ci (Xf e0 e1 e2 e3 e4 e5 e6 r),Ci (Xe e0 e1 e2 e3 e4 e5 e6 r)]),(false,[Ci (QX e0 e1 e2 e3 e4 e5 e6 r)])]) ([]) :=
  Runs.of1 (ps := []) (by kernel_rfl) (by simp)
def JQs:List Pm → Qm → Option CRes
  | [.i e0,.i e1,.i e2,.i e3,.i e4,.i e5,.i e6,.b e7,.i r],[] => some ⟨SV.tup [(true,[Ci (KY e0 e1 e2 e3 e4 e5 e6 r),Ci (Ka e0 e1 e2 e3 e4 e5 e6 r)]),(true,[Ci (Xf e0 e1 e2 e3 e4 e5 e6 r),Ci (Xe e0 e1 e2 e3 e4 e5 e6 r)]),(false,[Ci (QX e0 e1 e2 e3 e4 e5 e6 r)])],
 [],[],[],9344⟩
  | _,_ => none
theorem JqM:Qg Tryz.prog 83 (JS JFE JQs) := by
  refine JH (JD JOX 83) fun ps ls r hr hn _ => ?_
  unfold JQs at hr
  split at hr
  · cases hr; exact ⟨_,Jjw _ _ _ _ _ _ _ _ _,fun _ => rfl⟩
  · cases hr
def Jev:List (Nat × JY) := (83,JS JFE JQs) :: JYV
theorem JT1:Known Tryz.prog (JB Jev) KE := J7 JOX JqM
def JFy:Tpl := ⟨[.agg [.int .i64,.int .i64],.agg [.int .i64,.int .i64],.one (.int .i64),.one (.int .i64)],[],0⟩
section
variable (a b c d i s:Int)
def Zu:Int:=
 bif decide (J8 a b c d > 0) then bif decide (IntKind.i64.wrap (JE a b c d * i) ≤ 0) then IntKind.i64.wrap (0 - IntKind.i64.wrap (a + c)) else IntKind.i64.wrap (a + c) else IntKind.i64.wrap (i * IntKind.i64.wrap (d - b))
def Zt:Int:=
 bif decide (J8 a b c d > 0) then bif decide (IntKind.i64.wrap (JE a b c d * i) ≤ 0) then IntKind.i64.wrap (0 - IntKind.i64.wrap (b + d)) else IntKind.i64.wrap (b + d) else IntKind.i64.wrap (IntKind.i64.wrap (0 - i) * IntKind.i64.wrap (c - a))
def JKX:Int:=
 bif Zu a b c d i == 0 && Zt a b c d i == 0 then Zu a b c d i else Wz (Zu a b c d i) s (J8 (Zu a b c d i) (Zt a b c d i) (Zu a b c d i) (Zt a b c d i)) 2
def JK4:Int:=
 bif Zu a b c d i == 0 && Zt a b c d i == 0 then Zt a b c d i else Wz (Zt a b c d i) s (J8 (Zu a b c d i) (Zt a b c d i) (Zu a b c d i) (Zt a b c d i)) 2
def JgN:Prop:=
 -9223372036854775808 ≤ J8 (Zu a b c d i) (Zt a b c d i) (Zu a b c d i) (Zt a b c d i) ∧ J8 (Zu a b c d i) (Zt a b c d i) (Zu a b c d i) (Zt a b c d i) < 9223372036854775808
def JDG:List Prop:=
 [(Zu a b c d i == 0 && Zt a b c d i == 0) = false → (-9223372036854775808 ≤ Zu a b c d i ∧ Zu a b c d i < 9223372036854775808) ∧ (-9223372036854775808 ≤ s ∧ s < 9223372036854775808) ∧ JgN a b c d i ∧ (-9223372036854775808 ≤ Zt a b c d i ∧ Zt a b c d i < 9223372036854775808) ∧ (-9223372036854775808 ≤ s ∧ s < 9223372036854775808) ∧ JgN a b c d i]
end
theorem JiQ {a:Int} {b:Int} {c:Int} {d:Int} {i:Int} {s:Int} (hW:∀ q ∈ ([XT s]:List Prop),q):∀ q ∈ (JDG a b c d i s),q := by
  simp only [awc,awn,and_true] at hW
  unfold JDG
  simp only [awc,awn,and_true]
  have s1:XT (Zu a b c d i) := by
    unfold Zu
    cases decide (J8 a b c d > 0) <;> cases decide (IntKind.i64.wrap (JE a b c d * i) ≤ 0) <;> exact Jk _
  have s2:XT (Zt a b c d i) := by
    unfold Zt
    cases decide (J8 a b c d > 0) <;> cases decide (IntKind.i64.wrap (JE a b c d * i) ≤ 0) <;> exact Jk _
  exact fun _ => ⟨s1,hW,Jk _,s2,hW,Jk _⟩
theorem Jkx (a b c d i s:Int) (hNeeds:∀ pN ∈ (JDG a b c d i s),pN):Runs (Jr (JB Jev) KE 148) (JFy.args [.i a,.i b,.i c,.i d,.i i,.i s]) (JFy.memo [.i a,.i b,.i c,.i d,.i i,.i s] []) JFy.n (SV.agg [Ci (JKX a b c d i s),Ci (JK4 a b c d i s)]) ([]) :=
  Runs.of1 (ps := (JDG a b c d i s)) (by kernel_rfl) hNeeds
def JQi:List Pm → Qm → Option CRes
  | [.i a,.i b,.i c,.i d,.i i,.i s],[] => some ⟨SV.agg [Ci (JKX a b c d i s),Ci (JK4 a b c d i s)],
 [],[XT s],[],2078⟩
  | _,_ => none
theorem Jqb:Qg Tryz.prog 148 (JS JFy JQi) := by
  refine JH (JD JT1 148) fun ps ls r hr hn _ => ?_
  unfold JQi at hr
  split at hr
  · cases hr; exact ⟨_,Jkx _ _ _ _ _ _ (JiQ (by exact hn)),fun _ => rfl⟩
  · cases hr
def Jcz:List (Nat × JY) := (148,JS JFy JQi) :: Jev
theorem JTQ:Known Tryz.prog (JB Jcz) KE := J7 JT1 Jqb
def Wf:Tpl := ⟨[.one (.int .i64),.one (.int .i64)],[],0⟩
def JCc (a n:Int):Int :=
 bif decide (a.tmod n < 0) then IntKind.i64.wrap (IntKind.i64.wrap (a.tdiv n) - 1) else IntKind.i64.wrap (a.tdiv n)
def Wo (n:Int):List Prop :=
 [n ≠ 0,n ≠ 0]
theorem Jaf {n:Int} (hW:∀ q ∈ ([n ≠ 0]:List Prop),q):∀ q ∈ (Wo n),q := by
  simp only [awc,awn,and_true] at hW
  unfold Wo
  simp only [awc,awn,and_true]
  exact ⟨hW,hW⟩
theorem JaS (a n:Int) (hNeeds:∀ pN ∈ (Wo n),pN):Runs (Jr (JB Jcz) KE 167) (Wf.args [.i a,.i n]) (Wf.memo [.i a,.i n] []) Wf.n (SV.one (Ci (JCc a n))) ([]) :=
  Runs.of1 (ps := (Wo n)) (by kernel_rfl) hNeeds
def JGm:List Pm → Qm → Option CRes
  | [.i a,.i n],[] => some ⟨SV.one (Ci (JCc a n)),
 [],[n ≠ 0],[],15⟩
  | _,_ => none
theorem Jgu:Qg Tryz.prog 167 (JS Wf JGm) := by
  refine JH (JD JTQ 167) fun ps ls r hr hn _ => ?_
  unfold JGm at hr
  split at hr
  · cases hr; exact ⟨_,JaS _ _ (Jaf (by exact hn)),fun _ => rfl⟩
  · cases hr
def JLM:List (Nat × JY) := (167,JS Wf JGm) :: Jcz
theorem JIw:Known Tryz.prog (JB JLM) KE := J7 JTQ Jgu
def JIn:Tpl := ⟨[.agg [.int .i64,.int .i64],.agg [.int .i64,.int .i64]],[],0⟩
def JIG (a b c d:Int):Bool :=
 !Jc (IntKind.i64.wrap (c - a)) 1 || !Jc (IntKind.i64.wrap (d - b)) 1
theorem JoR (a b c d:Int):Runs (Jr (JB JLM) KE 147) (JIn.args [.i a,.i b,.i c,.i d]) (JIn.memo [.i a,.i b,.i c,.i d] []) JIn.n (SV.one (Cb (JIG a b c d))) ([]) :=
  Runs.of1 (ps := []) (by kernel_rfl) (by simp)
def JXS:List Pm → Qm → Option CRes
  | [.i a,.i b,.i c,.i d],[] => some ⟨SV.one (Cb (JIG a b c d)),
 [],[],[],48⟩
  | _,_ => none
theorem JuG:Qg Tryz.prog 147 (JS JIn JXS) := by
  refine JH (JD JIw 147) fun ps ls r hr hn _ => ?_
  unfold JXS at hr
  split at hr
  · cases hr; exact ⟨_,JoR _ _ _ _,fun _ => rfl⟩
  · cases hr
def JiY:List (Nat × JY) := (147,JS JIn JXS) :: JLM
theorem JYy:Known Tryz.prog (JB JiY) KE := J7 JIw JuG
def zk:Tpl := ⟨[.agg [.int .i64,.int .i64],.agg [.int .i64,.int .i64]],[],0⟩
theorem Jcy (a b c d:Int):Runs (Jr (JB JiY) KE 122) (zk.args [.i a,.i b,.i c,.i d]) (zk.memo [.i a,.i b,.i c,.i d] []) zk.n (SV.one (Cb (XF a b c d))) ([]) :=
  Runs.of1 (ps := []) (by kernel_rfl) (by simp)
def JIs:List Pm → Qm → Option CRes
  | [.i a,.i b,.i c,.i d],[] => some ⟨SV.one (Cb (XF a b c d)),
 [],[],[],62⟩
  | _,_ => none
theorem JlT:Qg Tryz.prog 122 (JS zk JIs) := by
  refine JH (JD JYy 122) fun ps ls r hr hn _ => ?_
  unfold JIs at hr
  split at hr
  · cases hr; exact ⟨_,Jcy _ _ _ _,fun _ => rfl⟩
  · cases hr
def JPN:List (Nat × JY) := (122,JS zk JIs) :: JiY
theorem JL6:Known Tryz.prog (JB JPN) KE := J7 JYy JlT
def JG5:Tpl := ⟨[.agg [.int .i64,.int .i64],.agg [.int .i64,.int .i64],.one (.int .i64)],[],0⟩
def KM (a b c d e:Int):Int :=
 bif decide (IntKind.i64.wrap (JE a b c d * e) > 0) || IntKind.i64.wrap (JE a b c d * e) == 0 && decide (J8 a b c d > 0) then 0 else 1
theorem Ji7 (a b c d e:Int):Runs (Jr (JB JPN) KE 144) (JG5.args [.i a,.i b,.i c,.i d,.i e]) (JG5.memo [.i a,.i b,.i c,.i d,.i e] []) JG5.n (SV.one (Ci (KM a b c d e))) ([]) :=
  Runs.of1 (ps := []) (by kernel_rfl) (by simp)
def JPc:List Pm → Qm → Option CRes
  | [.i a,.i b,.i c,.i d,.i e],[] => some ⟨SV.one (Ci (KM a b c d e)),
 [],[],[],71⟩
  | _,_ => none
theorem JrV:Qg Tryz.prog 144 (JS JG5 JPc) := by
  refine JH (JD JL6 144) fun ps ls r hr hn _ => ?_
  unfold JPc at hr
  split at hr
  · cases hr; exact ⟨_,Ji7 _ _ _ _ _,fun _ => rfl⟩
  · cases hr
def Jdy:List (Nat × JY) := (144,JS JG5 JPc) :: JPN
theorem JSC:Known Tryz.prog (JB Jdy) KE := J7 JL6 JrV
def kw:Tpl := ⟨[.agg [.int .i64,.int .i64],.agg [.int .i64,.int .i64],.agg [.int .i64,.int .i64],.one (.int .i64),.one (.bool)],[],0⟩
def QK (a0 a1 b0 b1 p0 p1 d:Int) (f:Bool):Bool :=
 f || bif KM a0 a1 p0 p1 d != KM a0 a1 b0 b1 d then decide (KM a0 a1 p0 p1 d < KM a0 a1 b0 b1 d) else decide (IntKind.i64.wrap (JE p0 p1 b0 b1 * d) ≥ 0)
theorem Jd5 (a0 a1 b0 b1 p0 p1 d:Int) (f:Bool):Runs (Jr (JB Jdy) KE 119) (kw.args [.i a0,.i a1,.i b0,.i b1,.i p0,.i p1,.i d,.b f]) (kw.memo [.i a0,.i a1,.i b0,.i b1,.i p0,.i p1,.i d,.b f] []) kw.n (SV.one (Cb (QK a0 a1 b0 b1 p0 p1 d f))) ([]) :=
  Runs.of1 (ps := []) (by kernel_rfl) (by simp)
def JIM:List Pm → Qm → Option CRes
  | [.i a0,.i a1,.i b0,.i b1,.i p0,.i p1,.i d,.b f],[] => some ⟨SV.one (Cb (QK a0 a1 b0 b1 p0 p1 d f)),
 [],[],[],202⟩
  | _,_ => none
theorem JiB:Qg Tryz.prog 119 (JS kw JIM) := by
  refine JH (JD JSC 119) fun ps ls r hr hn _ => ?_
  unfold JIM at hr
  split at hr
  · cases hr; exact ⟨_,Jd5 _ _ _ _ _ _ _ _,fun _ => rfl⟩
  · cases hr
def JPy:List (Nat × JY) := (119,JS kw JIM) :: Jdy
theorem JKe:Known Tryz.prog (JB JPy) KE := J7 JSC JiB
def j8:Tpl := ⟨[.agg [.int .i64,.int .i64],.agg [.int .i64,.int .i64],.one (.int .i64),.one (.int .i64)],[],0⟩
def ZP (l0 h0 k n:Int):Int :=
 IntKind.i64.wrap (l0 + JCc (IntKind.i64.wrap (IntKind.i64.wrap (IntKind.i64.wrap (2 * IntKind.i64.wrap (h0 - l0)) * k) + n)) (IntKind.i64.wrap (2 * n)))
def Ws (n:Int):List Prop :=
 [IntKind.i64.wrap (2 * n) ≠ 0,IntKind.i64.wrap (2 * n) ≠ 0]
theorem JaU {n:Int} (hW:∀ q ∈ ([IntKind.i64.wrap (2 * n) ≠ 0]:List Prop),q):∀ q ∈ (Ws n),q := by
  simp only [awc,awn,and_true] at hW
  unfold Ws
  simp only [awc,awn,and_true]
  exact ⟨hW,hW⟩
theorem Jag (l0 l1 h0 h1 k n:Int) (hNeeds:∀ pN ∈ (Ws n),pN):Runs (Jr (JB JPy) KE 145) (j8.args [.i l0,.i l1,.i h0,.i h1,.i k,.i n]) (j8.memo [.i l0,.i l1,.i h0,.i h1,.i k,.i n] []) j8.n (SV.agg [Ci (ZP l0 h0 k n),Ci (ZP l1 h1 k n)]) ([]) :=
  Runs.of1 (ps := (Ws n)) (by kernel_rfl) hNeeds
def JGl:List Pm → Qm → Option CRes
  | [.i l0,.i l1,.i h0,.i h1,.i k,.i n],[] => some ⟨SV.agg [Ci (ZP l0 h0 k n),Ci (ZP l1 h1 k n)],
 [],[IntKind.i64.wrap (2 * n) ≠ 0],[],78⟩
  | _,_ => none
theorem JfL:Qg Tryz.prog 145 (JS j8 JGl) := by
  refine JH (JD JKe 145) fun ps ls r hr hn _ => ?_
  unfold JGl at hr
  split at hr
  · cases hr; exact ⟨_,Jag _ _ _ _ _ _ (JaU (by exact hn)),fun _ => rfl⟩
  · cases hr
def Ky:List (Nat × JY) := (145,JS j8 JGl) :: JPy
theorem JJX:Known Tryz.prog (JB Ky) KE := J7 JKe JfL
def fdP (l0 l1 h0 h1 n e0 e1 e2 e3 e4 e5 e6 r k:Int):Bool := X9 e0 e1 e2 e3 e4 e5 e6 (ZP l0 h0 k n) (ZP l1 h1 k n) r
def fdM (l0 l1 h0 h1 e0 e1 e2 e3 e4 e5 e6:Int) (e7:Bool):Jn := [Jtx 28 29,JtQ 24 25 h0 h1,JtQ 20 21 l0 l1,Jp4 0 1 e0 e1 e2 e3 e4 e5 e6 e7]
def fdF (l0 l1 h0 h1 n e0 e1 e2 e3 e4 e5 e6:Int) (e7:Bool) (r:Int):Fam (Int × Int) Int where
  k := 60
  E s := [(13,ent 1000000000 (.one (I s.2))),(12,ent 1000000001 (.one (I s.1))),(11,ent 56 (.one (I n))),(10,ent 31 (.one (.ptr 28 0))),(8,ent 27 (.one (.ptr 24 0))),(7,ent 23 (.one (.ptr 20 0))),(5,ent 9 (.one (.ptr 0 0))),(4,ent 8 (.one (I r)))]
  M _ := fdM l0 l1 h0 h1 e0 e1 e2 e3 e4 e5 e6 e7
  out b := .leaf (.exit 0) [(13,ent 61 (.one (I b))),(11,ent 56 (.one (I n))),(10,ent 31 (.one (.ptr 28 0))),(8,ent 27 (.one (.ptr 24 0))),(7,ent 23 (.one (.ptr 20 0)))] (fdM l0 l1 h0 h1 e0 e1 e2 e3 e4 e5 e6 e7)
  fin s := bsF (fdP l0 l1 h0 h1 n e0 e1 e2 e3 e4 e5 e6 r) s
  next s _ := bsN (fdP l0 l1 h0 h1 n e0 e1 e2 e3 e4 e5 e6 r) s
  J s := 0 ≤ s.1 ∧ s.1 ≤ s.2 ∧ s.2 ≤ n ∧ n ≤ 1000000000000
  μ s := (s.2 - s.1).toNat
section
variable (l0 l1 h0 h1 n e0 e1 e2 e3 e4 e5 e6:Int) (e7:Bool) (r:Int) (s:Int × Int)
def JrP:Prop:=
 decide (IntKind.i64.wrap (s.snd - s.fst) > 1) = true
def JqG:Int:=
 ((fdF l0 l1 h0 h1 n e0 e1 e2 e3 e4 e5 e6 e7 r).next s 0).fst
def JrT:Int:=
 ((fdF l0 l1 h0 h1 n e0 e1 e2 e3 e4 e5 e6 e7 r).next s 0).snd
def Juh:Int:=
 (fdF l0 l1 h0 h1 n e0 e1 e2 e3 e4 e5 e6 e7 r).fin s
def JWo:Int:=
 IntKind.i64.wrap ((IntKind.i64.wrap (s.fst + s.snd)).tdiv 2)
def JV1:List Prop:=
 [JrP s → IntKind.i64.wrap (2 * n) ≠ 0,JrP s → (0 ≤ JqG l0 l1 h0 h1 n e0 e1 e2 e3 e4 e5 e6 e7 r s ∧ JqG l0 l1 h0 h1 n e0 e1 e2 e3 e4 e5 e6 e7 r s ≤ JrT l0 l1 h0 h1 n e0 e1 e2 e3 e4 e5 e6 e7 r s ∧ JrT l0 l1 h0 h1 n e0 e1 e2 e3 e4 e5 e6 e7 r s ≤ n ∧ n ≤ 1000000000000) ∧ (fdF l0 l1 h0 h1 n e0 e1 e2 e3 e4 e5 e6 e7 r).μ ((fdF l0 l1 h0 h1 n e0 e1 e2 e3 e4 e5 e6 e7 r).next s 0) < (fdF l0 l1 h0 h1 n e0 e1 e2 e3 e4 e5 e6 e7 r).μ s ∧ (fdF l0 l1 h0 h1 n e0 e1 e2 e3 e4 e5 e6 e7 r).fin ((fdF l0 l1 h0 h1 n e0 e1 e2 e3 e4 e5 e6 e7 r).next s 0) = Juh l0 l1 h0 h1 n e0 e1 e2 e3 e4 e5 e6 e7 r s ∧ (JrT l0 l1 h0 h1 n e0 e1 e2 e3 e4 e5 e6 e7 r s = bif X9 e0 e1 e2 e3 e4 e5 e6 (ZP l0 h0 (JWo s) n) (ZP l1 h1 (JWo s) n) r then JWo s else s.snd) ∧ JqG l0 l1 h0 h1 n e0 e1 e2 e3 e4 e5 e6 e7 r s = bif X9 e0 e1 e2 e3 e4 e5 e6 (ZP l0 h0 (JWo s) n) (ZP l1 h1 (JWo s) n) r then s.fst else JWo s,decide (IntKind.i64.wrap (s.snd - s.fst) > 1) = false → Juh l0 l1 h0 h1 n e0 e1 e2 e3 e4 e5 e6 e7 r s = s.snd]
end
theorem Jqk (l0 l1 h0 h1 n e0 e1 e2 e3 e4 e5 e6:Int) (e7:Bool) (r:Int) (s:Int × Int) (hNeeds:∀ pN ∈ (JV1 l0 l1 h0 h1 n e0 e1 e2 e3 e4 e5 e6 e7 r s),pN):Q4 (Xh (fdF l0 l1 h0 h1 n e0 e1 e2 e3 e4 e5 e6 e7 r) (QW Tryz.prog (JB Ky) KE 121 0) 60 s) :=
  Q4.of (ps := (JV1 l0 l1 h0 h1 n e0 e1 e2 e3 e4 e5 e6 e7 r s)) (by kernel_rfl) (by kernel_rfl) hNeeds
theorem Jp1 (l0 l1 h0 h1 n e0 e1 e2 e3 e4 e5 e6:Int) (e7:Bool) (r:Int):Z1 (fdF l0 l1 h0 h1 n e0 e1 e2 e3 e4 e5 e6 e7 r) (QW Tryz.prog (JB Ky) KE 121 0) 60 := by
  intro s hJ
  obtain ⟨h0',h1',h2,h3⟩:0 ≤ s.1 ∧ s.1 ≤ s.2 ∧ s.2 ≤ n ∧ n ≤ 1000000000000 := hJ
  obtain ⟨w1,w2,w3⟩ := Jrq h0' h1' (by omega)
  have hk:JWo s = (s.1 + s.2).tdiv 2 := w2
  refine Jqk l0 l1 h0 h1 n e0 e1 e2 e3 e4 e5 e6 e7 r s ?_
  unfold JV1
  rw [hk]
  unfold JrP
  rw [w1]
  intro p hp
  simp only [List.mem_cons,List.not_mem_nil,or_false] at hp
  rcases hp with rfl | rfl | rfl
  · intro h
    have h:s.2 - s.1 > 1 := by simpa using h
    rw [Zy (by omega) (by omega)]
    omega
  · intro h
    have h:s.2 - s.1 > 1 := by simpa using h
    obtain ⟨b1,b2,b3,b4,b5⟩ := Jqg (P := fdP l0 l1 h0 h1 n e0 e1 e2 e3 e4 e5 e6 r) h0' h
    exact ⟨⟨b1,b2,Int.le_trans b3 h2,h3⟩,b4,b5,rfl,rfl⟩
  · intro h
    have h:¬ s.2 - s.1 > 1 := by simpa using h
    show bsF _ (s.1,s.2) = s.2
    exact Jm0 h
def fdL:QG := fun env mem m => match Wb env 13,Wb env 11,JHg mem 20,JHg mem 24,JbI mem 0,Wb env 4 with
  | some b,some n,some [l0,l1],some [h0,h1],some ([e0,e1,e2,e3,e4,e5,e6],e7),some r => zD (fdF l0 l1 h0 h1 n e0 e1 e2 e3 e4 e5 e6 e7 r) 60 (fun _ _ => some (bs0 b)) env mem m
  | _,_,_,_,_,_ => none
def Jte:FuncId → Nat → Option QG := JB6 KE 121 4 fdL
theorem Jb5:Known Tryz.prog (JB Ky) Jte := by
  refine Qf 0 JJX (by kernel_rfl) (Qs fun env mem m x h => ?_)
  unfold fdL at h
  have hlen:(QU Tryz.prog 121).length = 2 := by kernel_rfl
  split at h
  · exact ⟨_,XW (Qc X5 JJX (by omega)) (Jp1 _ _ _ _ _ _ _ _ _ _ _ _ _ _),h⟩
  · cases h
section
variable (P:Int → Int → Bool) (d z:Int) (full:Bool) (s:CvS)
def Jg2:Int:= bif full && Int.ofNat s.i == 0 then IntKind.i64.wrap (0 - s.a0) else JKX s.a0 s.a1 s.b0 s.b1 d z
def Jgd:Int:= bif full && Int.ofNat s.i == 0 then IntKind.i64.wrap (0 - s.a1) else JK4 s.a0 s.a1 s.b0 s.b1 d z
def rcN:CvS:=
  ⟨s.i + 1,bif P (Jg2 d z full s) (Jgd d z full s) then s.a0 else Jg2 d z full s,bif P (Jg2 d z full s) (Jgd d z full s) then s.a1 else Jgd d z full s,
    bif P (Jg2 d z full s) (Jgd d z full s) then Jg2 d z full s else s.b0,bif P (Jg2 d z full s) (Jgd d z full s) then Jgd d z full s else s.b1⟩
end
def rcv (P:Int → Int → Bool) (d z:Int) (full:Bool):Nat → CvS → Int × Int
  | 0,s => (s.b0,s.b1)
  | f + 1,s => bif JIG s.a0 s.a1 s.b0 s.b1 || full && Int.ofNat s.i == 0 then rcv P d z full f (rcN P d z full s) else (s.b0,s.b1)
def faP (f4 f5 e0 e1 e2 e3 e4 e5 e6 r u w:Int):Bool := X9 e0 e1 e2 e3 e4 e5 e6 (JI f4 u) (JI f5 w) r
def faM (f0 f1 f2 f3 f4 f5 f6:Int) (f7:Bool) (e0 e1 e2 e3 e4 e5 e6:Int) (e7:Bool):Jn := [Jtx 28 29,Jp4 10 11 f0 f1 f2 f3 f4 f5 f6 f7,Jp4 0 1 e0 e1 e2 e3 e4 e5 e6 e7]
def faF (z:Int) (f0 f1 f2 f3 f4 f5 f6:Int) (f7:Bool) (e0 e1 e2 e3 e4 e5 e6:Int) (e7:Bool) (r:Int):Fam CvS (Int × Int) where
  k := 60
  E s := [(19,ent 1000000000 (.one (I (Int.ofNat s.i)))),(18,ent 1046 (.one (.ptr 1043 0))),(17,ent 1042 (.one (.ptr 1039 0))),(15,ent 978 (.one (I z))),(10,ent 31 (.one (.ptr 28 0))),(6,ent 19 (.one (.ptr 10 0))),(5,ent 9 (.one (.ptr 0 0))),(4,ent 8 (.one (I r)))]
  M s := JpI 1043 1000000001 1000000002 s.b0 s.b1 :: JpI 1039 1000000003 1000000004 s.a0 s.a1 :: faM f0 f1 f2 f3 f4 f5 f6 f7 e0 e1 e2 e3 e4 e5 e6 e7
  out t := .leaf (.exit 2) [(18,ent 1046 (.one (.ptr 1043 0))),(10,ent 31 (.one (.ptr 28 0))),(6,ent 19 (.one (.ptr 10 0)))] (JpI 1043 1055 1056 t.1 t.2 :: faM f0 f1 f2 f3 f4 f5 f6 f7 e0 e1 e2 e3 e4 e5 e6 e7)
  fin s := rcv (faP f4 f5 e0 e1 e2 e3 e4 e5 e6 r) f6 z f7 (24 - s.i) s
  next s _ := rcN (faP f4 f5 e0 e1 e2 e3 e4 e5 e6 r) f6 z f7 s
  J s := s.i ≤ 24 ∧ XT z
  μ s := 24 - s.i
section
variable (z f0 f1 f2 f3 f4 f5 f6:Int) (f7:Bool) (e0 e1 e2 e3 e4 e5 e6:Int) (e7:Bool) (r:Int) (s:CvS)
def Jrr:Prop:=
 (decide (Int.ofNat s.i < 24) && (JIG s.a0 s.a1 s.b0 s.b1 || f7 && Int.ofNat s.i == 0)) = true
def Jud:Prop:=
 -9223372036854775808 ≤ z ∧ z < 9223372036854775808
def Jau:Int:=
 bif f7 && Int.ofNat s.i == 0 then IntKind.i64.wrap (0 - s.a0) else JKX s.a0 s.a1 s.b0 s.b1 f6 z
def JbN:Int:=
 bif f7 && Int.ofNat s.i == 0 then IntKind.i64.wrap (0 - s.a1) else JK4 s.a0 s.a1 s.b0 s.b1 f6 z
def JW0:List Prop:=
 [Jrr f7 s → Jud z,Jrr f7 s → (((faF z f0 f1 f2 f3 f4 f5 f6 f7 e0 e1 e2 e3 e4 e5 e6 e7 r).next s 0).i ≤ 24 ∧ Jud z) ∧ (faF z f0 f1 f2 f3 f4 f5 f6 f7 e0 e1 e2 e3 e4 e5 e6 e7 r).μ ((faF z f0 f1 f2 f3 f4 f5 f6 f7 e0 e1 e2 e3 e4 e5 e6 e7 r).next s 0) < (faF z f0 f1 f2 f3 f4 f5 f6 f7 e0 e1 e2 e3 e4 e5 e6 e7 r).μ s ∧ (faF z f0 f1 f2 f3 f4 f5 f6 f7 e0 e1 e2 e3 e4 e5 e6 e7 r).fin ((faF z f0 f1 f2 f3 f4 f5 f6 f7 e0 e1 e2 e3 e4 e5 e6 e7 r).next s 0) = (faF z f0 f1 f2 f3 f4 f5 f6 f7 e0 e1 e2 e3 e4 e5 e6 e7 r).fin s ∧ Int.ofNat ((faF z f0 f1 f2 f3 f4 f5 f6 f7 e0 e1 e2 e3 e4 e5 e6 e7 r).next s 0).i = IntKind.i64.wrap (Int.ofNat s.i + 1) ∧ (((faF z f0 f1 f2 f3 f4 f5 f6 f7 e0 e1 e2 e3 e4 e5 e6 e7 r).next s 0).b0 = bif X9 e0 e1 e2 e3 e4 e5 e6 (IntKind.i64.wrap (f4 + Jau z f6 f7 s)) (IntKind.i64.wrap (f5 + JbN z f6 f7 s)) r then Jau z f6 f7 s else s.b0) ∧ (((faF z f0 f1 f2 f3 f4 f5 f6 f7 e0 e1 e2 e3 e4 e5 e6 e7 r).next s 0).b1 = bif X9 e0 e1 e2 e3 e4 e5 e6 (IntKind.i64.wrap (f4 + Jau z f6 f7 s)) (IntKind.i64.wrap (f5 + JbN z f6 f7 s)) r then JbN z f6 f7 s else s.b1) ∧ (((faF z f0 f1 f2 f3 f4 f5 f6 f7 e0 e1 e2 e3 e4 e5 e6 e7 r).next s 0).a0 = bif X9 e0 e1 e2 e3 e4 e5 e6 (IntKind.i64.wrap (f4 + Jau z f6 f7 s)) (IntKind.i64.wrap (f5 + JbN z f6 f7 s)) r then s.a0 else Jau z f6 f7 s) ∧ ((faF z f0 f1 f2 f3 f4 f5 f6 f7 e0 e1 e2 e3 e4 e5 e6 e7 r).next s 0).a1 = bif X9 e0 e1 e2 e3 e4 e5 e6 (IntKind.i64.wrap (f4 + Jau z f6 f7 s)) (IntKind.i64.wrap (f5 + JbN z f6 f7 s)) r then s.a1 else JbN z f6 f7 s,(decide (Int.ofNat s.i < 24) && (JIG s.a0 s.a1 s.b0 s.b1 || f7 && Int.ofNat s.i == 0)) = false → ((faF z f0 f1 f2 f3 f4 f5 f6 f7 e0 e1 e2 e3 e4 e5 e6 e7 r).fin s).fst = s.b0 ∧ ((faF z f0 f1 f2 f3 f4 f5 f6 f7 e0 e1 e2 e3 e4 e5 e6 e7 r).fin s).snd = s.b1]
end
theorem Jqf (z f0 f1 f2 f3 f4 f5 f6:Int) (f7:Bool) (e0 e1 e2 e3 e4 e5 e6:Int) (e7:Bool) (r:Int) (s:CvS) (hNeeds:∀ pN ∈ (JW0 z f0 f1 f2 f3 f4 f5 f6 f7 e0 e1 e2 e3 e4 e5 e6 e7 r s),pN):Q4 (Xh (faF z f0 f1 f2 f3 f4 f5 f6 f7 e0 e1 e2 e3 e4 e5 e6 e7 r) (QW Tryz.prog (JB Ky) Jte 121 1) 1054 s) :=
  Q4.of (ps := (JW0 z f0 f1 f2 f3 f4 f5 f6 f7 e0 e1 e2 e3 e4 e5 e6 e7 r s)) (by kernel_rfl) (by kernel_rfl) hNeeds
theorem JhP (P:Int → Int → Bool) (d z:Int) (full:Bool) (s:CvS) (h:s.i < 24):rcv P d z full (24 - s.i) s = bif JIG s.a0 s.a1 s.b0 s.b1 || full && Int.ofNat s.i == 0 then rcv P d z full (24 - (s.i + 1)) (rcN P d z full s) else (s.b0,s.b1) := by
  have e:24 - s.i = (24 - (s.i + 1)) + 1 := by omega
  rw [e]; rfl
theorem Jp7 (z f0 f1 f2 f3 f4 f5 f6:Int) (f7:Bool) (e0 e1 e2 e3 e4 e5 e6:Int) (e7:Bool) (r:Int):Z1 (faF z f0 f1 f2 f3 f4 f5 f6 f7 e0 e1 e2 e3 e4 e5 e6 e7 r) (QW Tryz.prog (JB Ky) Jte 121 1) 1054 := by
  intro s hJ
  obtain ⟨hi,hz⟩:s.i ≤ 24 ∧ XT z := hJ
  refine Jqf z f0 f1 f2 f3 f4 f5 f6 f7 e0 e1 e2 e3 e4 e5 e6 e7 r s ?_
  unfold JW0
  intro p hp
  simp only [List.mem_cons,List.not_mem_nil,or_false] at hp
  have hw:IntKind.i64.wrap (Int.ofNat s.i + 1) = Int.ofNat (s.i + 1) := by
    rw [Zy (by simp; omega) (by simp; omega)]; rfl
  rcases hp with rfl | rfl | rfl
  · exact fun _ => hz
  · intro h0
    unfold Jrr at h0
    simp only [Bool.and_eq_true,decide_eq_true_eq] at h0
    obtain ⟨h1,h2⟩ := h0
    have hi':s.i < 24 := by simp at h1; omega
    have E1 := JhP (faP f4 f5 e0 e1 e2 e3 e4 e5 e6 r) f6 z f7 s hi'
    rw [h2,cond_true] at E1
    refine ⟨⟨by show s.i + 1 ≤ 24; omega,hz⟩,?_,E1.symm,hw.symm,rfl,rfl,rfl,rfl⟩
    show 24 - (s.i + 1) < 24 - s.i; omega
  · intro h
    have E2:(faF z f0 f1 f2 f3 f4 f5 f6 f7 e0 e1 e2 e3 e4 e5 e6 e7 r).fin s = (s.b0,s.b1) := by
      show rcv _ _ _ _ (24 - s.i) s = _
      by_cases hi':s.i < 24
      · have hd:decide (Int.ofNat s.i < 24) = true := by simp; omega
        rw [hd,Bool.true_and] at h
        rw [JhP _ _ _ _ _ hi',h]; rfl
      · have:24 - s.i = 0 := by omega
        rw [this]; rfl
    rw [E2]
    exact ⟨rfl,rfl⟩
def faL:QG := fun env mem m => match Wb env 15,JHg mem 1043,JHg mem 1039,JbI mem 10,JbI mem 0,Wb env 4 with
  | some z,some [b0,b1],some [a0,a1],some ([f0,f1,f2,f3,f4,f5,f6],f7),some ([e0,e1,e2,e3,e4,e5,e6],e7),some r => zD (faF z f0 f1 f2 f3 f4 f5 f6 f7 e0 e1 e2 e3 e4 e5 e6 e7 r) 1054 (fun _ _ => some (cv0 a0 a1 b0 b1)) env mem m
  | _,_,_,_,_,_ => none
def XL:FuncId → Nat → Option QG := JB6 Jte 121 16 faL
theorem JbH:Known Tryz.prog (JB Ky) XL := by
  refine Qf 1 Jb5 (by kernel_rfl) (Qs fun env mem m x h => ?_)
  unfold faL at h
  have hlen:(QU Tryz.prog 121).length = 2 := by kernel_rfl
  split at h
  · exact ⟨_,XW (Qc X5 Jb5 (by omega)) (Jp7 _ _ _ _ _ _ _ _ _ _ _ _ _ _ _ _ _ _),h⟩
  · cases h
def Yc (l0 l1 h0 h1:Int):Int :=
  if 0 - (h1 - l1) > (if h1 - l1 > (if 0 - (h0 - l0) > h0 - l0 then 0 - (h0 - l0) else h0 - l0) then h1 - l1 else (if 0 - (h0 - l0) > h0 - l0 then 0 - (h0 - l0) else h0 - l0)) then 0 - (h1 - l1) else (if h1 - l1 > (if 0 - (h0 - l0) > h0 - l0 then 0 - (h0 - l0) else h0 - l0) then h1 - l1 else (if 0 - (h0 - l0) > h0 - l0 then 0 - (h0 - l0) else h0 - l0))
theorem JmX {l0 l1 h0 h1:Int} (b0:bd 1048576 l0) (b1:bd 1048576 l1) (b2:bd 1048576 h0) (b3:bd 1048576 h1):Q9 l0 l1 h0 h1 = Yc l0 l1 h0 h1 ∧ 0 ≤ Yc l0 l1 h0 h1 ∧ Yc l0 l1 h0 h1 ≤ 2097152 ∧ bd (Yc l0 l1 h0 h1) (h0 - l0) ∧ bd (Yc l0 l1 h0 h1) (h1 - l1) := by
  have d0:J0 h0 l0 = h0 - l0 := XR (by omega) (by omega)
  have d1:J0 h1 l1 = h1 - l1 := XR (by omega) (by omega)
  unfold Q9 JDa JE6 Yc
  rw [d0,d1,Zy (x := 0 - (h0 - l0)) (by omega) (by omega),Zy (x := 0 - (h1 - l1)) (by omega) (by omega)]
  refine ⟨rfl,?_⟩
  repeat' split
  all_goals omega
def JF7:Tpl := ⟨[.agg [.int .i64,.int .i64,.int .i64,.int .i64,.int .i64,.int .i64,.int .i64,.bool],.agg [.int .i64,.int .i64,.int .i64,.int .i64,.int .i64,.int .i64,.int .i64,.bool],.agg [.int .i64,.int .i64],.agg [.int .i64,.int .i64],.one (.int .i64)],[],0⟩
section
variable (e0 e1 e2 e3 e4 e5 e6:Int) (e7:Bool) (f0 f1 f2 f3 f4 f5 f6:Int) (f7:Bool) (l0 l1 h0 h1 r:Int)
def JOQ:Int:=
 if IntKind.i64.wrap (l0 - h0) > IntKind.i64.wrap (h0 - l0) then IntKind.i64.wrap (l0 - h0) else IntKind.i64.wrap (h0 - l0)
def JOl:Int:=
 if IntKind.i64.wrap (h1 - l1) > JOQ l0 h0 then IntKind.i64.wrap (h1 - l1) else JOQ l0 h0
def Z6:Int:=
 if IntKind.i64.wrap (l1 - h1) > JOl l0 l1 h0 h1 then IntKind.i64.wrap (l1 - h1) else JOl l0 l1 h0 h1
def JNV:Int:=
 bif f6 == 0 then bif Z6 l0 l1 h0 h1 == 0 then h0 else ZP l0 h0 ((fdF l0 l1 h0 h1 (Z6 l0 l1 h0 h1) e0 e1 e2 e3 e4 e5 e6 e7 r).fin (bs0 (Z6 l0 l1 h0 h1))) (Z6 l0 l1 h0 h1) else IntKind.i64.wrap (f4 + ((faF (IntKind.i64.wrap (qH (J8 (JF f0 f2 f4 false) (JF f1 f3 f5 false) (JF f0 f2 f4 false) (JF f1 f3 f5 false)) 1 2 - IntKind.i64.wrap (f6 * r))) f0 f1 f2 f3 f4 f5 f6 f7 e0 e1 e2 e3 e4 e5 e6 e7 r).fin (cv0 (J0 l0 f4) (J0 l1 f5) (J0 h0 f4) (J0 h1 f5))).fst)
def JMi:Int:=
 bif f6 == 0 then bif Z6 l0 l1 h0 h1 == 0 then h1 else ZP l1 h1 ((fdF l0 l1 h0 h1 (Z6 l0 l1 h0 h1) e0 e1 e2 e3 e4 e5 e6 e7 r).fin (bs0 (Z6 l0 l1 h0 h1))) (Z6 l0 l1 h0 h1) else IntKind.i64.wrap (f5 + ((faF (IntKind.i64.wrap (qH (J8 (JF f0 f2 f4 false) (JF f1 f3 f5 false) (JF f0 f2 f4 false) (JF f1 f3 f5 false)) 1 2 - IntKind.i64.wrap (f6 * r))) f0 f1 f2 f3 f4 f5 f6 f7 e0 e1 e2 e3 e4 e5 e6 e7 r).fin (cv0 (J0 l0 f4) (J0 l1 f5) (J0 h0 f4) (J0 h1 f5))).snd)
def Jh5:Int:=
 IntKind.i64.wrap (qH (J8 (JF f0 f2 f4 false) (JF f1 f3 f5 false) (JF f0 f2 f4 false) (JF f1 f3 f5 false)) 1 2 - IntKind.i64.wrap (f6 * r))
def JDw:List Prop:=
 [(f6 == 0) = true → (0 ≤ (bs0 (Z6 l0 l1 h0 h1)).fst ∧ (bs0 (Z6 l0 l1 h0 h1)).fst ≤ (bs0 (Z6 l0 l1 h0 h1)).snd ∧ (bs0 (Z6 l0 l1 h0 h1)).snd ≤ Z6 l0 l1 h0 h1 ∧ Z6 l0 l1 h0 h1 ≤ 1000000000000) ∧ (bs0 (Z6 l0 l1 h0 h1)).snd = Z6 l0 l1 h0 h1 ∧ (bs0 (Z6 l0 l1 h0 h1)).fst = 0 ∧ ((Z6 l0 l1 h0 h1 == 0) = false → IntKind.i64.wrap (2 * Z6 l0 l1 h0 h1) ≠ 0),(f6 == 0) = false → (-9223372036854775808 ≤ J8 (JF f0 f2 f4 false) (JF f1 f3 f5 false) (JF f0 f2 f4 false) (JF f1 f3 f5 false) ∧ J8 (JF f0 f2 f4 false) (JF f1 f3 f5 false) (JF f0 f2 f4 false) (JF f1 f3 f5 false) < 9223372036854775808) ∧ ((cv0 (J0 l0 f4) (J0 l1 f5) (J0 h0 f4) (J0 h1 f5)).i ≤ 24 ∧ -9223372036854775808 ≤ Jh5 f0 f1 f2 f3 f4 f5 f6 r ∧ Jh5 f0 f1 f2 f3 f4 f5 f6 r < 9223372036854775808) ∧ Int.ofNat (cv0 (J0 l0 f4) (J0 l1 f5) (J0 h0 f4) (J0 h1 f5)).i = 0 ∧ (cv0 (J0 l0 f4) (J0 l1 f5) (J0 h0 f4) (J0 h1 f5)).b0 = J0 h0 f4 ∧ (cv0 (J0 l0 f4) (J0 l1 f5) (J0 h0 f4) (J0 h1 f5)).b1 = J0 h1 f5 ∧ (cv0 (J0 l0 f4) (J0 l1 f5) (J0 h0 f4) (J0 h1 f5)).a0 = J0 l0 f4 ∧ (cv0 (J0 l0 f4) (J0 l1 f5) (J0 h0 f4) (J0 h1 f5)).a1 = J0 l1 f5]
end
theorem JjF {f0:Int} {f1:Int} {f2:Int} {f3:Int} {f4:Int} {f5:Int} {f6:Int} {l0:Int} {l1:Int} {h0:Int} {h1:Int} {r:Int} (hW:∀ q ∈ ([bd 1048576 l0,bd 1048576 l1,bd 1048576 h0,bd 1048576 h1]:List Prop),q):∀ q ∈ (JDw f0 f1 f2 f3 f4 f5 f6 l0 l1 h0 h1 r),q := by
  simp only [awc,awn,and_true] at hW
  unfold JDw
  simp only [awc,awn,and_true]
  obtain ⟨b0,b1,b2,b3⟩ := hW
  have en:Z6 l0 l1 h0 h1 = Yc l0 l1 h0 h1 := by
    unfold Z6 JOl JOQ Yc
    rw [Zy (x := l0 - h0) (by omega) (by omega),Zy (x := h0 - l0) (by omega) (by omega),Zy (x := h1 - l1) (by omega) (by omega),Zy (x := l1 - h1) (by omega) (by omega),show l0 - h0 = 0 - (h0 - l0) by omega,show l1 - h1 = 0 - (h1 - l1) by omega]
  obtain ⟨_,n0,n1,_,_⟩ := JmX b0 b1 b2 b3
  rw [← en] at n0 n1
  refine ⟨fun _ => ⟨⟨Int.le_refl 0,n0,Int.le_refl _,by omega⟩,rfl,rfl,fun h => ?_⟩,fun _ => ⟨Jk _,⟨Nat.zero_le _,Jk _⟩,rfl,rfl,rfl,rfl,rfl⟩⟩
  rw [Zy (by omega) (by omega)]
  have:Z6 l0 l1 h0 h1 ≠ 0 := by simpa using h
  omega
theorem JiI (e0 e1 e2 e3 e4 e5 e6:Int) (e7:Bool) (f0 f1 f2 f3 f4 f5 f6:Int) (f7:Bool) (l0 l1 h0 h1 r:Int) (hNeeds:∀ pN ∈ (JDw f0 f1 f2 f3 f4 f5 f6 l0 l1 h0 h1 r),pN):Runs (Jr (JB Ky) XL 121) (JF7.args [.i e0,.i e1,.i e2,.i e3,.i e4,.i e5,.i e6,.b e7,.i f0,.i f1,.i f2,.i f3,.i f4,.i f5,.i f6,.b f7,.i l0,.i l1,.i h0,.i h1,.i r]) (JF7.memo [.i e0,.i e1,.i e2,.i e3,.i e4,.i e5,.i e6,.b e7,.i f0,.i f1,.i f2,.i f3,.i f4,.i f5,.i f6,.b f7,.i l0,.i l1,.i h0,.i h1,.i r] []) JF7.n (SV.agg [Ci (JNV e0 e1 e2 e3 e4 e5 e6 e7 f0 f1 f2 f3 f4 f5 f6 f7 l0 l1 h0 h1 r),Ci (JMi e0 e1 e2 e3 e4 e5 e6 e7 f0 f1 f2 f3 f4 f5 f6 f7 l0 l1 h0 h1 r)]) ([]) :=
  Runs.of1 (ps := (JDw f0 f1 f2 f3 f4 f5 f6 l0 l1 h0 h1 r)) (by kernel_rfl) hNeeds
def JRE:List Pm → Qm → Option CRes
  | [.i e0,.i e1,.i e2,.i e3,.i e4,.i e5,.i e6,.b e7,.i f0,.i f1,.i f2,.i f3,.i f4,.i f5,.i f6,.b f7,.i l0,.i l1,.i h0,.i h1,.i r],[] => some ⟨SV.agg [Ci (JNV e0 e1 e2 e3 e4 e5 e6 e7 f0 f1 f2 f3 f4 f5 f6 f7 l0 l1 h0 h1 r),Ci (JMi e0 e1 e2 e3 e4 e5 e6 e7 f0 f1 f2 f3 f4 f5 f6 f7 l0 l1 h0 h1 r)],
 [],[bd 1048576 l0,bd 1048576 l1,bd 1048576 h0,bd 1048576 h1],[],1149⟩
  | _,_ => none
theorem Jpx:Qg Tryz.prog 121 (JS JF7 JRE) := by
  refine JH (JD JbH 121) fun ps ls r hr hn _ => ?_
  unfold JRE at hr
  split at hr
  · cases hr; exact ⟨_,JiI _ _ _ _ _ _ _ _ _ _ _ _ _ _ _ _ _ _ _ _ _ (JjF (by exact hn)),fun _ => rfl⟩
  · cases hr
def Jcc:List (Nat × JY) := (121,JS JF7 JRE) :: Ky
theorem JSF:Known Tryz.prog (JB Jcc) XL := J7 JbH Jpx
theorem JMx (A B C D X:Int) (hX:X = A ∨ X = B ∨ X = C ∨ X = D):bd 1048576 (bif !QN A B || !QN C D then 0 else X) := by
  have hw:∀ a b,QN a b = (Jc a 1048576 && Jc b 1048576) := fun _ _ => rfl
  have z:bd 1048576 0 := by decide
  rw [hw,hw]
  cases hA:Jc A 1048576
  · exact z
  cases hB:Jc B 1048576
  · exact z
  cases hC:Jc C 1048576
  · exact z
  cases hD:Jc D 1048576
  · exact z
  have q:∀ {x},Jc x 1048576 = true → bd 1048576 x := fun h => (Wm (by omega) (by omega)).1 h
  rcases hX with rfl | rfl | rfl | rfl
  · exact q hA
  · exact q hB
  · exact q hC
  · exact q hD
theorem Jpu (e0 e1 e2 e3 e4 e5 e6 r:Int):bd 1048576 (KY e0 e1 e2 e3 e4 e5 e6 r) ∧ bd 1048576 (Ka e0 e1 e2 e3 e4 e5 e6 r) ∧ bd 1048576 (Xf e0 e1 e2 e3 e4 e5 e6 r) ∧ bd 1048576 (Xe e0 e1 e2 e3 e4 e5 e6 r) := by
  have z:bd 1048576 0 := by decide
  have key:∀ (p q:Bool) (x:Int),bd 1048576 x → bd 1048576 (bif p then bif q then 0 else x else x) := fun p q x h => by
    cases p <;> cases q <;> first | exact h | exact z
  refine ⟨key _ _ _ ?_,key _ _ _ ?_,key _ _ _ ?_,key _ _ _ ?_⟩
  · exact JMx _ _ _ _ _ (.inl rfl)
  · exact JMx _ _ _ _ _ (.inr (.inl rfl))
  · exact JMx _ _ _ _ _ (.inr (.inr (.inl rfl)))
  · exact JMx _ _ _ _ _ (.inr (.inr (.inr rfl)))
def JFS:Tpl := ⟨[.agg [.int .i64,.int .i64,.int .i64,.int .i64,.int .i64,.int .i64,.int .i64,.bool],.agg [.int .i64,.int .i64,.int .i64,.int .i64,.int .i64,.int .i64,.int .i64,.bool],.one (.int .i64)],[],0⟩
section
variable (e0 e1 e2 e3 e4 e5 e6:Int) (e7:Bool) (f0 f1 f2 f3 f4 f5 f6:Int) (f7:Bool) (r:Int)
def K1:Int:=
 JNV e0 e1 e2 e3 e4 e5 e6 e7 f0 f1 f2 f3 f4 f5 f6 f7 (KY f0 f1 f2 f3 f4 f5 f6 r) (Ka f0 f1 f2 f3 f4 f5 f6 r) (Xf f0 f1 f2 f3 f4 f5 f6 r) (Xe f0 f1 f2 f3 f4 f5 f6 r) r
def K9:Int:=
 JMi e0 e1 e2 e3 e4 e5 e6 e7 f0 f1 f2 f3 f4 f5 f6 f7 (KY f0 f1 f2 f3 f4 f5 f6 r) (Ka f0 f1 f2 f3 f4 f5 f6 r) (Xf f0 f1 f2 f3 f4 f5 f6 r) (Xe f0 f1 f2 f3 f4 f5 f6 r) r
def JOR:Int:=
 J8 (J0 (K1 e0 e1 e2 e3 e4 e5 e6 e7 f0 f1 f2 f3 f4 f5 f6 f7 r) (KY e0 e1 e2 e3 e4 e5 e6 r)) (J0 (K9 e0 e1 e2 e3 e4 e5 e6 e7 f0 f1 f2 f3 f4 f5 f6 f7 r) (Ka e0 e1 e2 e3 e4 e5 e6 r)) (J0 e2 e0) (J0 e3 e1)
def j5:Int:=
 bif QX e0 e1 e2 e3 e4 e5 e6 r != 0 then 0 else bif QX f0 f1 f2 f3 f4 f5 f6 r != 0 then 0 else bif !X9 e0 e1 e2 e3 e4 e5 e6 (Xf f0 f1 f2 f3 f4 f5 f6 r) (Xe f0 f1 f2 f3 f4 f5 f6 r) r then 0 else bif !QN (K1 e0 e1 e2 e3 e4 e5 e6 e7 f0 f1 f2 f3 f4 f5 f6 f7 r) (K9 e0 e1 e2 e3 e4 e5 e6 e7 f0 f1 f2 f3 f4 f5 f6 f7 r) then 0 else bif e6 == 0 then bif decide (JOR e0 e1 e2 e3 e4 e5 e6 e7 f0 f1 f2 f3 f4 f5 f6 f7 r ≤ 0) then 0 else K1 e0 e1 e2 e3 e4 e5 e6 e7 f0 f1 f2 f3 f4 f5 f6 f7 r else bif !QK (JF e0 e2 e4 false) (JF e1 e3 e5 false) (JF e0 e2 e4 true) (JF e1 e3 e5 true) (J0 (K1 e0 e1 e2 e3 e4 e5 e6 e7 f0 f1 f2 f3 f4 f5 f6 f7 r) e4) (J0 (K9 e0 e1 e2 e3 e4 e5 e6 e7 f0 f1 f2 f3 f4 f5 f6 f7 r) e5) e6 e7 || XF (JF e0 e2 e4 false) (JF e1 e3 e5 false) (J0 (K1 e0 e1 e2 e3 e4 e5 e6 e7 f0 f1 f2 f3 f4 f5 f6 f7 r) e4) (J0 (K9 e0 e1 e2 e3 e4 e5 e6 e7 f0 f1 f2 f3 f4 f5 f6 f7 r) e5) then 0 else K1 e0 e1 e2 e3 e4 e5 e6 e7 f0 f1 f2 f3 f4 f5 f6 f7 r
def j9:Int:=
 bif QX e0 e1 e2 e3 e4 e5 e6 r != 0 then 0 else bif QX f0 f1 f2 f3 f4 f5 f6 r != 0 then 0 else bif !X9 e0 e1 e2 e3 e4 e5 e6 (Xf f0 f1 f2 f3 f4 f5 f6 r) (Xe f0 f1 f2 f3 f4 f5 f6 r) r then 0 else bif !QN (K1 e0 e1 e2 e3 e4 e5 e6 e7 f0 f1 f2 f3 f4 f5 f6 f7 r) (K9 e0 e1 e2 e3 e4 e5 e6 e7 f0 f1 f2 f3 f4 f5 f6 f7 r) then 0 else bif e6 == 0 then bif decide (JOR e0 e1 e2 e3 e4 e5 e6 e7 f0 f1 f2 f3 f4 f5 f6 f7 r ≤ 0) then 0 else K9 e0 e1 e2 e3 e4 e5 e6 e7 f0 f1 f2 f3 f4 f5 f6 f7 r else bif !QK (JF e0 e2 e4 false) (JF e1 e3 e5 false) (JF e0 e2 e4 true) (JF e1 e3 e5 true) (J0 (K1 e0 e1 e2 e3 e4 e5 e6 e7 f0 f1 f2 f3 f4 f5 f6 f7 r) e4) (J0 (K9 e0 e1 e2 e3 e4 e5 e6 e7 f0 f1 f2 f3 f4 f5 f6 f7 r) e5) e6 e7 || XF (JF e0 e2 e4 false) (JF e1 e3 e5 false) (J0 (K1 e0 e1 e2 e3 e4 e5 e6 e7 f0 f1 f2 f3 f4 f5 f6 f7 r) e4) (J0 (K9 e0 e1 e2 e3 e4 e5 e6 e7 f0 f1 f2 f3 f4 f5 f6 f7 r) e5) then 0 else K9 e0 e1 e2 e3 e4 e5 e6 e7 f0 f1 f2 f3 f4 f5 f6 f7 r
def JDm:Int:=
 bif QX e0 e1 e2 e3 e4 e5 e6 r != 0 then QX e0 e1 e2 e3 e4 e5 e6 r else bif QX f0 f1 f2 f3 f4 f5 f6 r != 0 then QX f0 f1 f2 f3 f4 f5 f6 r else bif !X9 e0 e1 e2 e3 e4 e5 e6 (Xf f0 f1 f2 f3 f4 f5 f6 r) (Xe f0 f1 f2 f3 f4 f5 f6 r) r then 16 else bif !QN (K1 e0 e1 e2 e3 e4 e5 e6 e7 f0 f1 f2 f3 f4 f5 f6 f7 r) (K9 e0 e1 e2 e3 e4 e5 e6 e7 f0 f1 f2 f3 f4 f5 f6 f7 r) then 3 else bif e6 == 0 then bif decide (JOR e0 e1 e2 e3 e4 e5 e6 e7 f0 f1 f2 f3 f4 f5 f6 f7 r ≤ 0) then 16 else 0 else bif !QK (JF e0 e2 e4 false) (JF e1 e3 e5 false) (JF e0 e2 e4 true) (JF e1 e3 e5 true) (J0 (K1 e0 e1 e2 e3 e4 e5 e6 e7 f0 f1 f2 f3 f4 f5 f6 f7 r) e4) (J0 (K9 e0 e1 e2 e3 e4 e5 e6 e7 f0 f1 f2 f3 f4 f5 f6 f7 r) e5) e6 e7 || XF (JF e0 e2 e4 false) (JF e1 e3 e5 false) (J0 (K1 e0 e1 e2 e3 e4 e5 e6 e7 f0 f1 f2 f3 f4 f5 f6 f7 r) e4) (J0 (K9 e0 e1 e2 e3 e4 e5 e6 e7 f0 f1 f2 f3 f4 f5 f6 f7 r) e5) then 16 else 0
def JE9:List Prop:=
 [(QX e0 e1 e2 e3 e4 e5 e6 r != 0) = false → (QX f0 f1 f2 f3 f4 f5 f6 r != 0) = false → (!X9 e0 e1 e2 e3 e4 e5 e6 (Xf f0 f1 f2 f3 f4 f5 f6 r) (Xe f0 f1 f2 f3 f4 f5 f6 r) r) = false → (-1048576 ≤ KY f0 f1 f2 f3 f4 f5 f6 r ∧ KY f0 f1 f2 f3 f4 f5 f6 r ≤ 1048576) ∧ (-1048576 ≤ Ka f0 f1 f2 f3 f4 f5 f6 r ∧ Ka f0 f1 f2 f3 f4 f5 f6 r ≤ 1048576) ∧ (-1048576 ≤ Xf f0 f1 f2 f3 f4 f5 f6 r ∧ Xf f0 f1 f2 f3 f4 f5 f6 r ≤ 1048576) ∧ -1048576 ≤ Xe f0 f1 f2 f3 f4 f5 f6 r ∧ Xe f0 f1 f2 f3 f4 f5 f6 r ≤ 1048576]
end
theorem JiL {e0:Int} {e1:Int} {e2:Int} {e3:Int} {e4:Int} {e5:Int} {e6:Int} {f0:Int} {f1:Int} {f2:Int} {f3:Int} {f4:Int} {f5:Int} {f6:Int} {r:Int}:∀ q ∈ (JE9 e0 e1 e2 e3 e4 e5 e6 f0 f1 f2 f3 f4 f5 f6 r),q := by
  unfold JE9
  simp only [awc,awn,and_true]
  intro _ _ _
  exact Jpu _ _ _ _ _ _ _ _
theorem JjJ (e0 e1 e2 e3 e4 e5 e6:Int) (e7:Bool) (f0 f1 f2 f3 f4 f5 f6:Int) (f7:Bool) (r:Int) (hNeeds:∀ pN ∈ (JE9 e0 e1 e2 e3 e4 e5 e6 f0 f1 f2 f3 f4 f5 f6 r),pN):Runs (Jr (JB Jcc) XL 91) (JFS.args [.i e0,.i e1,.i e2,.i e3,.i e4,.i e5,.i e6,.b e7,.i f0,.i f1,.i f2,.i f3,.i f4,.i f5,.i f6,.b f7,.i r]) (JFS.memo [.i e0,.i e1,.i e2,.i e3,.i e4,.i e5,.i e6,.b e7,.i f0,.i f1,.i f2,.i f3,.i f4,.i f5,.i f6,.b f7,.i r] []) JFS.n (SV.tup [(true,[Ci (j5 e0 e1 e2 e3 e4 e5 e6 e7 f0 f1 f2 f3 f4 f5 f6 f7 r),Ci (j9 e0 e1 e2 e3 e4 e5 e6 e7 f0 f1 f2 f3 f4 f5 f6 f7 r)]),(false,[Ci (JDm e0 e1 e2 e3 e4 e5 e6 e7 f0 f1 f2 f3 f4 f5 f6 f7 r)])]) ([]) :=
  Runs.of1 (ps := (JE9 e0 e1 e2 e3 e4 e5 e6 f0 f1 f2 f3 f4 f5 f6 r)) (by kernel_rfl) hNeeds
def JRZ:List Pm → Qm → Option CRes
  | [.i e0,.i e1,.i e2,.i e3,.i e4,.i e5,.i e6,.b e7,.i f0,.i f1,.i f2,.i f3,.i f4,.i f5,.i f6,.b f7,.i r],[] => some ⟨SV.tup [(true,[Ci (j5 e0 e1 e2 e3 e4 e5 e6 e7 f0 f1 f2 f3 f4 f5 f6 f7 r),Ci (j9 e0 e1 e2 e3 e4 e5 e6 e7 f0 f1 f2 f3 f4 f5 f6 f7 r)]),(false,[Ci (JDm e0 e1 e2 e3 e4 e5 e6 e7 f0 f1 f2 f3 f4 f5 f6 f7 r)])],
 [],[],[],21877⟩
  | _,_ => none
theorem JrE:Qg Tryz.prog 91 (JS JFS JRZ) := by
  refine JH (JD JSF 91) fun ps ls r hr hn _ => ?_
  unfold JRZ at hr
  split at hr
  · cases hr; exact ⟨_,JjJ _ _ _ _ _ _ _ _ _ _ _ _ _ _ _ _ _ (fun p hp => JiL p hp),fun _ => rfl⟩
  · cases hr
def Je3:List (Nat × JY) := (91,JS JFS JRZ) :: Jcc
theorem JSs:Known Tryz.prog (JB Je3) XL := J7 JSF JrE
end
end Go.Proofs.YtmbfbhimdkjkoaaGreat
