/-
  Texts of one claim, laid together. Conditions: none.
-/
import Derived.Test.YtmbfbhimdkjkoaaGreatMe8157c9d
import Derived.Test.YtmbfbhimdkjkoaaGreatM4a7838e6
set_option linter.all false
set_option maxRecDepth 1000000
namespace Go.Proofs.YtmbfbhimdkjkoaaGreat
noncomputable section
open Go.SX Go.RowKit
structure St where
  l:List GC
  y:List GC
  a0:Int
  a1:Int
  tr:Bool
  op:Bool
  cl:Bool
  en:Bool
  mo:Bool
  la0:Int
  la1:Int
  la2:Int
  er:Int
  C:LL
def JYo:List GC := [.i 0,.i 0,.i 0,.i 0,.i 0,.i 0,.i 0,.i 0,.i 0,.i 0,.i 0,.i 0,.i 0,.b false,.i 0,.b false,.i 0,.i 0,.i 0,.i 0,.i 0,.b false]
def QJ:St := ⟨JYo,JYo,0,0,false,false,false,false,false,0,0,0,0,[]⟩
section
variable (g:Nat → Nat) (x:List GC) (s:St) (c o:Nat)
def Zm:St:= ⟨[.i (JGi x (J2 s.l) (J2 s.y) s.a0 s.a1 s.tr s.op s.cl s.en s.mo s.la0 s.la1 s.la2 s.er),.i (JHa x (J2 s.l) (J2 s.y) s.a0 s.a1 s.tr s.op s.cl s.en s.mo s.la0 s.la1 s.la2 s.er),.i (JHl x (J2 s.l) (J2 s.y) s.a0 s.a1 s.tr s.op s.cl s.en s.mo s.la0 s.la1 s.la2 s.er),.i (JGs x (J2 s.l) (J2 s.y) s.a0 s.a1 s.tr s.op s.cl s.en s.mo s.la0 s.la1 s.la2 s.er),.i (JGu x (J2 s.l) (J2 s.y) s.a0 s.a1 s.tr s.op s.cl s.en s.mo s.la0 s.la1 s.la2 s.er),.i (JHu x (J2 s.l) (J2 s.y) s.a0 s.a1 s.tr s.op s.cl s.en s.mo s.la0 s.la1 s.la2 s.er),.i (JHX x (J2 s.l) (J2 s.y) s.a0 s.a1 s.tr s.op s.cl s.en s.mo s.la0 s.la1 s.la2 s.er),.i (JH7 x (J2 s.l) (J2 s.y) s.a0 s.a1 s.tr s.op s.cl s.en s.mo s.la0 s.la1 s.la2 s.er),.i (JBL x (J2 s.l) (J2 s.y) s.a0 s.a1 s.tr s.op s.cl s.en s.mo s.la0 s.la1 s.la2 s.er),.i (JBz x (J2 s.l) (J2 s.y) s.a0 s.a1 s.tr s.op s.cl s.en s.mo s.la0 s.la1 s.la2 s.er),.i (JAU x (J2 s.l) (J2 s.y) s.a0 s.a1 s.tr s.op s.cl s.en s.mo s.la0 s.la1 s.la2 s.er),.i (JBP x (J2 s.l) (J2 s.y) s.a0 s.a1 s.tr s.op s.cl s.en s.mo s.la0 s.la1 s.la2 s.er),.i (JAc x (J2 s.l) (J2 s.y) s.a0 s.a1 s.tr s.op s.cl s.en s.mo s.la0 s.la1 s.la2 s.er),.b (JBN x (J2 s.l) (J2 s.y) s.a0 s.a1 s.tr s.op s.cl s.en s.mo s.la0 s.la1 s.la2 s.er),.i (JAT x (J2 s.l) (J2 s.y) s.a0 s.a1 s.tr s.op s.cl s.en s.mo s.la0 s.la1 s.la2 s.er),.b (JAf x (J2 s.l) (J2 s.y) s.a0 s.a1 s.tr s.op s.cl s.en s.mo s.la0 s.la1 s.la2 s.er),.i (JBQ x (J2 s.l) (J2 s.y) s.a0 s.a1 s.tr s.op s.cl s.en s.mo s.la0 s.la1 s.la2 s.er),.i (JBd x (J2 s.l) (J2 s.y) s.a0 s.a1 s.tr s.op s.cl s.en s.mo s.la0 s.la1 s.la2 s.er),.i (JC1 x (J2 s.l) (J2 s.y) s.a0 s.a1 s.tr s.op s.cl s.en s.mo s.la0 s.la1 s.la2 s.er),.i (JBy x (J2 s.l) (J2 s.y) s.a0 s.a1 s.tr s.op s.cl s.en s.mo s.la0 s.la1 s.la2 s.er),.i (JBT x (J2 s.l) (J2 s.y) s.a0 s.a1 s.tr s.op s.cl s.en s.mo s.la0 s.la1 s.la2 s.er),.b (JBF x (J2 s.l) (J2 s.y) s.a0 s.a1 s.tr s.op s.cl s.en s.mo s.la0 s.la1 s.la2 s.er)],
 [.i (JBO x (J2 s.l) (J2 s.y) s.a0 s.a1 s.tr s.op s.cl s.en s.mo s.la0 s.la1 s.la2 s.er),.i (JBv x (J2 s.l) (J2 s.y) s.a0 s.a1 s.tr s.op s.cl s.en s.mo s.la0 s.la1 s.la2 s.er),.i (JAI x (J2 s.l) (J2 s.y) s.a0 s.a1 s.tr s.op s.cl s.en s.mo s.la0 s.la1 s.la2 s.er),.i (JAt x (J2 s.l) (J2 s.y) s.a0 s.a1 s.tr s.op s.cl s.en s.mo s.la0 s.la1 s.la2 s.er),.i (JBJ x (J2 s.l) (J2 s.y) s.a0 s.a1 s.tr s.op s.cl s.en s.mo s.la0 s.la1 s.la2 s.er),.i (JBK x (J2 s.l) (J2 s.y) s.a0 s.a1 s.tr s.op s.cl s.en s.mo s.la0 s.la1 s.la2 s.er),.i (JBt x (J2 s.l) (J2 s.y) s.a0 s.a1 s.tr s.op s.cl s.en s.mo s.la0 s.la1 s.la2 s.er),.i (JAv x (J2 s.l) (J2 s.y) s.a0 s.a1 s.tr s.op s.cl s.en s.mo s.la0 s.la1 s.la2 s.er),.i (JB8 x (J2 s.l) (J2 s.y) s.a0 s.a1 s.tr s.op s.cl s.en s.mo s.la0 s.la1 s.la2 s.er),.i (JB4 x (J2 s.l) (J2 s.y) s.a0 s.a1 s.tr s.op s.cl s.en s.mo s.la0 s.la1 s.la2 s.er),.i (JBi x (J2 s.l) (J2 s.y) s.a0 s.a1 s.tr s.op s.cl s.en s.mo s.la0 s.la1 s.la2 s.er),.i (JAl x (J2 s.l) (J2 s.y) s.a0 s.a1 s.tr s.op s.cl s.en s.mo s.la0 s.la1 s.la2 s.er),.i (JAX x (J2 s.l) (J2 s.y) s.a0 s.a1 s.tr s.op s.cl s.en s.mo s.la0 s.la1 s.la2 s.er),.b (JAn x (J2 s.l) (J2 s.y) s.a0 s.a1 s.tr s.op s.cl s.en s.mo s.la0 s.la1 s.la2 s.er),.i (JAW x (J2 s.l) (J2 s.y) s.a0 s.a1 s.tr s.op s.cl s.en s.mo s.la0 s.la1 s.la2 s.er),.b (JAh x (J2 s.l) (J2 s.y) s.a0 s.a1 s.tr s.op s.cl s.en s.mo s.la0 s.la1 s.la2 s.er),.i (JBm x (J2 s.l) (J2 s.y) s.a0 s.a1 s.tr s.op s.cl s.en s.mo s.la0 s.la1 s.la2 s.er),.i (JAi x (J2 s.l) (J2 s.y) s.a0 s.a1 s.tr s.op s.cl s.en s.mo s.la0 s.la1 s.la2 s.er),.i (JBE x (J2 s.l) (J2 s.y) s.a0 s.a1 s.tr s.op s.cl s.en s.mo s.la0 s.la1 s.la2 s.er),.i (JAy x (J2 s.l) (J2 s.y) s.a0 s.a1 s.tr s.op s.cl s.en s.mo s.la0 s.la1 s.la2 s.er),.i (JBX x (J2 s.l) (J2 s.y) s.a0 s.a1 s.tr s.op s.cl s.en s.mo s.la0 s.la1 s.la2 s.er),.b (JAZ x (J2 s.l) (J2 s.y) s.a0 s.a1 s.tr s.op s.cl s.en s.mo s.la0 s.la1 s.la2 s.er)],
 JBk x (J2 s.l) (J2 s.y) s.a0 s.a1 s.tr s.op s.cl s.en s.mo s.la0 s.la1 s.la2 s.er,JAO x (J2 s.l) (J2 s.y) s.a0 s.a1 s.tr s.op s.cl s.en s.mo s.la0 s.la1 s.la2 s.er,JAY x (J2 s.l) (J2 s.y) s.a0 s.a1 s.tr s.op s.cl s.en s.mo s.la0 s.la1 s.la2 s.er,jJ x (J2 s.l) (J2 s.y) s.a0 s.a1 s.tr s.op s.cl s.en s.mo s.la0 s.la1 s.la2 s.er,s.cl,JAe x s.cl s.en s.mo s.la0 s.la1 s.la2 s.er,JBW x s.cl s.en s.mo s.la0 s.la1 s.la2 s.er,JAq x s.cl s.en s.mo s.la0 s.la1 s.la2 s.er,JBs x s.cl s.en s.mo s.la0 s.la1 s.la2 s.er,JBu x s.cl s.en s.mo s.la0 s.la1 s.la2 s.er,Y0 x (J2 s.l) (J2 s.y) s.a0 s.a1 s.tr s.op s.cl s.en s.mo s.la0 s.la1 s.la2 s.er s.C,Yu x (J2 s.l) (J2 s.y) s.a0 s.a1 s.tr s.op s.cl s.en s.mo s.la0 s.la1 s.la2 s.er s.C⟩
def Kv:LL:= KO x (J2 s.l) (J2 s.y) s.a0 s.a1 s.tr s.op s.cl s.en s.mo s.la0 s.la1 s.la2 s.er s.C []
def YU:Int:= Kq x (J2 s.l) (J2 s.y) s.a0 s.a1 s.tr s.op s.cl s.en s.mo s.la0 s.la1 s.la2 s.er s.C
def JKf:List (Nat × SC):= Jj9 g s.l s.y s.a0 s.a1 s.tr c s.op s.cl s.en s.mo s.la0 s.la1 s.la2 o s.er
end
theorem JeD (x:List GC) (C:LL):(JJp x C).length ≤ C.length := by
  unfold JJp
  repeat' first | exact Nat.le_refl _ | exact Nat.zero_le _ | refine Wz ?_ ?_
theorem Jao (x l y:List GC) (a0 a1:Int) (tr:Bool) (C:LL):(JGN x l y a0 a1 tr C).length ≤ C.length := by
  unfold JGN
  repeat' first | exact Nat.le_refl _ | exact Nat.zero_le _ | refine Wz ?_ ?_
theorem chA {C O:LL} {r:List Int}:(O ++ [r]).length ≤ O.length + C.length + 3 := by simp only [List.length_append,List.length_cons,List.length_nil]; omega
theorem Jgq (x l y:List GC) (a0 a1:Int) (tr op cl en mo:Bool) (la0 la1 la2:Int) (C O:LL):(KL x l y a0 a1 tr op cl en mo la0 la1 la2 C O).length ≤ O.length + C.length + 3 := by
  unfold KL
  repeat' first | exact chO | exact chA | exact Jaz .. | exact Jcm .. | refine Wz ?_ ?_
theorem Jgd (x l y:List GC) (a0 a1:Int) (tr op cl en mo:Bool) (la0 la1 la2:Int) (C:LL) (h:C.length ≤ 8):(j0 x l y a0 a1 tr op cl en mo la0 la1 la2 C).length ≤ 8 := by
  unfold j0
  repeat' first | exact h | exact Nat.le_trans (JeD ..) h | exact Nat.le_trans (Jao ..) h | exact JfW _ _ _ _ _ _ _ h | refine Wz ?_ ?_
theorem JCp (er:Int) (O:LL):(ZQ er O).length ≤ O.length := by
  unfold ZQ
  exact Wz (Nat.zero_le _) (Nat.le_refl _)
theorem JdV (x:List GC) (s:St) (h:s.C.length ≤ 8):(Zm x s).C.length ≤ 8 := by
  show (Yu ..).length ≤ 8
  unfold Yu
  exact Wz (Jgd _ _ _ _ _ _ _ _ _ _ _ _ _ _ h) h
theorem JKc (x:List GC) (s:St) (h:s.C.length ≤ 8):(Kv x s).length ≤ 11 := by
  unfold Kv KO
  refine Wz (Nat.le_trans (JCp ..) (Nat.le_trans (Jgq ..) ?_)) (Nat.le_trans (JCp ..) (Nat.zero_le _))
  simp only [List.length_nil]; omega
structure AS where
  i:Nat
  s:St
  R:LL
structure AT where
  bad:Bool
  i:Nat
  e:Int
  s:St
  R:LL
def apN (L:LL):Nat → AS → AT
  | 0,a => ⟨false,a.i,0,a.s,a.R⟩
  | k + 1,a => bif YU (Jj (L.getD a.i [])) a.s != 0 then ⟨true,a.i,YU (Jj (L.getD a.i [])) a.s,Zm (Jj (L.getD a.i [])) a.s,a.R⟩
    else apN L k ⟨a.i + 1,Zm (Jj (L.getD a.i [])) a.s,a.R ++ Kv (Jj (L.getD a.i [])) a.s⟩
def apG (k:Nat):Nat := 1000000100 + k
def apH (k:Nat):Nat := 180 + k
def j7 (L:LL):Fam AS AT where
  k := 200
  E a := [(16,ent 1000000000 (.one (I (Int.ofNat a.i)))),(15,ent 77 (.one (I (Int.ofNat L.length)))),(14,ent 76 (.one (.wh 0))),(6,ent 1000000001 (.one (.wh 160))),(5,ent 74 (.one (.ptr 7 0))),(0,ent 0 (.one (.wh 0)))]
  M a := [(7,.blk 66 (JKf apG a.s 170 171)),Ku 170 1000000200 a.s.C,Ku 171 1000000201 [],Ku 0 1 L,Ku 160 1000000202 a.R]
  out t := .ite t.bad (.leaf .ret [(2,ent 80 (.one .nilsl)),(3,ent 81 (.one (I (Int.ofNat t.i)))),(4,ent 82 (.one (I t.e)))] [Ku 0 1 L])
    (.leaf (.exit 0) [(6,ent 83 (.one (.wh 160))),(5,ent 74 (.one (.ptr 7 0))),(0,ent 0 (.one (.wh 0)))] [(7,.blk 66 (JKf apH t.s 170 171)),Ku 170 240 t.s.C,Ku 171 241 [],Ku 0 1 L,Ku 160 242 t.R])
  fin a := apN L (L.length - a.i) a
  next a _ := ⟨a.i + 1,Zm (Jj (L.getD a.i [])) a.s,a.R ++ Kv (Jj (L.getD a.i [])) a.s⟩
  J a := a.i ≤ L.length ∧ L.length ≤ 1000 ∧ a.s.C.length ≤ 8 ∧ a.R.length ≤ 11 * a.i
  μ a := L.length - a.i
section
variable (L:LL) (a:AS)
def JnY:Prop:= decide (Int.ofNat a.i < Int.ofNat L.length) = true
def JmL:Int:= Kq (Jj (L.getD (Int.ofNat a.i).toNat [])) (J2 a.s.l) (J2 a.s.y) a.s.a0 a.s.a1 a.s.tr a.s.op a.s.cl a.s.en a.s.mo a.s.la0 a.s.la1 a.s.la2 a.s.er a.s.C
def JnT:LL:= KO (Jj (L.getD (Int.ofNat a.i).toNat [])) (J2 a.s.l) (J2 a.s.y) a.s.a0 a.s.a1 a.s.tr a.s.op a.s.cl a.s.en a.s.mo a.s.la0 a.s.la1 a.s.la2 a.s.er a.s.C []
end
abbrev eqS (s s':St) (r:Prop):Prop := xi s.l 0 = xi s'.l 0 ∧ xi s.l 1 = xi s'.l 1 ∧ xi s.l 2 = xi s'.l 2 ∧ xi s.l 3 = xi s'.l 3 ∧ xi s.l 4 = xi s'.l 4 ∧ xi s.l 5 = xi s'.l 5 ∧ xi s.l 6 = xi s'.l 6 ∧ xi s.l 7 = xi s'.l 7 ∧ xi s.l 8 = xi s'.l 8 ∧ xi s.l 9 = xi s'.l 9 ∧ xi s.l 10 = xi s'.l 10 ∧ xi s.l 11 = xi s'.l 11 ∧ xi s.l 12 = xi s'.l 12 ∧ xb s.l 13 = xb s'.l 13 ∧ xi s.l 14 = xi s'.l 14 ∧ xb s.l 15 = xb s'.l 15 ∧ xi s.l 16 = xi s'.l 16 ∧ xi s.l 17 = xi s'.l 17 ∧ xi s.l 18 = xi s'.l 18 ∧ xi s.l 19 = xi s'.l 19 ∧ xi s.l 20 = xi s'.l 20 ∧ xb s.l 21 = xb s'.l 21 ∧ xi s.y 0 = xi s'.y 0 ∧ xi s.y 1 = xi s'.y 1 ∧ xi s.y 2 = xi s'.y 2 ∧ xi s.y 3 = xi s'.y 3 ∧ xi s.y 4 = xi s'.y 4 ∧ xi s.y 5 = xi s'.y 5 ∧ xi s.y 6 = xi s'.y 6 ∧ xi s.y 7 = xi s'.y 7 ∧ xi s.y 8 = xi s'.y 8 ∧ xi s.y 9 = xi s'.y 9 ∧ xi s.y 10 = xi s'.y 10 ∧ xi s.y 11 = xi s'.y 11 ∧ xi s.y 12 = xi s'.y 12 ∧ xb s.y 13 = xb s'.y 13 ∧ xi s.y 14 = xi s'.y 14 ∧ xb s.y 15 = xb s'.y 15 ∧ xi s.y 16 = xi s'.y 16 ∧ xi s.y 17 = xi s'.y 17 ∧ xi s.y 18 = xi s'.y 18 ∧ xi s.y 19 = xi s'.y 19 ∧ xi s.y 20 = xi s'.y 20 ∧ xb s.y 21 = xb s'.y 21 ∧ s.a0 = s'.a0 ∧ s.a1 = s'.a1 ∧ s.tr = s'.tr ∧ s.op = s'.op ∧ s.cl = s'.cl ∧ s.en = s'.en ∧ s.mo = s'.mo ∧ s.la0 = s'.la0 ∧ s.la1 = s'.la1 ∧ s.la2 = s'.la2 ∧ s.er = s'.er ∧ s.C = s'.C ∧ r
def JXF (L:LL) (a:AS):List Prop := [JnY L a → 0 ≤ Int.ofNat a.i ∧ (Int.ofNat a.i).toNat < L.length ∧ (Int.ofNat a.i).toNat < L.length ∧ a.s.C.length ≤ 1000 ∧ 0 ≤ 800000 ∧ ((JmL L a != 0) = false → (a.R.length + (JnT L a).length) * 176 ≤ 140737488355328 ∧ a.R.length + (JnT L a).length ≤ 9223372036854775807),JnY L a → ((JmL L a != 0) = true → (((j7 L).fin a).bad = true → Int.ofNat ((j7 L).fin a).i = Int.ofNat a.i ∧ ((j7 L).fin a).e = JmL L a) ∧ (((j7 L).fin a).bad = false → False)) ∧ ((JmL L a != 0) = false → (((j7 L).next a 1).i ≤ L.length ∧ L.length ≤ 1000 ∧ ((j7 L).next a 1).s.C.length ≤ 8 ∧ ((j7 L).next a 1).R.length ≤ 11 * ((j7 L).next a 1).i) ∧ (j7 L).μ ((j7 L).next a 1) < (j7 L).μ a ∧ (j7 L).fin ((j7 L).next a 1) = (j7 L).fin a ∧ Int.ofNat ((j7 L).next a 1).i = IntKind.i64.wrap (Int.ofNat a.i + 1) ∧ eqS ((j7 L).next a 1).s ((j7 L).next a 1).s (([]:LL) = [] ∧ ((j7 L).next a 1).R = a.R ++ JnT L a)),decide (Int.ofNat a.i < Int.ofNat L.length) = false → (((j7 L).fin a).bad = true → False) ∧ (((j7 L).fin a).bad = false → eqS ((j7 L).fin a).s a.s (([]:LL) = [] ∧ ((j7 L).fin a).R = a.R))]
theorem Jts (L:LL) (a:AS) (hNeeds:∀ pN ∈ (JXF L a),pN):Jz (XU (j7 L) (QU Tryz.prog (JB jk) JXS 12 0) 79 a) :=
  Jz.of (ps := (JXF L a)) (by kernel_rfl) (by kernel_rfl) hNeeds
theorem JiH {L:LL} {a:AS} (h:a.i < L.length):apN L (L.length - a.i) a = bif YU (Jj (L.getD a.i [])) a.s != 0 then ⟨true,a.i,YU (Jj (L.getD a.i [])) a.s,Zm (Jj (L.getD a.i [])) a.s,a.R⟩
    else apN L (L.length - (a.i + 1)) ⟨a.i + 1,Zm (Jj (L.getD a.i [])) a.s,a.R ++ Kv (Jj (L.getD a.i [])) a.s⟩ := by
  have e:L.length - a.i = (L.length - (a.i + 1)) + 1 := by omega
  rw [e]; rfl
theorem JoG (L:LL):Qv (j7 L) (QU Tryz.prog (JB jk) JXS 12 0) 79 := by
  intro a hJ
  obtain ⟨h1,h2,h3,h4⟩:a.i ≤ L.length ∧ L.length ≤ 1000 ∧ a.s.C.length ≤ 8 ∧ a.R.length ≤ 11 * a.i := hJ
  have lt:JnY L a → a.i < L.length := by unfold JnY; simp
  have ho := JKc (Jj (L.getD a.i [])) a.s h3
  have hc := JdV (Jj (L.getD a.i [])) a.s h3
  have e6:IntKind.i64.wrap (Int.ofNat a.i + 1) = Int.ofNat (a.i + 1) := X7 (by simp; omega) (by simp; omega)
  refine Jts L a ?_
  unfold JXF
  simp only [awc,awn,and_true]
  have all {p q:Prop} (h:p) (k:q):p ∧ q := ⟨h,k⟩
  have e0 (h:a.i < L.length) (hb:(YU (Jj (L.getD a.i [])) a.s != 0) = true):(j7 L).fin a = ⟨true,a.i,YU (Jj (L.getD a.i [])) a.s,Zm (Jj (L.getD a.i [])) a.s,a.R⟩ := by
    show apN L (L.length - a.i) a = _
    rw [JiH h,hb]; rfl
  refine ⟨fun h => ⟨by simp,lt h,lt h,by omega,by omega,fun _ => ?_⟩,fun h => ⟨fun hb => ⟨fun _ => ?_,fun hf => ?_⟩,fun hb => ⟨⟨?_,h2,hc,?_⟩,?_,?_,e6.symm,?_⟩⟩,fun h => ?_⟩
  · have ho':(JnT L a).length ≤ 11 := ho
    omega
  · rw [e0 (lt h) hb]; exact ⟨rfl,rfl⟩
  · rw [e0 (lt h) hb] at hf; cases hf
  · have := lt h
    show a.i + 1 ≤ _; omega
  · show (a.R ++ Kv (Jj (L.getD a.i [])) a.s).length ≤ 11 * (a.i + 1)
    rw [List.length_append]; omega
  · have := lt h
    show L.length - (a.i + 1) < L.length - a.i; omega
  · show apN L (L.length - (a.i + 1)) _ = apN L (L.length - a.i) a
    have hb':(YU (Jj (L.getD a.i [])) a.s != 0) = false := hb
    rw [JiH (lt h),hb']; rfl
  · repeat' first | refine ⟨by kernel_rfl,?_⟩ | kernel_rfl | exact trivial | refine ⟨trivial,?_⟩
  · have hi:a.i = L.length := by simp at h; omega
    have e:(j7 L).fin a = ⟨false,a.i,0,a.s,a.R⟩ := by
      show apN L (L.length - a.i) a = _
      rw [hi,Nat.sub_self]; unfold apN; rw [hi]
    rw [e]
    refine ⟨fun h => (by cases h),fun _ => ?_⟩
    repeat' first | refine ⟨by kernel_rfl,?_⟩ | kernel_rfl | exact trivial | refine ⟨trivial,?_⟩
def Jx4:QH := fun env mem m => match SX.JC mem 0 with
  | some (.row _ _ _ (.lst _ _ L)) => jY (j7 L) 79 (fun _ _ => some ⟨0,QJ,[]⟩) env mem m
  | _ => none
def JYK:FuncId → Nat → Option QH := JBZ JXS 12 4 Jx4
theorem Jcb:Known Tryz.prog (JB jk) JYK := by
  refine Qj 0 JLG (by kernel_rfl) (Qy fun env mem m x h => ?_)
  unfold Jx4 at h
  have hlen:(QZ Tryz.prog 12).length = 1 := by kernel_rfl
  split at h
  · exact ⟨_,XF (Qa Zy JLG (by omega)) (JoG _),h⟩
  · cases h
section
variable (L:LL)
def apT:AT:= (j7 L).fin (AS.mk 0 QJ [])
def apC:Int:= XQ (apT L).s.op (apT L).s.cl (apT L).s.er
def apI:Int:= bif (apT L).bad then Int.ofNat (apT L).i else bif apC L != 0 then Int.ofNat L.length else Int.ofNat L.length
def apE:Int:= bif (apT L).bad then (apT L).e else bif apC L != 0 then apC L else 0
def apO:LL:= bif (apT L).bad then [] else bif apC L != 0 then [] else (apT L).R ++ Xg (apT L).s.op (apT L).s.cl (apT L).s.er []
end
theorem Jvh (L:LL):∀ (k:Nat) (a:AS),a.s.C.length ≤ 8 → (apN L k a).R.length ≤ a.R.length + 11 * k ∧ (apN L k a).s.C.length ≤ 8
  | 0,a,h => ⟨Nat.le_refl _,h⟩
  | k + 1,a,h => by
    have ho := JKc (Jj (L.getD a.i [])) a.s h
    have hc := JdV (Jj (L.getD a.i [])) a.s h
    unfold apN
    cases hb:YU (Jj (L.getD a.i [])) a.s != 0
    · have := Jvh L k ⟨a.i + 1,Zm (Jj (L.getD a.i [])) a.s,a.R ++ Kv (Jj (L.getD a.i [])) a.s⟩ hc
      rw [cond_false]
      simp only [List.length_append] at this
      exact ⟨by omega,this.2⟩
    · exact ⟨by show a.R.length ≤ _; omega,hc⟩
def Wf:Tpl := ⟨[.one (.wh 0)],[(0,.row false 40 22 1 jH)],2⟩
section
variable (L:LL)
def JuN:Int:= bif ((j7 L).fin (AS.mk 0 QJ [])).bad then Int.ofNat ((j7 L).fin (AS.mk 0 QJ [])).i else bif XQ ((j7 L).fin (AS.mk 0 QJ [])).s.op ((j7 L).fin (AS.mk 0 QJ [])).s.cl ((j7 L).fin (AS.mk 0 QJ [])).s.er != 0 then Int.ofNat L.length else Int.ofNat L.length
def JhV:Int:= XQ ((j7 L).fin (AS.mk 0 QJ [])).s.op ((j7 L).fin (AS.mk 0 QJ [])).s.cl ((j7 L).fin (AS.mk 0 QJ [])).s.er
def Jud:Int:= bif ((j7 L).fin (AS.mk 0 QJ [])).bad then ((j7 L).fin (AS.mk 0 QJ [])).e else bif JhV L != 0 then JhV L else 0
def JuQ:LL:= bif ((j7 L).fin (AS.mk 0 QJ [])).bad then [] else bif XQ ((j7 L).fin (AS.mk 0 QJ [])).s.op ((j7 L).fin (AS.mk 0 QJ [])).s.cl ((j7 L).fin (AS.mk 0 QJ [])).s.er != 0 then [] else ((j7 L).fin (AS.mk 0 QJ [])).R ++ Xg ((j7 L).fin (AS.mk 0 QJ [])).s.op ((j7 L).fin (AS.mk 0 QJ [])).s.cl ((j7 L).fin (AS.mk 0 QJ [])).s.er []
def kB:List Prop:= [0 ≤ L.length ∧ L.length ≤ 1000 ∧ 0 ≤ 8 ∧ 0 ≤ 0,Int.ofNat 0 = 0,Int.ofNat 0 = 0,Int.ofNat 0 = 0,Int.ofNat 0 = 0,Int.ofNat 0 = 0,Int.ofNat 0 = 0,Int.ofNat 0 = 0,Int.ofNat 0 = 0,Int.ofNat 0 = 0,Int.ofNat 0 = 0,Int.ofNat 0 = 0,Int.ofNat 0 = 0,Int.ofNat 0 = 0,Int.ofNat 0 = 0,false = false,Int.ofNat 0 = 0,false = false,Int.ofNat 0 = 0,Int.ofNat 0 = 0,Int.ofNat 0 = 0,Int.ofNat 0 = 0,Int.ofNat 0 = 0,false = false,Int.ofNat 0 = 0,Int.ofNat 0 = 0,Int.ofNat 0 = 0,Int.ofNat 0 = 0,Int.ofNat 0 = 0,Int.ofNat 0 = 0,Int.ofNat 0 = 0,Int.ofNat 0 = 0,Int.ofNat 0 = 0,Int.ofNat 0 = 0,Int.ofNat 0 = 0,Int.ofNat 0 = 0,Int.ofNat 0 = 0,false = false,Int.ofNat 0 = 0,false = false,Int.ofNat 0 = 0,Int.ofNat 0 = 0,Int.ofNat 0 = 0,Int.ofNat 0 = 0,Int.ofNat 0 = 0,false = false,Int.ofNat 0 = 0,Int.ofNat 0 = 0,false = false,false = false,false = false,false = false,false = false,Int.ofNat 0 = 0,Int.ofNat 0 = 0,Int.ofNat 0 = 0,Int.ofNat 0 = 0,(AS.mk 0 QJ []).s.C = [],([]:LL) = [],(AS.mk 0 QJ []).R = [],((j7 L).fin (AS.mk 0 QJ [])).bad = false → (XQ ((j7 L).fin (AS.mk 0 QJ [])).s.op ((j7 L).fin (AS.mk 0 QJ [])).s.cl ((j7 L).fin (AS.mk 0 QJ [])).s.er != 0) = false → (((j7 L).fin (AS.mk 0 QJ [])).R.length + (Xg ((j7 L).fin (AS.mk 0 QJ [])).s.op ((j7 L).fin (AS.mk 0 QJ [])).s.cl ((j7 L).fin (AS.mk 0 QJ [])).s.er []).length) * 176 ≤ 140737488355328 ∧ ((j7 L).fin (AS.mk 0 QJ [])).R.length + (Xg ((j7 L).fin (AS.mk 0 QJ [])).s.op ((j7 L).fin (AS.mk 0 QJ [])).s.cl ((j7 L).fin (AS.mk 0 QJ [])).s.er []).length ≤ 9223372036854775807]
end
theorem Jm2 {L:LL} (hW:∀ q ∈ ([L.length ≤ 1000]:List Prop),q):∀ q ∈ (kB L),q := by
  simp only [awc,awn,and_true] at hW
  unfold kB
  simp only [awc,awn,and_true]
  have hr := (Jvh L (L.length - 0) ⟨0,QJ,[]⟩ (Nat.zero_le _)).1
  have e:(j7 L).fin (AS.mk 0 QJ []) = apN L (L.length - 0) ⟨0,QJ,[]⟩ := rfl
  have h46:∀ op cl er,(Xg op cl er []).length = 0 := fun op cl er => Nat.le_zero.1 (by unfold Xg; exact JCp ..)
  have hz:(AS.mk 0 QJ []).R.length = 0 := rfl
  refine ⟨⟨Nat.zero_le _,hW,by decide,by decide⟩,?_⟩
  repeat' first | refine ⟨by kernel_rfl,?_⟩ | kernel_rfl | exact trivial | (exact fun _ _ => by rw [h46,e]; omega) | refine ⟨rfl,?_⟩ | refine ⟨trivial,?_⟩
def Jmu := [CK.int IntKind.i64,CK.int IntKind.i64,CK.int IntKind.i64,CK.int IntKind.i64,CK.int IntKind.i64,CK.int IntKind.i64,CK.int IntKind.i64,CK.int IntKind.i64,CK.int IntKind.i64,CK.int IntKind.i64,CK.int IntKind.i64,CK.int IntKind.i64,CK.int IntKind.i64,CK.bool,CK.int IntKind.i64,CK.bool,CK.int IntKind.i64,CK.int IntKind.i64,CK.int IntKind.i64,CK.int IntKind.i64,CK.int IntKind.i64,CK.bool]
theorem JkT (L:LL) (hNeeds:∀ pN ∈ (kB L),pN):Runs (Js (JB jk) JYK 12) (Wf.args []) (Wf.memo [] [L]) Wf.n (SV.tup [(false,[SC.wh 499]),(false,[Ci (JuN L)]),(false,[Ci (Jud L)])]) ([(499,Obj.row false 40 22 (RowC.lst 498 Jmu (JuQ L))),(0,Obj.row false 40 22 (RowC.lst 1 Jmu L))]) :=
  Runs.of1 (ps := (kB L)) (by kernel_rfl) hNeeds
def JRn:List Pm → Qr → Option CRes
  | [],[L] => some ⟨SV.tup [(false,[SC.wh 499]),(false,[Ci ((apI L))]),(false,[Ci ((apE L))])],[(499,Obj.row false 40 22 (RowC.lst 498 Jmu ((apO L)))),(0,Obj.row false 40 22 (RowC.lst 1 Jmu L))],[L.length ≤ 1000],[],500⟩
  | _,_ => none
theorem JdC (L:LL) (hNeeds:∀ pN ∈ (kB L),pN):Runs (Js (JB jk) JYK 12) (Wf.args []) (Wf.memo [] [L]) Wf.n (SV.tup [(false,[SC.wh 499]),(false,[SC.int IntKind.i64 (SI.v ((apI L)))]),(false,[SC.int IntKind.i64 (SI.v ((apE L)))])])
    ([(499,
     Obj.row false 40 22
     (RowC.lst 498
     [CK.int IntKind.i64,CK.int IntKind.i64,CK.int IntKind.i64,CK.int IntKind.i64,CK.int IntKind.i64,CK.int IntKind.i64,CK.int IntKind.i64,CK.int IntKind.i64,CK.int IntKind.i64,
     CK.int IntKind.i64,CK.int IntKind.i64,CK.int IntKind.i64,CK.int IntKind.i64,CK.bool,CK.int IntKind.i64,CK.bool,CK.int IntKind.i64,CK.int IntKind.i64,CK.int IntKind.i64,
     CK.int IntKind.i64,CK.int IntKind.i64,CK.bool]
     ((apO L)))),
    (0,
     Obj.row false 40 22
     (RowC.lst 1
     [CK.int IntKind.i64,CK.int IntKind.i64,CK.int IntKind.i64,CK.int IntKind.i64,CK.int IntKind.i64,CK.int IntKind.i64,CK.int IntKind.i64,CK.int IntKind.i64,CK.int IntKind.i64,
     CK.int IntKind.i64,CK.int IntKind.i64,CK.int IntKind.i64,CK.int IntKind.i64,CK.bool,CK.int IntKind.i64,CK.bool,CK.int IntKind.i64,CK.int IntKind.i64,CK.int IntKind.i64,
     CK.int IntKind.i64,CK.int IntKind.i64,CK.bool]
     L))]) :=
  (JkT L hNeeds).to (by first | rfl | (simp only [])) (by first | rfl | (simp only []))
theorem JtA:Qk Tryz.prog 12 (JS Wf JRn) := by
  refine JH (JD Jcb 12) fun ps ls r hr hn _ => ?_
  unfold JRn at hr
  split at hr
  · cases hr; exact ⟨_,JdC _ (Jm2 (by exact hn)),fun _ => rfl⟩
  · cases hr
def Jey:List (Nat × JW) := (12,JS Wf JRn) :: jk
theorem JJB:Known Tryz.prog (JB Jey) JYK := J7 Jcb JtA
def jW:Tpl := ⟨[],[],0⟩
def JE8:List Prop := [4 ≤ 1000,true = true → 0 < 5,true = true → 0 < 5,true = true → 0 < 5,true = true → 1 < 5,true = true → 1 < 5,true = true → 1 < 5,true = true → 2 < 5,true = true → 2 < 5,true = true → 2 < 5,true = true → 2 < 5,true = true → 2 < 5,true = true → 2 < 5,true = true → 2 < 5,true = true → 2 < 5,true = true → 2 < 5,true = true → 3 < 5,true = true → 3 < 5,true = true → 3 < 5,true = true → 4 < 5,true = true → 4 < 5,true = true → 4 < 5]
theorem JVe:∀ q ∈ (JE8),q := by
  unfold JE8
  simp only [awc,awn,and_true]
  decide
theorem JYi (hNeeds:∀ pN ∈ (JE8),pN):Runs (Js (JB Jey) JYK 8) (jW.args []) (jW.memo [] []) jW.n (SV.one (Cb true)) ([]) :=
  Runs.of1 (ps := (JE8)) (by kernel_rfl) hNeeds
def JQi:List Pm → Qr → Option CRes
  | [],[] => some ⟨SV.one (Cb true),
 [],[],[],1018⟩
  | _,_ => none
theorem Js6:Qk Tryz.prog 8 (JS jW JQi) := by
  refine JH (JD JJB 8) fun ps ls r hr hn _ => ?_
  unfold JQi at hr
  split at hr
  · cases hr; exact ⟨_,JYi  (fun p hp => JVe p hp),fun _ => rfl⟩
  · cases hr
def JAP:List (Nat × JW) := (8,JS jW JQi) :: Jey
theorem JIB:Known Tryz.prog (JB JAP) JYK := J7 JJB Js6
theorem JDG (e:Int):Jp e = e := by
  unfold Jp
  cases h:(e != 0)
  · rw [cond_false]; exact (by simpa using h:e = 0).symm
  · rfl
theorem JPw (x l y:List GC) (a0 a1:Int) (tr op cl en mo:Bool) (la0 la1 la2 er:Int) (C:LL) :
    Kq x l y a0 a1 tr op cl en mo la0 la1 la2 er C = Y0 x l y a0 a1 tr op cl en mo la0 la1 la2 er C := by
  unfold Kq Y0
  rw [JDG,JDG]
theorem JYT (x:List GC) (s:St):YU x s = (Zm x s).er := JPw ..
theorem JTX (x:List GC) (s:St) (h:s.er ≠ 0):YU x s = s.er := by
  unfold YU
  rw [JPw]
  unfold Y0
  rw [show (s.er == 0) = false from by simpa using h]; rfl
theorem Jht (x:List GC) (s:St) (h:s.er ≠ 0):Kv x s = [] := by
  unfold Kv KO ZQ
  rw [show (s.er == 0) = false from by simpa using h,cond_false]
  cases s.er != 0 <;> rfl
theorem Jno (x:List GC) (s:St) (h:YU x s ≠ 0):Kv x s = [] := by
  unfold YU Kq at h
  unfold Kv KO ZQ
  cases he:s.er == 0
  · rw [cond_false]; cases s.er != 0 <;> rfl
  · rw [he,cond_true,JDG] at h
    rw [cond_true,show (Kr _ _ _ _ _ _ _ _ _ _ _ _ _ _ != 0) = true from by simpa using h]; rfl
theorem Jq2 {L:LL} (h:JOP L = true):L.length ≤ 120 := by
  unfold JOP at h
  have := of_decide_eq_true h
  simp at this
  omega
def JVQ (xs:LL) (tag:Nat):Jo := [Ku 0 2 xs,Ku 1 tag xs]
def JI0 (xs:LL):Fam Nat Unit where
  k := 10
  E j := [(5,ent 20 (.one (I (Int.ofNat j)))),(4,ent 4 (.one (.bool (.c false)))),(0,ent 0 (.one (.wh 0))),(1,ent 2 (.one (.wh 1)))]
  M _ := JVQ xs 21
  out _ := .leaf (.exit 0) [] (JVQ xs 21)
  fin _ := ()
  next j _ := j + 1
  J j := j ≤ xs.length ∧ xs.length ≤ 1000000
  μ j := xs.length - j
section
variable (xs:LL) (j:Nat)
def Jfq:Prop:= decide (Int.ofNat j < Int.ofNat xs.length) = true
def JNR:Int:= (xs.getD (Int.ofNat j).toNat []).getD 0 0
def JPH:Bool:= (xs.getD (Int.ofNat j).toNat []).getD 13 0 != 0
def JOa:Bool:= (xs.getD (Int.ofNat j).toNat []).getD 15 0 != 0
def JOU:Bool:= (xs.getD (Int.ofNat j).toNat []).getD 21 0 != 0
def JM6:List Prop:=
 [Jfq xs j → 0 ≤ Int.ofNat j ∧ (Int.ofNat j).toNat < xs.length ∧ (Int.ofNat j).toNat < xs.length ∧ 0 ≤ Int.ofNat j ∧ (Int.ofNat j).toNat < xs.length ∧ (Int.ofNat j).toNat < xs.length,Jfq xs j → ((!(JNR xs j == JNR xs j && ((xs.getD (Int.ofNat j).toNat []).getD 1 0 == (xs.getD (Int.ofNat j).toNat []).getD 1 0 && ((xs.getD (Int.ofNat j).toNat []).getD 2 0 == (xs.getD (Int.ofNat j).toNat []).getD 2 0 && ((xs.getD (Int.ofNat j).toNat []).getD 3 0 == (xs.getD (Int.ofNat j).toNat []).getD 3 0 && ((xs.getD (Int.ofNat j).toNat []).getD 4 0 == (xs.getD (Int.ofNat j).toNat []).getD 4 0 && ((xs.getD (Int.ofNat j).toNat []).getD 5 0 == (xs.getD (Int.ofNat j).toNat []).getD 5 0 && ((xs.getD (Int.ofNat j).toNat []).getD 6 0 == (xs.getD (Int.ofNat j).toNat []).getD 6 0 && ((xs.getD (Int.ofNat j).toNat []).getD 7 0 == (xs.getD (Int.ofNat j).toNat []).getD 7 0 && ((xs.getD (Int.ofNat j).toNat []).getD 8 0 == (xs.getD (Int.ofNat j).toNat []).getD 8 0 && ((xs.getD (Int.ofNat j).toNat []).getD 9 0 == (xs.getD (Int.ofNat j).toNat []).getD 9 0 && ((xs.getD (Int.ofNat j).toNat []).getD 10 0 == (xs.getD (Int.ofNat j).toNat []).getD 10 0 && ((xs.getD (Int.ofNat j).toNat []).getD 11 0 == (xs.getD (Int.ofNat j).toNat []).getD 11 0 && ((xs.getD (Int.ofNat j).toNat []).getD 12 0 == (xs.getD (Int.ofNat j).toNat []).getD 12 0 && (JPH xs j == JPH xs j && ((xs.getD (Int.ofNat j).toNat []).getD 14 0 == (xs.getD (Int.ofNat j).toNat []).getD 14 0 && (JOa xs j == JOa xs j && ((xs.getD (Int.ofNat j).toNat []).getD 16 0 == (xs.getD (Int.ofNat j).toNat []).getD 16 0 && ((xs.getD (Int.ofNat j).toNat []).getD 17 0 == (xs.getD (Int.ofNat j).toNat []).getD 17 0 && ((xs.getD (Int.ofNat j).toNat []).getD 18 0 == (xs.getD (Int.ofNat j).toNat []).getD 18 0 && ((xs.getD (Int.ofNat j).toNat []).getD 19 0 == (xs.getD (Int.ofNat j).toNat []).getD 19 0 && ((xs.getD (Int.ofNat j).toNat []).getD 20 0 == (xs.getD (Int.ofNat j).toNat []).getD 20 0 && JOU xs j == JOU xs j)))))))))))))))))))))) = true → False) ∧ ((!(JNR xs j == JNR xs j && ((xs.getD (Int.ofNat j).toNat []).getD 1 0 == (xs.getD (Int.ofNat j).toNat []).getD 1 0 && ((xs.getD (Int.ofNat j).toNat []).getD 2 0 == (xs.getD (Int.ofNat j).toNat []).getD 2 0 && ((xs.getD (Int.ofNat j).toNat []).getD 3 0 == (xs.getD (Int.ofNat j).toNat []).getD 3 0 && ((xs.getD (Int.ofNat j).toNat []).getD 4 0 == (xs.getD (Int.ofNat j).toNat []).getD 4 0 && ((xs.getD (Int.ofNat j).toNat []).getD 5 0 == (xs.getD (Int.ofNat j).toNat []).getD 5 0 && ((xs.getD (Int.ofNat j).toNat []).getD 6 0 == (xs.getD (Int.ofNat j).toNat []).getD 6 0 && ((xs.getD (Int.ofNat j).toNat []).getD 7 0 == (xs.getD (Int.ofNat j).toNat []).getD 7 0 && ((xs.getD (Int.ofNat j).toNat []).getD 8 0 == (xs.getD (Int.ofNat j).toNat []).getD 8 0 && ((xs.getD (Int.ofNat j).toNat []).getD 9 0 == (xs.getD (Int.ofNat j).toNat []).getD 9 0 && ((xs.getD (Int.ofNat j).toNat []).getD 10 0 == (xs.getD (Int.ofNat j).toNat []).getD 10 0 && ((xs.getD (Int.ofNat j).toNat []).getD 11 0 == (xs.getD (Int.ofNat j).toNat []).getD 11 0 && ((xs.getD (Int.ofNat j).toNat []).getD 12 0 == (xs.getD (Int.ofNat j).toNat []).getD 12 0 && (JPH xs j == JPH xs j && ((xs.getD (Int.ofNat j).toNat []).getD 14 0 == (xs.getD (Int.ofNat j).toNat []).getD 14 0 && (JOa xs j == JOa xs j && ((xs.getD (Int.ofNat j).toNat []).getD 16 0 == (xs.getD (Int.ofNat j).toNat []).getD 16 0 && ((xs.getD (Int.ofNat j).toNat []).getD 17 0 == (xs.getD (Int.ofNat j).toNat []).getD 17 0 && ((xs.getD (Int.ofNat j).toNat []).getD 18 0 == (xs.getD (Int.ofNat j).toNat []).getD 18 0 && ((xs.getD (Int.ofNat j).toNat []).getD 19 0 == (xs.getD (Int.ofNat j).toNat []).getD 19 0 && ((xs.getD (Int.ofNat j).toNat []).getD 20 0 == (xs.getD (Int.ofNat j).toNat []).getD 20 0 && JOU xs j == JOU xs j)))))))))))))))))))))) = false → ((JI0 xs).next j 1 ≤ xs.length ∧ xs.length ≤ 1000000) ∧ (JI0 xs).μ ((JI0 xs).next j 1) < (JI0 xs).μ j ∧ (JI0 xs).fin ((JI0 xs).next j 1) =
 (JI0 xs).fin j ∧ Int.ofNat ((JI0 xs).next j 1) = IntKind.i64.wrap (Int.ofNat j + 1))]
end
theorem Jjr (xs:LL) (j:Nat) (hNeeds:∀ pN ∈ (JM6 xs j),pN):Jz (XU (JI0 xs) (QU Tryz.prog (JB JAP) JYK 14 0) 12 j) :=
  Jz.of (ps := (JM6 xs j)) (by kernel_rfl) (by kernel_rfl) hNeeds
theorem Jgz (xs:LL):Qv (JI0 xs) (QU Tryz.prog (JB JAP) JYK 14 0) 12 := by
  rintro j ⟨h1,h2⟩
  refine Jjr xs j fun q hq => ?_
  unfold JM6 at hq
  simp only [List.mem_cons,List.not_mem_nil,or_false,Jfq,JNR,JPH,JOa,JOU] at hq
  rcases hq with rfl | rfl
  · intro h; simp at h ⊢; omega
  · intro h
    simp at h
    refine ⟨fun h => by simp at h,fun _ => ?_⟩
    have e1:IntKind.i64.wrap (Int.ofNat j + 1) = Int.ofNat (j + 1) := X7 (by simp; omega) (by simp; omega)
    simp only [JI0]
    exact ⟨⟨by omega,h2⟩,by omega,trivial,e1.symm⟩
def smF (A B:LL):Fam Nat Unit where
  k := 10
  E j := [(5,ent 20 (.one (I (Int.ofNat j)))),(4,ent 4 (.one (.bool (.c false)))),(0,ent 0 (.one (.sl 0 22 (.c 0) (.v B.length)))),(1,ent 2 (.one (.wh 1)))]
  M _ := [Ku 0 2 A,Ku 1 21 B]
  out _ := .leaf (.exit 0) [] [Ku 0 2 A,Ku 1 21 B]
  fin _ := ()
  next j _ := j + 1
  J j := j ≤ B.length ∧ B.length ≤ 1000000 ∧ A.take B.length = B
  μ j := B.length - j
def Jsg (B:LL) (j:Nat):Prop := decide (Int.ofNat j < Int.ofNat B.length) = true
def JXU (A B:LL) (j:Nat):List Prop :=
 [Jsg B j → 0 ≤ Int.ofNat j ∧ (Int.ofNat j).toNat < B.length ∧ (Int.ofNat j).toNat < A.length ∧ (Int.ofNat j).toNat < A.length ∧ 0 ≤ Int.ofNat j ∧ (Int.ofNat j).toNat < B.length ∧ (Int.ofNat j).toNat < B.length,Jsg B j → ((!((A.getD (Int.ofNat j).toNat []).getD 0 0 == (B.getD (Int.ofNat j).toNat []).getD 0 0 && ((A.getD (Int.ofNat j).toNat []).getD 1 0 == (B.getD (Int.ofNat j).toNat []).getD 1 0 && ((A.getD (Int.ofNat j).toNat []).getD 2 0 == (B.getD (Int.ofNat j).toNat []).getD 2 0 && ((A.getD (Int.ofNat j).toNat []).getD 3 0 == (B.getD (Int.ofNat j).toNat []).getD 3 0 && ((A.getD (Int.ofNat j).toNat []).getD 4 0 == (B.getD (Int.ofNat j).toNat []).getD 4 0 && ((A.getD (Int.ofNat j).toNat []).getD 5 0 == (B.getD (Int.ofNat j).toNat []).getD 5 0 && ((A.getD (Int.ofNat j).toNat []).getD 6 0 == (B.getD (Int.ofNat j).toNat []).getD 6 0 && ((A.getD (Int.ofNat j).toNat []).getD 7 0 == (B.getD (Int.ofNat j).toNat []).getD 7 0 && ((A.getD (Int.ofNat j).toNat []).getD 8 0 == (B.getD (Int.ofNat j).toNat []).getD 8 0 && ((A.getD (Int.ofNat j).toNat []).getD 9 0 == (B.getD (Int.ofNat j).toNat []).getD 9 0 && ((A.getD (Int.ofNat j).toNat []).getD 10 0 == (B.getD (Int.ofNat j).toNat []).getD 10 0 && ((A.getD (Int.ofNat j).toNat []).getD 11 0 == (B.getD (Int.ofNat j).toNat []).getD 11 0 && ((A.getD (Int.ofNat j).toNat []).getD 12 0 == (B.getD (Int.ofNat j).toNat []).getD 12 0 && (((A.getD (Int.ofNat j).toNat []).getD 13 0 != 0) == ((B.getD (Int.ofNat j).toNat []).getD 13 0 != 0) && ((A.getD (Int.ofNat j).toNat []).getD 14 0 == (B.getD (Int.ofNat j).toNat []).getD 14 0 && (((A.getD (Int.ofNat j).toNat []).getD 15 0 != 0) == ((B.getD (Int.ofNat j).toNat []).getD 15 0 != 0) && ((A.getD (Int.ofNat j).toNat []).getD 16 0 == (B.getD (Int.ofNat j).toNat []).getD 16 0 && ((A.getD (Int.ofNat j).toNat []).getD 17 0 == (B.getD (Int.ofNat j).toNat []).getD 17 0 && ((A.getD (Int.ofNat j).toNat []).getD 18 0 == (B.getD (Int.ofNat j).toNat []).getD 18 0 && ((A.getD (Int.ofNat j).toNat []).getD 19 0 == (B.getD (Int.ofNat j).toNat []).getD 19 0 && ((A.getD (Int.ofNat j).toNat []).getD 20 0 == (B.getD (Int.ofNat j).toNat []).getD 20 0 && ((A.getD (Int.ofNat j).toNat []).getD 21 0 != 0) == ((B.getD (Int.ofNat j).toNat []).getD 21 0 != 0))))))))))))))))))))))) = true → False) ∧ ((!((A.getD (Int.ofNat j).toNat []).getD 0 0 == (B.getD (Int.ofNat j).toNat []).getD 0 0 && ((A.getD (Int.ofNat j).toNat []).getD 1 0 == (B.getD (Int.ofNat j).toNat []).getD 1 0 && ((A.getD (Int.ofNat j).toNat []).getD 2 0 == (B.getD (Int.ofNat j).toNat []).getD 2 0 && ((A.getD (Int.ofNat j).toNat []).getD 3 0 == (B.getD (Int.ofNat j).toNat []).getD 3 0 && ((A.getD (Int.ofNat j).toNat []).getD 4 0 == (B.getD (Int.ofNat j).toNat []).getD 4 0 && ((A.getD (Int.ofNat j).toNat []).getD 5 0 == (B.getD (Int.ofNat j).toNat []).getD 5 0 && ((A.getD (Int.ofNat j).toNat []).getD 6 0 == (B.getD (Int.ofNat j).toNat []).getD 6 0 && ((A.getD (Int.ofNat j).toNat []).getD 7 0 == (B.getD (Int.ofNat j).toNat []).getD 7 0 && ((A.getD (Int.ofNat j).toNat []).getD 8 0 == (B.getD (Int.ofNat j).toNat []).getD 8 0 && ((A.getD (Int.ofNat j).toNat []).getD 9 0 == (B.getD (Int.ofNat j).toNat []).getD 9 0 && ((A.getD (Int.ofNat j).toNat []).getD 10 0 == (B.getD (Int.ofNat j).toNat []).getD 10 0 && ((A.getD (Int.ofNat j).toNat []).getD 11 0 == (B.getD (Int.ofNat j).toNat []).getD 11 0 && ((A.getD (Int.ofNat j).toNat []).getD 12 0 == (B.getD (Int.ofNat j).toNat []).getD 12 0 && (((A.getD (Int.ofNat j).toNat []).getD 13 0 != 0) == ((B.getD (Int.ofNat j).toNat []).getD 13 0 != 0) && ((A.getD (Int.ofNat j).toNat []).getD 14 0 == (B.getD (Int.ofNat j).toNat []).getD 14 0 && (((A.getD (Int.ofNat j).toNat []).getD 15 0 != 0) == ((B.getD (Int.ofNat j).toNat []).getD 15 0 != 0) && ((A.getD (Int.ofNat j).toNat []).getD 16 0 == (B.getD (Int.ofNat j).toNat []).getD 16 0 && ((A.getD (Int.ofNat j).toNat []).getD 17 0 == (B.getD (Int.ofNat j).toNat []).getD 17 0 && ((A.getD (Int.ofNat j).toNat []).getD 18 0 == (B.getD
 (Int.ofNat j).toNat []).getD 18 0 && ((A.getD (Int.ofNat j).toNat []).getD 19 0 == (B.getD (Int.ofNat j).toNat []).getD 19 0 && ((A.getD (Int.ofNat j).toNat []).getD 20 0 == (B.getD (Int.ofNat j).toNat []).getD 20 0 && ((A.getD (Int.ofNat j).toNat []).getD 21 0 != 0) == ((B.getD (Int.ofNat j).toNat []).getD 21 0 != 0))))))))))))))))))))))) = false → ((smF A B).next j 1 ≤ B.length ∧ B.length ≤ 1000000 ∧ List.take B.length A = B) ∧ (smF A B).μ ((smF A B).next j 1) < (smF A B).μ j ∧ (smF A B).fin ((smF A B).next j 1) = (smF A B).fin j ∧ Int.ofNat ((smF A B).next j 1) = IntKind.i64.wrap (Int.ofNat j + 1) ∧ B.length = B.length)]
theorem Jsh (A B:LL) (j:Nat) (hNeeds:∀ pN ∈ (JXU A B j),pN):Jz (XU (smF A B) (QU Tryz.prog (JB JAP) JYK 14 0) 12 j) :=
  Jz.of (ps := (JXU A B j)) (by kernel_rfl) (by kernel_rfl) hNeeds
theorem JpC (A B:LL):Qv (smF A B) (QU Tryz.prog (JB JAP) JYK 14 0) 12 := by
  rintro j ⟨h1,h2,hp⟩
  have hl:B.length ≤ A.length := by
    have := congrArg List.length hp
    rw [List.length_take] at this; omega
  have hj:j < B.length → A.getD j [] = B.getD j [] := fun h => by
    have h3:B.getD j [] = (A.take B.length).getD j [] := by rw [hp]
    rw [h3]
    simp [List.getD,List.getElem?_take,h]
  refine Jsh A B j fun q hq => ?_
  unfold JXU at hq
  simp only [List.mem_cons,List.not_mem_nil,or_false,Jsg] at hq
  have e0:(Int.ofNat j).toNat = j := rfl
  simp only [e0] at hq
  rcases hq with rfl | rfl
  · intro h; simp at h ⊢; omega
  · intro h
    simp at h
    rw [hj (by omega)]
    refine ⟨fun h => by simp at h,fun _ => ?_⟩
    have e1:IntKind.i64.wrap (Int.ofNat j + 1) = Int.ofNat (j + 1) := X7 (by simp; omega) (by simp; omega)
    simp only [smF]
    exact ⟨⟨by omega,h2,hp⟩,by omega,trivial,e1.symm,trivial⟩
def JvZ:QH := fun env mem m => match SX.JC env 0 with
  | some ⟨_,_,_,.one (.sl _ _ _ _)⟩ => (match SX.JC mem 0,SX.JC mem 1 with
    | some (.row _ _ _ (.lst _ _ A)),some (.row _ _ _ (.lst _ _ B)) => jY (smF A B) 12 (fun _ _ => some 0) env mem m
    | _,_ => none)
  | _ => (match JMB CKi env mem 0 with
    | some xs => jY (JI0 xs) 12 (fun _ _ => some 0) env mem m
    | none => none)
def YX:FuncId → Nat → Option QH := JBZ JYK 14 4 JvZ
theorem JIC:Known Tryz.prog (JB JAP) YX := by
  refine Qj 0 JIB (by kernel_rfl) (Qy fun env mem m x h => ?_)
  unfold JvZ at h
  have hlen:(QZ Tryz.prog 14).length = 1 := by kernel_rfl
  split at h
  · split at h
    · exact ⟨_,XF (Qa Zy JIB (by omega)) (JpC _ _),h⟩
    · cases h
  · split at h
    · exact ⟨_,XF (Qa Zy JIB (by omega)) (Jgz _),h⟩
    · cases h
def JC5:Tpl := ⟨[.one (.wh 0),.one (.wh 1)],[(0,.row false 40 22 2 CKi),(1,.row false 40 22 3 CKi)],4⟩
section
variable (xs ys:LL)
def Jn0:Bool:= !Int.ofNat xs.length != Int.ofNat ys.length
def JnC:LL:= bif Int.ofNat xs.length != Int.ofNat ys.length then ys else xs
def JEM:List Prop:= [(Int.ofNat xs.length != Int.ofNat ys.length) = false → (0 ≤ xs.length ∧ xs.length ≤ 1000000) ∧ Int.ofNat 0 = 0 ∧ xs = ys]
end
theorem Jlw {xs:LL} {ys:LL} (hW:∀ q ∈ ([xs = ys,xs.length ≤ 1000000]:List Prop),q):∀ q ∈ (JEM xs ys),q := by
  simp only [awc,awn,and_true] at hW
  intro q hq
  unfold JEM at hq
  simp only [List.mem_cons,List.not_mem_nil,or_false] at hq
  obtain ⟨rfl,h2⟩ := hW
  subst hq
  exact fun _ => ⟨⟨Nat.zero_le _,h2⟩,rfl,rfl⟩
theorem JlZ (xs ys:LL) (hNeeds:∀ pN ∈ (JEM xs ys),pN):Runs (Js (JB JAP) YX 14) (JC5.args []) (JC5.memo [] [xs,ys]) JC5.n (SV.one (Cb (Jn0 xs ys))) ([(0,Obj.row false 40 22 (RowC.lst 2 jH xs)),(1,Obj.row false 40 22 (RowC.lst 23 jH (JnC xs ys)))]) :=
  Runs.of1 (ps := (JEM xs ys)) (by kernel_rfl) hNeeds
def JKd:List Pm → Qr → Option CRes
  | [],[xs,ys] => some ⟨SV.one (SC.bool (SB.c true)),[Ku 0 2 xs,Ku 1 23 xs],[xs = ys,xs.length ≤ 1000000],[],30⟩
  | _,_ => none
theorem JhN:Qk Tryz.prog 14 (JS JC5 JKd) := by
  refine JH (JD JIC 14) fun ps ls r hr hn _ => ?_
  unfold JKd at hr
  split at hr
  · rename_i xs ys
    cases hr
    have h1:xs = ys := hn _ (by simp)
    have h2:xs.length ≤ 1000000 := hn _ (by simp)
    subst h1
    refine ⟨_,(JlZ xs xs (Jlw (by simp [h2]))).to rfl ?_,fun θ => ?_⟩
    · simp only [jH,Cb,JnC,Ku,CKi]
      cases (Int.ofNat xs.length != Int.ofNat xs.length) <;> rfl
    · simp [SV.den,SC.den,SB.val,Cb,Jn0]
  · cases hr
theorem JsG (m:Nat) (xs ys:LL) (h:∀ p ∈ [(Int.ofNat m != Int.ofNat ys.length) = false → (0 ≤ ys.length ∧ ys.length ≤ 1000000 ∧ xs.take ys.length = ys) ∧ Int.ofNat 0 = 0 ∧ ys.length = m ∧ ys = ys],p) :
    Runs (Js (JB JAP) YX 14) [.one (.sl 0 22 (.c 0) (.v m)),.one (.wh 1)] [Ku 0 2 xs,Ku 1 3 ys] 4 (.one (.bool (.v (!(Int.ofNat m != Int.ofNat ys.length))))) [Ku 0 2 xs,Ku 1 23 (bif Int.ofNat m != Int.ofNat ys.length then ys else ys)] :=
  Runs.of1 (ps := _) (by kernel_rfl) h
def Jum:JW := fun vs mem n => match vs,mem,n with
  | [.one (.sl 0 22 (.c 0) (.v m)),.one (.wh 1)],[(0,.row false 40 22 (.lst 2 ks xs)),(1,.row false 40 22 (.lst 3 js ys))],4 =>
    bif WC ks CKi && WC js CKi then some ⟨.one (.bool (.c true)),[Ku 0 2 xs,Ku 1 23 ys],[m = ys.length,ys.length ≤ 1000000,xs.take ys.length = ys],[],30⟩ else none
  | _,_,_ => none
theorem Jmn:Qk Tryz.prog 14 Jum := by
  intro vs mem n r hr hn he hwf hids θ w hm
  unfold Jum at hr
  split at hr
  · rename_i m ks xs js ys
    cases hk:(WC ks CKi && WC js CKi)
    · rw [hk] at hr; cases hr
    rw [hk] at hr
    simp only [Bool.and_eq_true] at hk
    obtain rfl := KH hk.1
    obtain rfl := KH hk.2
    cases hr
    have h1:m = ys.length := hn _ (by simp)
    have h2:ys.length ≤ 1000000 := hn _ (by simp)
    have h3:xs.take ys.length = ys := hn _ (by simp)
    obtain ⟨r',q1,q2,q3,q4,q5⟩ := (JsG m xs ys (by simp [h1,h2,h3])).run
    have := JD JIC 14 _ _ _ r' q1 q2 q3 hwf hids θ w hm
    have e1:(Int.ofNat m != Int.ofNat ys.length) = false := by rw [h1]; simp
    rw [q4,q5,e1] at this
    exact this
  · cases hr
def Ju2:List (Nat × JW) := (14,orS (JS JC5 JKd) Jum) :: JAP
theorem JbM:Known Tryz.prog (JB Ju2) YX := J7 JIC (JJN JhN Jmn)
def JGD:Tpl := ⟨[.one (.int .i64),.one (.int .i64)],[],0⟩
theorem JkG (a b:Int):Runs (Js (JB Ju2) YX 110) (JGD.args [.i a,.i b]) (JGD.memo [.i a,.i b] []) JGD.n (SV.one (Ci (Qi a b))) ([]) :=
  Runs.of1 (ps := []) (by kernel_rfl) (by simp)
def JRf:List Pm → Qr → Option CRes
  | [.i a,.i b],[] => some ⟨SV.one (Ci (Qi a b)),
 [],[],[],17⟩
  | _,_ => none
theorem Jqo:Qk Tryz.prog 110 (JS JGD JRf) := by
  refine JH (JD JbM 110) fun ps ls r hr hn _ => ?_
  unfold JRf at hr
  split at hr
  · cases hr; exact ⟨_,JkG _ _,fun _ => rfl⟩
  · cases hr
def Jcx:List (Nat × JW) := (110,JS JGD JRf) :: Ju2
theorem JT5:Known Tryz.prog (JB Jcx) YX := J7 JbM Jqo
def JOd:Tpl := ⟨[.one (.int .i64)],[],0⟩
theorem Jrm (a:Int):Runs (Js (JB Jcx) YX 140) (JOd.args [.i a]) (JOd.memo [.i a] []) JOd.n (SV.one (SC.int IntKind.u64 (SI.v (J6 a)))) ([]) :=
  Runs.of1 (ps := []) (by kernel_rfl) (by simp)
def JeE:List Pm → Qr → Option CRes
  | [.i a],[] => some ⟨SV.one (SC.int IntKind.u64 (SI.v (J6 a))),
 [],[],[],12⟩
  | _,_ => none
theorem JwL:Qk Tryz.prog 140 (JS JOd JeE) := by
  refine JH (JD JT5 140) fun ps ls r hr hn _ => ?_
  unfold JeE at hr
  split at hr
  · cases hr; exact ⟨_,Jrm _,fun _ => rfl⟩
  · cases hr
def Jr5:List (Nat × JW) := (140,JS JOd JeE) :: Jcx
theorem JbQ:Known Tryz.prog (JB Jr5) YX := J7 JT5 JwL
def JGM:Tpl := ⟨[.agg [.int .i64,.int .i64],.agg [.int .i64,.int .i64]],[],0⟩
theorem Jik (a b c d:Int):Runs (Js (JB Jr5) YX 79) (JGM.args [.i a,.i b,.i c,.i d]) (JGM.memo [.i a,.i b,.i c,.i d] []) JGM.n (SV.agg [Ci (J0 a c),Ci (J0 b d)]) ([]) :=
  Runs.of1 (ps := []) (by kernel_rfl) (by simp)
def JRG:List Pm → Qr → Option CRes
  | [.i a,.i b,.i c,.i d],[] => some ⟨SV.agg [Ci (J0 a c),Ci (J0 b d)],
 [],[],[],26⟩
  | _,_ => none
theorem Jtq:Qk Tryz.prog 79 (JS JGM JRG) := by
  refine JH (JD JbQ 79) fun ps ls r hr hn _ => ?_
  unfold JRG at hr
  split at hr
  · cases hr; exact ⟨_,Jik _ _ _ _,fun _ => rfl⟩
  · cases hr
def Je2:List (Nat × JW) := (79,JS JGM JRG) :: Jr5
theorem JSd:Known Tryz.prog (JB Je2) YX := J7 JbQ Jtq
def JCu:Tpl := ⟨[.agg [.int .i64,.int .i64],.agg [.int .i64,.int .i64]],[],0⟩
theorem Jh4 (a b c d:Int):Runs (Js (JB Je2) YX 82) (JCu.args [.i a,.i b,.i c,.i d]) (JCu.memo [.i a,.i b,.i c,.i d] []) JCu.n (SV.one (Ci (JE a b c d))) ([]) :=
  Runs.of1 (ps := []) (by kernel_rfl) (by simp)
def JMy:List Pm → Qr → Option CRes
  | [.i a,.i b,.i c,.i d],[] => some ⟨SV.one (Ci (JE a b c d)),
 [],[],[],21⟩
  | _,_ => none
theorem Jnw:Qk Tryz.prog 82 (JS JCu JMy) := by
  refine JH (JD JSd 82) fun ps ls r hr hn _ => ?_
  unfold JMy at hr
  split at hr
  · cases hr; exact ⟨_,Jh4 _ _ _ _,fun _ => rfl⟩
  · cases hr
def JWN:List (Nat × JW) := (82,JS JCu JMy) :: Je2
theorem JNJ:Known Tryz.prog (JB JWN) YX := J7 JSd Jnw
def JDK:Tpl := ⟨[.agg [.int .i64,.int .i64],.agg [.int .i64,.int .i64]],[],0⟩
theorem Jhy (a b c d:Int):Runs (Js (JB JWN) YX 80) (JDK.args [.i a,.i b,.i c,.i d]) (JDK.memo [.i a,.i b,.i c,.i d] []) JDK.n (SV.one (Ci (J8 a b c d))) ([]) :=
  Runs.of1 (ps := []) (by kernel_rfl) (by simp)
def JMN:List Pm → Qr → Option CRes
  | [.i a,.i b,.i c,.i d],[] => some ⟨SV.one (Ci (J8 a b c d)),
 [],[],[],21⟩
  | _,_ => none
theorem Jp3:Qk Tryz.prog 80 (JS JDK JMN) := by
  refine JH (JD JNJ 80) fun ps ls r hr hn _ => ?_
  unfold JMN at hr
  split at hr
  · cases hr; exact ⟨_,Jhy _ _ _ _,fun _ => rfl⟩
  · cases hr
def JFc:List (Nat × JW) := (80,JS JDK JMN) :: JWN
theorem JH0:Known Tryz.prog (JB JFc) YX := J7 JNJ Jp3
def JBx (id tag:Nat) (xs:Dg):Nat × SX.Obj := (id,.row false 140 1 (.lst tag [.int .u64] xs))
def JQY (n:Int):Fam Nat Unit where
  k := 20
  E j := [(3,ent 1000000000 (.one (.wh 4))),(0,ent 1000000001 (.one (U (n / 65536 ^ j))))]
  M j := [JBx 4 1000000002 (jD n j)]
  out _ := .leaf (.exit 0) [(3,ent 6 (.one (.wh 4)))] [JBx 4 7 (JA n)]
  fin _ := ()
  next j _ := j + 1
  J j := j ≤ nd n ∧ 0 ≤ n ∧ n < 18446744073709551616
  μ j := nd n - j
section
variable (n:Int) (j:Nat)
def JXv:Int:= n / 65536 ^ j
def Jj4:Prop:= decide (JXv n j > 0) = true
def JQO:List Prop:= [Jj4 n j → (List.length (jD n j) + 1) * 8 ≤ 140737488355328 ∧ List.length (jD n j) + 1 ≤ 9223372036854775807,Jj4 n j → ((JQY n).next j 0 ≤ nd n ∧ 0 ≤ n ∧ n < 18446744073709551616) ∧ (JQY n).μ ((JQY n).next j 0) < (JQY n).μ j ∧ (JQY n).fin ((JQY n).next j 0) = (JQY n).fin j ∧ n / 65536 ^ (JQY n).next j 0 = JU BinOp.shr IntKind.u64 (JXv n j) 16 ∧ jD n ((JQY n).next j 0) = jD n j ++ [[Zi BinOp.and IntKind.u64 (JXv n j) 65535]],decide (JXv n j > 0) = false → JA n = jD n j]
end
theorem JoZ (n:Int) (j:Nat) (hNeeds:∀ pN ∈ (JQO n j),pN):Jz (XU (JQY n) (QU Tryz.prog (JB JFc) YX 139 0) 2 j) :=
  Jz.of (ps := (JQO n j)) (by kernel_rfl) (by kernel_rfl) hNeeds
theorem JYg (n:Int):Qv (JQY n) (QU Tryz.prog (JB JFc) YX 139 0) 2 := by
  intro j hJ
  obtain ⟨h1,h2,h3⟩:j ≤ nd n ∧ 0 ≤ n ∧ n < 18446744073709551616 := hJ
  have h4 := (Y2 h2 h3 (j := 0) (by omega)).2
  have h5 := (Y2 h2 h3 (j := j) (by omega)).1
  obtain ⟨h6,h7⟩ := Jv3 h2 h3 j
  have e:JXv n j = n / 65536 ^ j := rfl
  refine JoZ n j fun q hq => ?_
  unfold JQO at hq
  simp only [List.mem_cons,List.not_mem_nil,or_false] at hq
  rcases hq with rfl | rfl | rfl
  · intro _
    rw [KX]; omega
  · intro h
    have h:0 < n / 65536 ^ j := by simpa [Jj4,e] using h
    have h8 := h5.1 h
    refine ⟨⟨by show j + 1 ≤ nd n; omega,h2,h3⟩,by show nd n - (j + 1) < nd n - j; omega,trivial,?_,?_⟩
    · rw [e,Jrt _ h6]; exact JfD n j
    · rw [e,JrX _ h6 h7]; exact Jc8 n j
  · intro h
    have h:¬ 0 < n / 65536 ^ j := by simpa [e] using h
    have:j = nd n := by
      rcases Nat.lt_or_ge j (nd n) with h8 | h8
      · exact absurd (h5.2 h8) h
      · omega
    rw [this]; rfl
def Jvl:QH := fun env mem m => match SX.JC env 0 with
  | some ⟨_,_,_,.one (.int .u64 (.v n))⟩ => jY (JQY n) 2 (fun _ _ => some 0) env mem m
  | some ⟨_,_,_,.one (.int .u64 (.c n))⟩ => jY (JQY n) 2 (fun _ _ => some 0) env mem m
  | _ => none
def JSx:FuncId → Nat → Option QH := JBZ YX 139 2 Jvl
theorem JVN:Known Tryz.prog (JB JFc) JSx := by
  refine Qj 0 JH0 (by kernel_rfl) (Qy fun env mem m x h => ?_)
  unfold Jvl at h
  have hlen:(QZ Tryz.prog 139).length = 1 := by kernel_rfl
  split at h
  · exact ⟨_,XF (Qa Zy JH0 (by omega)) (JYg _),h⟩
  · exact ⟨_,XF (Qa Zy JH0 (by omega)) (JYg _),h⟩
  · cases h
def JF6:Tpl := ⟨[.one (.int .u64)],[],0⟩
def JDt (n:Int):List Prop := [0 ≤ nd n ∧ 0 ≤ n ∧ n < 18446744073709551616,n / 1 = n,jD n 0 = []]
theorem JjY {n:Int} (hW:∀ q ∈ ([0 ≤ n,n < 18446744073709551616]:List Prop),q):∀ q ∈ (JDt n),q := by
  simp only [awc,awn,and_true] at hW
  intro q hq
  unfold JDt at hq
  simp only [List.mem_cons,List.not_mem_nil,or_false] at hq
  obtain ⟨h1,h2⟩ := hW
  rcases hq with rfl | rfl | rfl
  · exact ⟨Nat.zero_le _,h1,h2⟩
  · simp
  · rfl
theorem JkC (n:Int) (hNeeds:∀ pN ∈ (JDt n),pN):Runs (Js (JB JFc) JSx 139) (JF6.args [.i n]) (JF6.memo [.i n] []) JF6.n (SV.one (SC.wh 4)) ([(4,Obj.row false 140 1 (RowC.lst 7 [CK.int IntKind.u64] (JA n)))]) :=
  Runs.of1 (ps := (JDt n)) (by kernel_rfl) hNeeds
def JPM:List Pm → Qr → Option CRes
  | [.i n],[] => some ⟨SV.one (SC.wh 4),
 [(4,Obj.row false 140 1 (RowC.lst 7 [CK.int IntKind.u64] (JA n)))],[0 ≤ n,n < 18446744073709551616],[],24⟩
  | _,_ => none
theorem Jrb:Qk Tryz.prog 139 (JS JF6 JPM) := by
  refine JH (JD JVN 139) fun ps ls r hr hn _ => ?_
  unfold JPM at hr
  split at hr
  · cases hr; exact ⟨_,JkC _ (JjY (by exact hn)),fun _ => rfl⟩
  · cases hr
def JAK:List (Nat × JW) := (139,JS JF6 JPM) :: JFc
theorem JJd:Known Tryz.prog (JB JAK) JSx := J7 JVN Jrb
def JUN (xs:Dg):Fam Nat Unit where
  k := 20
  E j := [(0,ent 1000000000 (.one (.wh 5)))]
  M j := [JBx 5 1000000001 (xs.take j)]
  out _ := .leaf (.exit 0) [(0,ent 7 (.one (.wh 5)))] [JBx 5 8 (JEv xs)]
  fin _ := ()
  next j _ := j - 1
  J j := j ≤ xs.length ∧ JEZ xs j = JEZ xs xs.length ∧ xs.length ≤ 1000000
  μ j := j
section
variable (xs:Dg) (j:Nat)
def JN7:Bool:= decide (Int.ofNat (List.take j xs).length > 0)
def JD4:Int:= IntKind.i64.wrap (Int.ofNat (List.take j xs).length - 1)
def JdZ:Prop:= (JN7 xs j && ((List.take j xs).getD (JD4 xs j).toNat []).getD 0 0 == 0) = true
def JSJ:List Prop:= [JN7 xs j = true → 0 ≤ JD4 xs j,JN7 xs j = true → (JD4 xs j).toNat < (List.take j xs).length,JN7 xs j = true → (JD4 xs j).toNat < (List.take j xs).length,JdZ xs j → 0 ≤ JD4 xs j ∧ (JD4 xs j).toNat ≤ (List.take j xs).length,JdZ xs j → ((JUN xs).next j 0 ≤ List.length xs ∧ JEZ xs ((JUN xs).next j 0) = JEZ xs (List.length xs) ∧ List.length xs ≤ 1000000) ∧ (JUN xs).μ ((JUN xs).next j 0) < (JUN xs).μ j ∧ (JUN xs).fin ((JUN xs).next j 0) = (JUN xs).fin j ∧ List.take ((JUN xs).next j 0) xs = List.take (JD4 xs j).toNat (List.drop 0 (List.take j xs)),(JN7 xs j && ((List.take j xs).getD (JD4 xs j).toNat []).getD 0 0 == 0) = false → JEv xs = List.take j xs]
end
theorem Jp6 (xs:Dg) (j:Nat) (hNeeds:∀ pN ∈ (JSJ xs j),pN):Jz (XU (JUN xs) (QU Tryz.prog (JB JAK) JSx 164 0) 3 j) :=
  Jz.of (ps := (JSJ xs j)) (by kernel_rfl) (by kernel_rfl) hNeeds
theorem JkQ (xs:Dg):Qv (JUN xs) (QU Tryz.prog (JB JAK) JSx 164 0) 3 := by
  intro j hJ
  obtain ⟨h1,h2,h3⟩:j ≤ xs.length ∧ JEZ xs j = JEZ xs xs.length ∧ xs.length ≤ 1000000 := hJ
  have hl:(xs.take j).length = j := by rw [List.length_take]; omega
  have e0:JN7 xs j = decide (0 < j) := by unfold JN7; rw [hl]; simp
  have e1:0 < j → JD4 xs j = Int.ofNat (j - 1) := fun h => by
    unfold JD4
    rw [hl,X7 (by simp; omega) (by simp; omega)]
    simp; omega
  have e2:0 < j → ((xs.take j).getD (JD4 xs j).toNat []).getD 0 0 = dg xs (j - 1) := fun h => by
    rw [e1 h]
    show dg (xs.take j) (j - 1) = _
    rw [Jda,if_pos (by omega)]
  have e3:0 < j → JEZ xs j = bif dg xs (j - 1) == 0 then JEZ xs (j - 1) else j := fun h => by
    obtain ⟨m,rfl⟩:∃ m,j = m + 1 := ⟨j - 1,by omega⟩
    rfl
  have e4:JdZ xs j → 0 < j ∧ (dg xs (j - 1) == 0) = true := fun h => by
    unfold JdZ at h
    rw [Bool.and_eq_true,e0,decide_eq_true_eq] at h
    rw [e2 h.1] at h
    exact h
  refine Jp6 xs j fun q hq => ?_
  unfold JSJ at hq
  simp only [List.mem_cons,List.not_mem_nil,or_false] at hq
  rcases hq with rfl | rfl | rfl | rfl | rfl | rfl
  · intro h
    rw [e0,decide_eq_true_eq] at h
    rw [e1 h]; simp
  · intro h
    rw [e0,decide_eq_true_eq] at h
    rw [e1 h,hl]; simp; omega
  · intro h
    rw [e0,decide_eq_true_eq] at h
    rw [e1 h,hl]; simp; omega
  · intro h
    obtain ⟨h4,h5⟩ := e4 h
    rw [e1 h4,hl]; simp
  · intro h
    obtain ⟨h4,h5⟩ := e4 h
    refine ⟨⟨?_,?_,h3⟩,?_,trivial,?_⟩
    · show j - 1 ≤ _; omega
    · have := e3 h4
      rw [h5,cond_true] at this
      show JEZ xs (j - 1) = _
      rw [← this,h2]
    · show j - 1 < j; omega
    · rw [e1 h4,List.drop_zero,List.take_take]
      show xs.take (j - 1) = xs.take (min (j - 1) j)
      rw [Nat.min_eq_left (by omega)]
  · intro h
    unfold JEv
    rw [← h2]
    rcases Nat.eq_zero_or_pos j with h4 | h4
    · subst h4; rfl
    · rw [e2 h4,e0,decide_eq_true h4,Bool.true_and] at h
      rw [e3 h4,h,cond_false]
def Jvp:QH := fun env mem m => match JMB [.int .u64] env mem 0 with
  | some xs => jY (JUN xs) 3 (fun _ _ => some xs.length) env mem m
  | none => none
def Jvs:FuncId → Nat → Option QH := JBZ JSx 164 1 Jvp
theorem Jkf:Known Tryz.prog (JB JAK) Jvs := by
  refine Qj 0 JJd (by kernel_rfl) (Qy fun env mem m x h => ?_)
  unfold Jvp at h
  have hlen:(QZ Tryz.prog 164).length = 1 := by kernel_rfl
  split at h
  · exact ⟨_,XF (Qa Zy JJd (by omega)) (JkQ _),h⟩
  · cases h
def Jhl (A B:Dg):Jo := [JBx 0 2 A,JBx 1 3 B]
def JGc (A B:Dg):Fam Nat Int where
  k := 20
  E j := [(5,ent 1000000000 (.one (I (Int.ofNat j - 1)))),(0,ent 0 (.one (.wh 0))),(1,ent 2 (.one (.wh 1)))]
  M j := Jhl A B
  out t := .ite (decide (t < 0)) (.leaf .ret [(4,ent 24 (.one (.int .i64 (.c (-1)))))] (Jhl A B)) (.ite (decide (0 < t)) (.leaf .ret [(4,ent 25 (.one (.int .i64 (.c 1))))] (Jhl A B)) (.leaf (.exit 0) [] (Jhl A B)))
  fin j := JF7 A B j
  next j _ := j - 1
  J j := j ≤ A.length ∧ A.length = B.length ∧ A.length ≤ 1000000
  μ j := j
section
variable (A B:Dg) (j:Nat)
def Jf6:Prop:= decide (Int.ofNat j - 1 ≥ 0) = true
def JVH:Prop:= (Int.ofNat j - 1).toNat < List.length B
def JAB:Int:= (List.getD A (Int.ofNat j - 1).toNat []).getD 0 0
def Jko:Prop:= decide (JAB A j < JAB B j) = false
def JWi:Prop:= decide ((JGc A B).fin j < 0) = false
def Jdu:Prop:= decide (0 < (JGc A B).fin j) = true
def Jly:Prop:= decide (0 < (JGc A B).fin j) = false → False
def Jf8:Prop:= decide ((JGc A B).fin j < 0) = true
def JSa:List Prop:= [Jf6 j → 0 ≤ Int.ofNat j - 1 ∧ (Int.ofNat j - 1).toNat < List.length A ∧ (Int.ofNat j - 1).toNat < List.length A ∧ 0 ≤ Int.ofNat j - 1 ∧ JVH B j ∧ JVH B j ∧ (Jko A B j → 0 ≤ Int.ofNat j - 1 ∧ (Int.ofNat j - 1).toNat < List.length A ∧ (Int.ofNat j - 1).toNat < List.length A ∧ 0 ≤ Int.ofNat j - 1 ∧ JVH B j ∧ JVH B j),Jf6 j → (decide (JAB A j < JAB B j) = true → JWi A B j → (Jdu A B j → Int.ofNat 1 = -1) ∧ Jly A B j) ∧ (Jko A B j → (decide (JAB A j > JAB B j) = true → (Jf8 A B j → -1 = 1) ∧ (JWi A B j → Jly A B j)) ∧ (decide (JAB A j > JAB B j) = false → ((JGc A B).next j 2 ≤ List.length A ∧ List.length A = List.length B ∧ List.length A ≤ 1000000) ∧ (JGc A B).μ ((JGc A B).next j 2) < (JGc A B).μ j ∧ (JGc A B).fin ((JGc A B).next j 2) = (JGc A B).fin j ∧ Int.ofNat ((JGc A B).next j 2) - 1 = IntKind.i64.wrap (Int.ofNat j - 1 - 1))),decide (Int.ofNat j - 1 ≥ 0) = false → (Jf8 A B j → False) ∧ (JWi A B j → Jdu A B j → False)]
end
theorem JoV (A B:Dg) (j:Nat) (hNeeds:∀ pN ∈ (JSa A B j),pN):Jz (XU (JGc A B) (QU Tryz.prog (JB JAK) JSx 111 0) 22 j) :=
  Jz.of (ps := (JSa A B j)) (by kernel_rfl) (by kernel_rfl) hNeeds
theorem Jg2 (A B:Dg):∀ j,JF7 A B j = -1 ∨ JF7 A B j = 0 ∨ JF7 A B j = 1
  | 0 => .inr (.inl rfl)
  | j + 1 => by
    rw [JF7]
    cases decide (dg A j < dg B j)
    · rw [cond_false]
      cases decide (dg B j < dg A j)
      · rw [cond_false]; exact Jg2 A B j
      · exact .inr (.inr rfl)
    · exact .inl rfl
theorem JkK (A B:Dg):Qv (JGc A B) (QU Tryz.prog (JB JAK) JSx 111 0) 22 := by
  intro j hJ
  obtain ⟨h1,h2,h3⟩:j ≤ A.length ∧ A.length = B.length ∧ A.length ≤ 1000000 := hJ
  refine JoV A B j fun q hq => ?_
  unfold JSa at hq
  rcases Nat.eq_zero_or_pos j with h0 | h0
  · subst h0
    have e0:¬ Jf6 0 := by unfold Jf6; simp
    have e1:(JGc A B).fin 0 = 0 := rfl
    simp only [List.mem_cons,List.not_mem_nil,or_false,JWi,Jdu,Jf8,e1] at hq
    rcases hq with rfl | rfl | rfl
    · intro h; exact absurd h e0
    · intro h; exact absurd h e0
    · intro _; simp
  · obtain ⟨m,rfl⟩:∃ m,j = m + 1 := ⟨j - 1,by omega⟩
    have e1:Int.ofNat (m + 1) - 1 = Int.ofNat m := by simp
    have e2:(Int.ofNat m).toNat = m := rfl
    have e3:JAB A (m + 1) = dg A m := by unfold JAB; rw [e1]; rfl
    have e4:JAB B (m + 1) = dg B m := by unfold JAB; rw [e1]; rfl
    have e5:(JGc A B).fin (m + 1) = JF7 A B (m + 1) := rfl
    have e6:0 ≤ Int.ofNat m := by simp
    have e7:IntKind.i64.wrap (Int.ofNat m - 1) = Int.ofNat m - 1 := X7 (by simp; omega) (by simp; omega)
    simp only [List.mem_cons,List.not_mem_nil,or_false,JVH,Jko,JWi,Jdu,Jly,Jf8,e1,e2,e3,e4,e5,e7] at hq
    rcases hq with rfl | rfl | rfl
    · intro _
      have h4:m < A.length := by omega
      have h5:m < B.length := by omega
      exact ⟨e6,h4,h4,e6,h5,h5,fun _ => ⟨e6,h4,h4,e6,h5,h5⟩⟩
    · intro _
      refine ⟨fun h => ?_,fun h => ⟨fun h4 => ?_,fun h4 => ⟨⟨?_,h2,h3⟩,?_,?_,?_⟩⟩⟩
      · have:JF7 A B (m + 1) = -1 := by rw [JF7,h,cond_true]
        rw [this]
        intro h; simp at h
      · have h4:decide (dg B m < dg A m) = true := h4
        have:JF7 A B (m + 1) = 1 := by rw [JF7,h,cond_false,h4,cond_true]
        rw [this]
        exact ⟨fun h => by simp at h,fun _ h => by simp at h⟩
      · show m ≤ _; omega
      · show m < m + 1; omega
      · have h4:decide (dg B m < dg A m) = false := h4
        show JF7 A B m = JF7 A B (m + 1)
        rw [JF7,h,cond_false,h4,cond_false]
      · rfl
    · intro h; simp at h
def Jvf:QH := fun env mem m => match JMB [.int .u64] env mem 0,JMB [.int .u64] env mem 1 with
  | some A,some B => jY (JGc A B) 22 (fun _ _ => some A.length) env mem m
  | _,_ => none
def JOK:FuncId → Nat → Option QH := JBZ Jvs 111 6 Jvf
theorem JXc:Known Tryz.prog (JB JAK) JOK := by
  refine Qj 0 Jkf (by kernel_rfl) (Qy fun env mem m x h => ?_)
  unfold Jvf at h
  have hlen:(QZ Tryz.prog 111).length = 1 := by kernel_rfl
  split at h
  · exact ⟨_,XF (Qa Zy JJd (by omega)) (JkK _ _),h⟩
  · cases h
def JI9:Tpl := ⟨[.one (.wh 0)],[(0,.row false 140 1 1 [.int .u64])],2⟩
def JHJ (xs:LL):List Prop := [xs.length ≤ xs.length ∧ JEZ xs xs.length = JEZ xs xs.length ∧ xs.length ≤ 1000000,List.take xs.length xs = xs]
theorem Jpj {xs:LL} (hW:∀ q ∈ ([xs.length ≤ 1000000]:List Prop),q):∀ q ∈ (JHJ xs),q := by
  simp only [awc,awn,and_true] at hW
  intro q hq
  unfold JHJ at hq
  simp only [List.mem_cons,List.not_mem_nil,or_false] at hq
  rcases hq with rfl | rfl
  · exact ⟨Nat.le_refl _,trivial,hW⟩
  · exact List.take_length
theorem Jnz (xs:LL) (hNeeds:∀ pN ∈ (JHJ xs),pN):Runs (Js (JB JAK) JOK 164) (JI9.args []) (JI9.memo [] [xs]) JI9.n (SV.one (SC.wh 5)) ([(5,Obj.row false 140 1 (RowC.lst 8 [CK.int IntKind.u64] (JEv xs)))]) :=
  Runs.of1 (ps := (JHJ xs)) (by kernel_rfl) hNeeds
def JW9:List Pm → Qr → Option CRes
  | [],[xs] => some ⟨SV.one (SC.wh 5),
 [(5,Obj.row false 140 1 (RowC.lst 8 [CK.int IntKind.u64] (JEv xs)))],[xs.length ≤ 1000000],[],25⟩
  | _,_ => none
theorem Juu:Qk Tryz.prog 164 (JS JI9 JW9) := by
  refine JH (JD JXc 164) fun ps ls r hr hn _ => ?_
  unfold JW9 at hr
  split at hr
  · cases hr; exact ⟨_,Jnz _ (Jpj (by exact hn)),fun _ => rfl⟩
  · cases hr
def JdG:List (Nat × JW) := (164,JS JI9 JW9) :: JAK
theorem JYz:Known Tryz.prog (JB JdG) JOK := J7 JXc Juu
def ql:Tpl := ⟨[.one (.wh 0),.one (.wh 1)],[(0,.row false 140 1 2 [.int .u64]),(1,.row false 140 1 3 [.int .u64])],4⟩
def Jkw (A B:LL):Int := bif Int.ofNat A.length != Int.ofNat B.length then bif decide (Int.ofNat A.length < Int.ofNat B.length) then -1 else 1 else bif decide ((JGc A B).fin A.length < 0) then -1 else bif decide (0 < (JGc A B).fin A.length) then 1 else 0
def JCR (A B:LL):List Prop := [(Int.ofNat A.length != Int.ofNat B.length) = false → (A.length ≤ A.length ∧ A.length = B.length ∧ A.length ≤ 1000000) ∧ Int.ofNat A.length - 1 = IntKind.i64.wrap (Int.ofNat A.length - 1)]
theorem Jmv (A B:LL):(Jkw A B) = JFt A B := by
  unfold Jkw JFt
  show (bif _ then _ else bif decide (JF7 A B A.length < 0) then (-1:Int) else bif decide (0 < JF7 A B A.length) then 1 else 0) = _
  rcases Jg2 A B A.length with h | h | h <;> rw [h] <;> rfl
theorem Jpu {A:LL} {B:LL} (hW:∀ q ∈ ([A.length ≤ 1000000]:List Prop),q):∀ q ∈ (JCR A B),q := by
  simp only [awc,awn,and_true] at hW
  intro q hq
  unfold JCR at hq
  simp only [List.mem_cons,List.not_mem_nil,or_false] at hq
  subst hq
  intro h
  simp at h
  exact ⟨⟨Nat.le_refl _,by omega,hW⟩,(X7 (by simp; omega) (by simp; omega)).symm⟩
theorem Jph (A B:LL) (hNeeds:∀ pN ∈ (JCR A B),pN):Runs (Js (JB JdG) JOK 111) (ql.args []) (ql.memo [] [A,B]) ql.n (SV.one (Ci (Jkw A B))) ([(0,Obj.row false 140 1 (RowC.lst 2 [CK.int IntKind.u64] A)),(1,Obj.row false 140 1 (RowC.lst 3 [CK.int IntKind.u64] B))]) :=
  Runs.of1 (ps := (JCR A B)) (by kernel_rfl) hNeeds
def JWl:List Pm → Qr → Option CRes
  | [],[A,B] => some ⟨SV.one (Ci ((JFt A B))),[(0,Obj.row false 140 1 (RowC.lst 2 [CK.int IntKind.u64] A)),(1,Obj.row false 140 1 (RowC.lst 3 [CK.int IntKind.u64] B))],[A.length ≤ 1000000],[],43⟩
  | _,_ => none
theorem Jg4 (A B:LL) (hNeeds:∀ pN ∈ (JCR A B),pN):Runs (Js (JB JdG) JOK 111) (ql.args []) (ql.memo [] [A,B]) ql.n (SV.one (SC.int IntKind.i64 (SI.v ((JFt A B)))))
    ([(0,Obj.row false 140 1 (RowC.lst 2 [CK.int IntKind.u64] A)),(1,Obj.row false 140 1 (RowC.lst 3 [CK.int IntKind.u64] B))]) :=
  (Jph A B hNeeds).to (by first | rfl | (simp only [Ci,Cb,jH,Jmv])) (by first | rfl | (simp only [Ci,Cb,jH,Jmv]))
theorem JuK:Qk Tryz.prog 111 (JS ql JWl) := by
  refine JH (JD JYz 111) fun ps ls r hr hn _ => ?_
  unfold JWl at hr
  split at hr
  · cases hr; exact ⟨_,Jg4 _ _ (Jpu (by exact hn)),fun _ => rfl⟩
  · cases hr
def JHr:List (Nat × JW) := (111,JS ql JWl) :: JdG
theorem JMz:Known Tryz.prog (JB JHr) JOK := J7 JYz JuK
def inF (A B O:Dg) (i:Nat):Fam Nat Unit where
  k := 20
  E k := [(8,ent 1000000000 (.one (I (Int.ofNat k)))),(7,ent 1000000001 (.one (U (Xq (dg A i) B O i k).2))),(6,ent 1000000002 (.one (I (Int.ofNat i)))),(5,ent 1000000003 (.one (.wh 42))),(0,ent 0 (.one (.wh 0))),(1,ent 2 (.one (.wh 1)))]
  M k := JBx 42 1000000004 (Xq (dg A i) B O i k).1 :: Jhl A B
  out _ := .leaf (.exit 2) [(7,ent 45 (.one (U (Xq (dg A i) B O i B.length).2))),(6,ent 46 (.one (I (Int.ofNat i)))),(5,ent 47 (.one (.wh 42))),(0,ent 0 (.one (.wh 0))),(1,ent 2 (.one (.wh 1)))] (JBx 42 48 (Xq (dg A i) B O i B.length).1 :: Jhl A B)
  fin _ := ()
  next k _ := k + 1
  J k := k ≤ B.length ∧ i < A.length ∧ jK A ∧ jK B ∧ jK O ∧ O.length = A.length + B.length ∧ A.length + B.length ≤ 1000000
  μ k := B.length - k
section
variable (A B O:Dg) (i k:Nat)
def JeB:Prop:= decide (Int.ofNat k < Int.ofNat (List.length B)) = true
def JQV:Prop:= (IntKind.i64.wrap (Int.ofNat i + Int.ofNat k)).toNat < List.length (Xq (dg A i) B O i k).fst
def JeT:List Int:= List.getD (Xq (dg A i) B O i k).fst (IntKind.i64.wrap (Int.ofNat i + Int.ofNat k)).toNat []
def Jfm:Int:= IntKind.u64.wrap (IntKind.u64.wrap ((JeT A B O i k).getD 0 0 + IntKind.u64.wrap ((List.getD A (Int.ofNat i).toNat []).getD 0 0 * (List.getD B (Int.ofNat k).toNat []).getD 0 0)) + (Xq (dg A i) B O i k).snd)
end
def JPa (A:Dg) (B:Dg) (O:Dg) (i k:Nat):List Prop := [JeB B k → 0 ≤ IntKind.i64.wrap (Int.ofNat i + Int.ofNat k) ∧ JQV A B O i k ∧ JQV A B O i k ∧ 0 ≤ Int.ofNat i ∧ (Int.ofNat i).toNat < List.length A ∧ (Int.ofNat i).toNat < List.length A ∧ 0 ≤ Int.ofNat k ∧ (Int.ofNat k).toNat < List.length B ∧ (Int.ofNat k).toNat < List.length B ∧ 0 ≤ IntKind.i64.wrap (Int.ofNat i + Int.ofNat k) ∧ JQV A B O i k ∧ JQV A B O i k,JeB B k → ((inF A B O i).next k 0 ≤ List.length B ∧ i < List.length A ∧ (∀ (i:Nat),0 ≤ dg A i ∧ dg A i < 65536) ∧ (∀ (i:Nat),0 ≤ dg B i ∧ dg B i < 65536) ∧ (∀ (i:Nat),0 ≤ dg O i ∧ dg O i < 65536) ∧ List.length O = List.length A + List.length B ∧ List.length A + List.length B ≤ 1000000) ∧ (inF A B O i).μ ((inF A B O i).next k 0) < (inF A B O i).μ k ∧ (inF A B O i).fin ((inF A B O i).next k 0) = (inF A B O i).fin k ∧ Int.ofNat ((inF A B O i).next k 0) = IntKind.i64.wrap (Int.ofNat k + 1) ∧ (Xq (dg A i) B O i ((inF A B O i).next k 0)).snd = JU BinOp.shr IntKind.u64 (Jfm A B O i k) 16 ∧ Int.ofNat i = Int.ofNat i ∧ (Xq (dg A i) B O i ((inF A B O i).next k 0)).fst = List.set (Xq (dg A i) B O i k).fst (IntKind.i64.wrap (Int.ofNat i + Int.ofNat k)).toNat (kU 1 0 0 [Zi BinOp.and IntKind.u64 (Jfm A B O i k) 65535] (JeT A B O i k)),decide (Int.ofNat k < Int.ofNat (List.length B)) = false → (Xq (dg A i) B O i (List.length B)).snd = (Xq (dg A i) B O i k).snd ∧ Int.ofNat i = Int.ofNat i ∧ (Xq (dg A i) B O i (List.length B)).fst = (Xq (dg A i) B O i k).fst]
theorem JqD (A B O:Dg) (i k:Nat) (hNeeds:∀ pN ∈ (JPa A B O i k),pN):Jz (XU (inF A B O i) (QU Tryz.prog (JB JHr) JOK 138 1) 41 k) :=
  Jz.of (ps := (JPa A B O i k)) (by kernel_rfl) (by kernel_rfl) hNeeds
theorem JYF (A B O:Dg) (i:Nat):Qv (inF A B O i) (QU Tryz.prog (JB JHr) JOK 138 1) 41 := by
  intro k hJ
  have hJ' := hJ
  obtain ⟨h1,h2,hA,hB,hO,h3,h4⟩:k ≤ B.length ∧ i < A.length ∧ jK A ∧ jK B ∧ jK O ∧ O.length = A.length + B.length ∧ A.length + B.length ≤ 1000000 := hJ
  have hl:List.length (Xq (dg A i) B O i k).fst = A.length + B.length := by rw [WN,h3]
  refine JqD A B O i k fun q hq => ?_
  unfold JPa at hq
  simp only [List.mem_cons,List.not_mem_nil,or_false] at hq
  have ew:IntKind.i64.wrap (Int.ofNat i + Int.ofNat k) = Int.ofNat (i + k) := by rw [X7 (by simp; omega) (by simp; omega)]; simp
  have ew2:(IntKind.i64.wrap (Int.ofNat i + Int.ofNat k)).toNat = i + k := by rw [ew]; rfl
  have es:JeB B k → k < B.length := fun h => by simpa [JeB] using h
  have e2:JeT A B O i k = (Xq (dg A i) B O i k).1.getD (i + k) [] := by unfold JeT; rw [ew2]
  rcases hq with rfl | rfl | rfl
  · intro h
    have hk := es h
    have e1:JQV A B O i k := by unfold JQV; rw [ew2,hl]; omega
    have e0:0 ≤ IntKind.i64.wrap (Int.ofNat i + Int.ofNat k) := by rw [ew]; exact Int.natCast_nonneg _
    exact ⟨e0,e1,e1,by simp,h2,h2,by simp,hk,hk,e0,e1,e1⟩
  · intro h
    have hk := es h
    obtain ⟨hr,hc⟩ := JKy (i := i) (hA i) hB hO k (by omega)
    obtain ⟨d1,d2⟩ := hr (i + k)
    obtain ⟨p1,p2⟩ := JZv (hA i) (hB k)
    have e3:Jfm A B O i k = dg (Xq (dg A i) B O i k).1 (i + k) + dg A i * dg B k + (Xq (dg A i) B O i k).2 := by
      unfold Jfm
      rw [e2]
      show IntKind.u64.wrap (IntKind.u64.wrap (dg (Xq (dg A i) B O i k).1 (i + k) + IntKind.u64.wrap (dg A i * dg B k)) + _) = _
      rw [W4 p1 (by omega),W4 (x := _ + dg A i * dg B k) (by omega) (by omega),W4 (by omega) (by omega)]
    have e4:0 ≤ dg (Xq (dg A i) B O i k).1 (i + k) + dg A i * dg B k + (Xq (dg A i) B O i k).2 := by omega
    refine ⟨⟨hk,h2,hA,hB,hO,h3,h4⟩,?_,trivial,?_,?_,trivial,?_⟩
    · show B.length - (k + 1) < B.length - k; omega
    · rw [X7 (by simp; omega) (by simp; omega)]; rfl
    · rw [e3,Jrt _ e4]; rfl
    · rw [e3,JrX _ e4 (by omega),ew2]; rfl
  · intro h
    have hk:k = B.length := by simp at h; omega
    subst hk
    exact ⟨rfl,trivial,rfl⟩
def Jur:QH := fun env mem m => match JMB [.int .u64] env mem 0,JMB [.int .u64] env mem 1,JMB [.int .u64] env mem 5,Wj env 6 with
  | some A,some B,some O,some i => jY (inF A B O i.toNat) 41 (fun _ _ => some 0) env mem m
  | _,_,_,_ => none
def Jmb:FuncId → Nat → Option QH := JBZ JOK 138 7 Jur
theorem JMV:Known Tryz.prog (JB JHr) Jmb := by
  refine Qj 1 JMz (by kernel_rfl) (Qy fun env mem m x h => ?_)
  unfold Jur at h
  have hlen:(QZ Tryz.prog 138).length = 2 := by kernel_rfl
  split at h
  · exact ⟨_,XF (Qa Zy JMz (by omega)) (JYF _ _ _ _),h⟩
  · cases h
def JUI (A B:Dg):Fam Nat Unit where
  k := 20
  E i := [(6,ent 1000000000 (.one (I (Int.ofNat i)))),(5,ent 1000000001 (.one (.wh 16))),(0,ent 0 (.one (.wh 0))),(1,ent 2 (.one (.wh 1)))]
  M i := JBx 16 1000000002 (Z1 A B i) :: Jhl A B
  out _ := .leaf (.exit 0) [(5,ent 18 (.one (.wh 16)))] (JBx 16 19 (Z1 A B A.length) :: Jhl A B)
  fin _ := ()
  next i _ := i + 1
  J i := i ≤ A.length ∧ jK A ∧ jK B ∧ A.length + B.length ≤ 1000000
  μ i := A.length - i
section
variable (A B:Dg) (i:Nat)
def Jdj:Prop:= decide (Int.ofNat i < Int.ofNat (List.length A)) = true
def JtX:Prop:= List.length A + List.length B ≤ 1000000
def JH2:Int:= IntKind.i64.wrap (Int.ofNat (Int.ofNat i).toNat + Int.ofNat (List.length B))
def JRD:Prop:= (JH2 B i).toNat < List.length (Xq (dg A (Int.ofNat i).toNat) B (Z1 A B i) (Int.ofNat i).toNat (List.length B)).fst
def Jdi:List Int:= List.getD (Xq (dg A (Int.ofNat i).toNat) B (Z1 A B i) (Int.ofNat i).toNat (List.length B)).fst (JH2 B i).toNat []
end
def JQj (A:Dg) (B:Dg) (i:Nat):List Prop := [Jdj A i → (0 ≤ List.length B ∧ (Int.ofNat i).toNat < List.length A ∧ (∀ (i:Nat),0 ≤ dg A i ∧ dg A i < 65536) ∧ (∀ (i:Nat),0 ≤ dg B i ∧ dg B i < 65536) ∧ (∀ (i_1:Nat),0 ≤ dg (Z1 A B i) i_1 ∧ dg (Z1 A B i) i_1 < 65536) ∧ List.length (Z1 A B i) = List.length A + List.length B ∧ JtX A B) ∧ Int.ofNat 0 = 0 ∧ (Xq (dg A (Int.ofNat i).toNat) B (Z1 A B i) (Int.ofNat i).toNat 0).snd = 0 ∧ Int.ofNat (Int.ofNat i).toNat = Int.ofNat i ∧ (Xq (dg A (Int.ofNat i).toNat) B (Z1 A B i) (Int.ofNat i).toNat 0).fst = Z1 A B i ∧ 0 ≤ JH2 B i ∧ JRD A B i ∧ JRD A B i ∧ 0 ≤ JH2 B i ∧ JRD A B i ∧ JRD A B i,Jdj A i → ((JUI A B).next i 0 ≤ List.length A ∧ (∀ (i:Nat),0 ≤ dg A i ∧ dg A i < 65536) ∧ (∀ (i:Nat),0 ≤ dg B i ∧ dg B i < 65536) ∧ JtX A B) ∧ (JUI A B).μ ((JUI A B).next i 0) < (JUI A B).μ i ∧ (JUI A B).fin ((JUI A B).next i 0) = (JUI A B).fin i ∧ Int.ofNat ((JUI A B).next i 0) = IntKind.i64.wrap (Int.ofNat (Int.ofNat i).toNat + 1) ∧ Z1 A B ((JUI A B).next i 0) = List.set (Xq (dg A (Int.ofNat i).toNat) B (Z1 A B i) (Int.ofNat i).toNat (List.length B)).fst (JH2 B i).toNat (kU 1 0 0 [IntKind.u64.wrap ((Jdi A B i).getD 0 0 + (Xq (dg A (Int.ofNat i).toNat) B (Z1 A B i) (Int.ofNat i).toNat (List.length B)).snd)] (Jdi A B i)),decide (Int.ofNat i < Int.ofNat (List.length A)) = false → Z1 A B (List.length A) = Z1 A B i]
theorem Jpl (A B:Dg) (i:Nat) (hNeeds:∀ pN ∈ (JQj A B i),pN):Jz (XU (JUI A B) (QU Tryz.prog (JB JHr) Jmb 138 0) 15 i) :=
  Jz.of (ps := (JQj A B i)) (by kernel_rfl) (by kernel_rfl) hNeeds
theorem JY1 (A B:Dg):Qv (JUI A B) (QU Tryz.prog (JB JHr) Jmb 138 0) 15 := by
  intro i hJ
  obtain ⟨h1,hA,hB,h4⟩:i ≤ A.length ∧ jK A ∧ jK B ∧ A.length + B.length ≤ 1000000 := hJ
  have e0:(Int.ofNat i).toNat = i := rfl
  have e1:JH2 B i = Int.ofNat (i + B.length) := by unfold JH2; rw [e0,X7 (by simp; omega) (by simp; omega)]; simp
  have e2:(JH2 B i).toNat = i + B.length := by rw [e1]; rfl
  have hl := Xe A B i
  have hn:List.length (Xq (dg A i) B (Z1 A B i) i B.length).fst = A.length + B.length := by rw [WN,hl]
  have es:Jdj A i → i < A.length := fun h => by simpa [Jdj] using h
  have e3:Jdi A B i = (Xq (dg A i) B (Z1 A B i) i B.length).1.getD (i + B.length) [] := by unfold Jdi; rw [e2,e0]
  refine Jpl A B i fun q hq => ?_
  unfold JQj at hq
  simp only [List.mem_cons,List.not_mem_nil,or_false,e0] at hq
  rcases hq with rfl | rfl | rfl
  · intro h
    have hi := es h
    have e4:JRD A B i := by unfold JRD; rw [e2,e0,hn]; omega
    have e5:0 ≤ JH2 B i := by rw [e1]; exact Int.natCast_nonneg _
    exact ⟨⟨Nat.zero_le _,hi,hA,hB,JCS hA hB i (by omega),hl,h4⟩,rfl,rfl,trivial,rfl,e5,e4,e4,e5,e4,e4⟩
  · intro h
    have hi := es h
    obtain ⟨hr,c1,c2⟩ := JKy (i := i) (hA i) hB (JCS hA hB i (by omega)) B.length (by omega)
    obtain ⟨d1,d2⟩ := hr (i + B.length)
    refine ⟨⟨hi,hA,hB,h4⟩,?_,trivial,?_,?_⟩
    · show A.length - (i + 1) < A.length - i; omega
    · rw [X7 (by simp; omega) (by simp; omega)]; rfl
    · rw [e2,e3]
      have:IntKind.u64.wrap (dg (Xq (dg A i) B (Z1 A B i) i B.length).1 (i + B.length) + (Xq (dg A i) B (Z1 A B i) i B.length).2) = dg (Xq (dg A i) B (Z1 A B i) i B.length).1 (i + B.length) + (Xq (dg A i) B (Z1 A B i) i B.length).2 := W4 (by omega) (by omega)
      show _ = List.set _ _ [IntKind.u64.wrap (dg (Xq (dg A i) B (Z1 A B i) i B.length).1 (i + B.length) + (Xq (dg A i) B (Z1 A B i) i B.length).2)]
      rw [this]; rfl
  · intro h
    have:i = A.length := by simp at h; omega
    rw [this]
def Jnh:QH := fun env mem m => match JMB [.int .u64] env mem 0,JMB [.int .u64] env mem 1 with
  | some A,some B => jY (JUI A B) 15 (fun _ _ => some 0) env mem m
  | _,_ => none
def JLM:FuncId → Nat → Option QH := JBZ Jmb 138 3 Jnh
theorem JaI:Known Tryz.prog (JB JHr) JLM := by
  refine Qj 0 JMV (by kernel_rfl) (Qy fun env mem m x h => ?_)
  unfold Jnh at h
  have hlen:(QZ Tryz.prog 138).length = 2 := by kernel_rfl
  split at h
  · exact ⟨_,XF (Qa Zy JMV (by omega)) (JY1 _ _),h⟩
  · cases h
def JGK:Tpl := ⟨[.one (.wh 0),.one (.wh 1)],[(0,.row false 140 1 2 [.int .u64]),(1,.row false 140 1 3 [.int .u64])],4⟩
def JY (A B:LL):Dg := JEv (Z1 A B A.length)
def JH4 (A B:LL):Int := IntKind.i64.wrap (Int.ofNat A.length + Int.ofNat B.length)
def JHp (A B:LL):List Prop := [0 ≤ JH4 A B,((JH4 A B).toNat + 0) * 8 ≤ 140737488355328,(JH4 A B).toNat + 0 ≤ 9223372036854775807,0 ≤ A.length ∧ (∀ (i:Nat),0 ≤ dg A i ∧ dg A i < 65536) ∧ (∀ (i:Nat),0 ≤ dg B i ∧ dg B i < 65536) ∧ A.length + B.length ≤ 1000000,Int.ofNat 0 = 0,Z1 A B 0 = List.replicate (JH4 A B).toNat [0],List.length (Z1 A B A.length) ≤ 1000000]
theorem Jpb {A:LL} {B:LL} (hW:∀ q ∈ ([jK A,jK B,A.length + B.length ≤ 1000000]:List Prop),q):∀ q ∈ (JHp A B),q := by
  simp only [awc,awn,and_true] at hW
  intro q hq
  unfold JHp at hq
  simp only [List.mem_cons,List.not_mem_nil,or_false] at hq
  obtain ⟨hA,hB,h⟩ := hW
  have e:JH4 A B = Int.ofNat (A.length + B.length) := by unfold JH4; rw [X7 (by simp; omega) (by simp; omega)]; simp
  have e2:(JH4 A B).toNat = A.length + B.length := by rw [e]; rfl
  rcases hq with rfl | rfl | rfl | rfl | rfl | rfl | rfl
  · rw [e]; exact Int.natCast_nonneg _
  · rw [e2]; omega
  · rw [e2]; omega
  · exact ⟨Nat.zero_le _,hA,hB,h⟩
  · rfl
  · rw [e2]; rfl
  · rw [Xe]; exact h
def JmO (A B:LL):Jo := [(41,Obj.row false 140 1 (RowC.lst 44 [CK.int IntKind.u64] (JY A B))),(0,Obj.row false 140 1 (RowC.lst 2 [CK.int IntKind.u64] A)),(1,Obj.row false 140 1 (RowC.lst 3 [CK.int IntKind.u64] B))]
theorem JoS (A B:LL) (hNeeds:∀ pN ∈ (JHp A B),pN):Runs (Js (JB JHr) JLM 138) (JGK.args []) (JGK.memo [] [A,B]) JGK.n (SV.one (SC.wh 41)) (JmO A B) :=
  Runs.of1 (ps := (JHp A B)) (by kernel_rfl) hNeeds
def JN9:List Pm → Qr → Option CRes
  | [],[A,B] => some ⟨SV.one (SC.wh 41),
 JmO A B,[jK A,jK B,A.length + B.length ≤ 1000000],[],63⟩
  | _,_ => none
theorem JnQ:Qk Tryz.prog 138 (JS JGK JN9) := by
  refine JH (JD JaI 138) fun ps ls r hr hn _ => ?_
  unfold JN9 at hr
  split at hr
  · cases hr; exact ⟨_,JoS _ _ (Jpb (by exact hn)),fun _ => rfl⟩
  · cases hr
def JlF:List (Nat × JW) := (138,JS JGK JN9) :: JHr
theorem JXn:Known Tryz.prog (JB JlF) JLM := J7 JaI JnQ
def JEr:Tpl := ⟨[.one (.int .i64),.one (.int .i64)],[],0⟩
def JDR (a b:Int):List Prop := [0 ≤ J6 a,J6 a < 18446744073709551616,0 ≤ J6 b,J6 b < 18446744073709551616,∀ (i:Nat),0 ≤ dg (JA (J6 a)) i ∧ dg (JA (J6 a)) i < 65536,∀ (i:Nat),0 ≤ dg (JA (J6 b)) i ∧ dg (JA (J6 b)) i < 65536,List.length (JA (J6 a)) + List.length (JA (J6 b)) ≤ 1000000]
theorem Jks {a:Int} {b:Int} (hW:∀ q ∈ ([XY a,XY b]:List Prop),q):∀ q ∈ (JDR a b),q := by
  simp only [awc,awn,and_true] at hW
  intro q hq
  unfold JDR at hq
  simp only [List.mem_cons,List.not_mem_nil,or_false] at hq
  obtain ⟨ha,hb⟩ := hW
  obtain ⟨a1,a2⟩ := Qs ha
  obtain ⟨b1,b2⟩ := Qs hb
  have la:(JA (J6 a)).length ≤ 4 := by rw [JA,KX]; exact (Y2 a1 a2 (j := 0) (by omega)).2
  have lb:(JA (J6 b)).length ≤ 4 := by rw [JA,KX]; exact (Y2 b1 b2 (j := 0) (by omega)).2
  rcases hq with rfl | rfl | rfl | rfl | rfl | rfl | rfl
  · exact a1
  · exact a2
  · exact b1
  · exact b2
  · exact Km _ _
  · exact Km _ _
  · omega
theorem Jm5 (a b:Int) (hNeeds:∀ pN ∈ (JDR a b),pN):Runs (Js (JB JlF) JLM 112) (JEr.args [.i a,.i b]) (JEr.memo [.i a,.i b] []) JEr.n (SV.one (SC.wh 120)) ([(120,Obj.row false 140 1 (RowC.lst 123 [CK.int IntKind.u64] (JY (JA (J6 a)) (JA (J6 b)))))]) :=
  Runs.of1 (ps := (JDR a b)) (by kernel_rfl) hNeeds
def JQt:List Pm → Qr → Option CRes
  | [.i a,.i b],[] => some ⟨SV.one (SC.wh 120),
 [(120,Obj.row false 140 1 (RowC.lst 123 [CK.int IntKind.u64] (JY (JA (J6 a)) (JA (J6 b)))))],[XY a,XY b],[],144⟩
  | _,_ => none
theorem Ju3:Qk Tryz.prog 112 (JS JEr JQt) := by
  refine JH (JD JXn 112) fun ps ls r hr hn _ => ?_
  unfold JQt at hr
  split at hr
  · cases hr; exact ⟨_,Jm5 _ _ (Jks (by exact hn)),fun _ => rfl⟩
  · cases hr
def Jen:List (Nat × JW) := (112,JS JEr JQt) :: JlF
theorem JTn:Known Tryz.prog (JB Jen) JLM := J7 JXn Ju3
def JJX:Tpl := ⟨[.one (.int .i64),.one (.int .i64),.one (.int .i64),.one (.int .i64)],[],0⟩
def JHv (a b c d:Int):Int := bif decide (Qi a b < Qi c d) then -1 else bif decide (Qi a b > Qi c d) then 1 else IntKind.i64.wrap (Qi a b * JFt (JY (JA (J6 a)) (JA (J6 b))) (JY (JA (J6 c)) (JA (J6 d))))
def JGt (a b c d:Int):List Prop := [decide (Qi a b < Qi c d) = false → decide (Qi a b > Qi c d) = false → (-9223372036854775808 ≤ a ∧ a < 9223372036854775808) ∧ (-9223372036854775808 ≤ b ∧ b < 9223372036854775808) ∧ (-9223372036854775808 ≤ c ∧ c < 9223372036854775808) ∧ (-9223372036854775808 ≤ d ∧ d < 9223372036854775808) ∧ List.length (JY (JA (J6 a)) (JA (J6 b))) ≤ 1000000]
theorem JfQ (a b c d:Int) (ha:XY a) (hb:XY b) (hc:XY c) (hd:XY d):(JHv a b c d) = KC (a * b) (c * d) := by
  unfold JHv
  obtain ⟨x1,x2,x3⟩ := JCK (Qs ha) (Qs hb)
  obtain ⟨y1,y2,y3⟩ := JCK (Qs hc) (Qs hd)
  have h0 := JO4 x1 y1 x2 y2
  rw [x3,y3] at h0
  unfold JWh at h0
  unfold JY
  rw [h0,Xw a ha,Xw b hb,Xw c hc,Xw d hd]
  have s1 := JK2 a b
  have s2 := JK2 c d
  generalize (if a < 0 then -a else a) * (if b < 0 then -b else b) = X at *
  generalize (if c < 0 then -c else c) * (if d < 0 then -d else d) = Y at *
  generalize a * b = P at *
  generalize c * d = Q at *
  have w:∀ x:Int,-1 ≤ x ∧ x ≤ 1 → IntKind.i64.wrap x = x := fun x h => X7 (by omega) (by omega)
  have hcm:KC X Y = -1 ∧ X < Y ∨ KC X Y = 0 ∧ X = Y ∨ KC X Y = 1 ∧ Y < X := by unfold KC; (repeat' split) <;> omega
  have hcp:KC P Q = -1 ∧ P < Q ∨ KC P Q = 0 ∧ P = Q ∨ KC P Q = 1 ∧ Q < P := by unfold KC; (repeat' split) <;> omega
  clear h0
  generalize KC X Y = m at *
  generalize KC P Q = n at *
  rcases s1 with ⟨e1,p1⟩ | ⟨e1,p1,q1⟩ | ⟨e1,p1,q1⟩ <;> rcases s2 with ⟨e2,p2⟩ | ⟨e2,p2,q2⟩ | ⟨e2,p2,q2⟩ <;> rw [e1,e2]
  · show IntKind.i64.wrap (0 * m) = n; rw [w _ (by omega)]; omega
  · show (-1:Int) = n; omega
  · show (1:Int) = n; omega
  · show (1:Int) = n; omega
  · show IntKind.i64.wrap (1 * m) = n; rw [w _ (by omega)]; omega
  · show (1:Int) = n; omega
  · show (-1:Int) = n; omega
  · show (-1:Int) = n; omega
  · show IntKind.i64.wrap (-1 * m) = n; rw [w _ (by omega)]; omega
theorem Jp7 {a:Int} {b:Int} {c:Int} {d:Int} (hW:∀ q ∈ ([XY a,XY b,XY c,XY d]:List Prop),q):∀ q ∈ (JGt a b c d),q := by
  simp only [awc,awn,and_true] at hW
  intro q hq
  unfold JGt at hq
  simp only [List.mem_cons,List.not_mem_nil,or_false] at hq
  obtain ⟨ha,hb,hc,hd⟩ := hW
  subst hq
  intro _ _
  refine ⟨ha,hb,hc,hd,?_⟩
  obtain ⟨a1,a2⟩ := Qs ha
  obtain ⟨b1,b2⟩ := Qs hb
  have la:(JA (J6 a)).length ≤ 4 := by rw [JA,KX]; exact (Y2 a1 a2 (j := 0) (by omega)).2
  have lb:(JA (J6 b)).length ≤ 4 := by rw [JA,KX]; exact (Y2 b1 b2 (j := 0) (by omega)).2
  unfold JY
  rw [JIA]
  have := JKx (Z1 (JA (J6 a)) (JA (J6 b)) (JA (J6 a)).length) (Z1 (JA (J6 a)) (JA (J6 b)) (JA (J6 a)).length).length
  rw [Xe] at this
  rw [Xe]
  omega
theorem JoD (a b c d:Int) (hNeeds:∀ pN ∈ (JGt a b c d),pN):Runs (Js (JB Jen) JLM 81) (JJX.args [.i a,.i b,.i c,.i d]) (JJX.memo [.i a,.i b,.i c,.i d] []) JJX.n (SV.one (Ci (JHv a b c d))) ([]) :=
  Runs.of1 (ps := (JGt a b c d)) (by kernel_rfl) hNeeds
def JW4:List Pm → Qr → Option CRes
  | [.i a,.i b,.i c,.i d],[] => some ⟨SV.one (Ci (JHv a b c d)),
 [],[XY a,XY b,XY c,XY d],[],394⟩
  | _,_ => none
theorem JuI:Qk Tryz.prog 81 (JS JJX JW4) := by
  refine JH (JD JTn 81) fun ps ls r hr hn _ => ?_
  unfold JW4 at hr
  split at hr
  · cases hr; exact ⟨_,JoD _ _ _ _ (Jp7 (by exact hn)),fun _ => rfl⟩
  · cases hr
def JGa:List (Nat × JW) := (81,JS JJX JW4) :: Jen
theorem JWV:Known Tryz.prog (JB JGa) JLM := J7 JTn JuI
def JRd (A O:Dg) (i:Nat):Fam Nat Unit where
  k := 20
  E k := [(8,ent 1000000000 (.one (I (Int.ofNat k)))),(7,ent 1000000001 (.one (U (Xq (dg A i) A O i k).2))),(6,ent 1000000002 (.one (I (Int.ofNat i)))),(5,ent 1000000003 (.one (.wh 40))),(0,ent 0 (.one (.wh 0))),(1,ent 2 (.one (.wh 0)))]
  M k := [JBx 40 1000000004 (Xq (dg A i) A O i k).1,JBx 0 1 A]
  out _ := .leaf (.exit 2) [(7,ent 43 (.one (U (Xq (dg A i) A O i A.length).2))),(6,ent 44 (.one (I (Int.ofNat i)))),(5,ent 45 (.one (.wh 40))),(0,ent 0 (.one (.wh 0))),(1,ent 2 (.one (.wh 0)))] [JBx 40 46 (Xq (dg A i) A O i A.length).1,JBx 0 1 A]
  fin _ := ()
  next k _ := k + 1
  J k := k ≤ A.length ∧ i < A.length ∧ jK A ∧ jK O ∧ O.length = A.length + A.length ∧ A.length + A.length ≤ 1000000
  μ k := A.length - k
section
variable (A O:Dg) (i k:Nat)
def JfC:Prop:= decide (Int.ofNat k < Int.ofNat (List.length A)) = true
def JQ5:Prop:= (IntKind.i64.wrap (Int.ofNat i + Int.ofNat k)).toNat < List.length (Xq (dg A i) A O i k).fst
def JeM:List Int:= List.getD (Xq (dg A i) A O i k).fst (IntKind.i64.wrap (Int.ofNat i + Int.ofNat k)).toNat []
def JdO:Int:= IntKind.u64.wrap (IntKind.u64.wrap ((JeM A O i k).getD 0 0 + IntKind.u64.wrap ((List.getD A (Int.ofNat i).toNat []).getD 0 0 * (List.getD A (Int.ofNat k).toNat []).getD 0 0)) + (Xq (dg A i) A O i k).snd)
end
def JPq (A:Dg) (O:Dg) (i k:Nat):List Prop := [JfC A k → 0 ≤ IntKind.i64.wrap (Int.ofNat i + Int.ofNat k) ∧ JQ5 A O i k ∧ JQ5 A O i k ∧ 0 ≤ Int.ofNat i ∧ (Int.ofNat i).toNat < List.length A ∧ (Int.ofNat i).toNat < List.length A ∧ 0 ≤ Int.ofNat k ∧ (Int.ofNat k).toNat < List.length A ∧ (Int.ofNat k).toNat < List.length A ∧ 0 ≤ IntKind.i64.wrap (Int.ofNat i + Int.ofNat k) ∧ JQ5 A O i k ∧ JQ5 A O i k,JfC A k → ((JRd A O i).next k 0 ≤ List.length A ∧ i < List.length A ∧ (∀ (i:Nat),0 ≤ dg A i ∧ dg A i < 65536) ∧ (∀ (i:Nat),0 ≤ dg O i ∧ dg O i < 65536) ∧ List.length O = List.length A + List.length A ∧ List.length A + List.length A ≤ 1000000) ∧ (JRd A O i).μ ((JRd A O i).next k 0) < (JRd A O i).μ k ∧ (JRd A O i).fin ((JRd A O i).next k 0) = (JRd A O i).fin k ∧ Int.ofNat ((JRd A O i).next k 0) = IntKind.i64.wrap (Int.ofNat k + 1) ∧ (Xq (dg A i) A O i ((JRd A O i).next k 0)).snd = JU BinOp.shr IntKind.u64 (JdO A O i k) 16 ∧ Int.ofNat i = Int.ofNat i ∧ (Xq (dg A i) A O i ((JRd A O i).next k 0)).fst = List.set (Xq (dg A i) A O i k).fst (IntKind.i64.wrap (Int.ofNat i + Int.ofNat k)).toNat (kU 1 0 0 [Zi BinOp.and IntKind.u64 (JdO A O i k) 65535] (JeM A O i k)),decide (Int.ofNat k < Int.ofNat (List.length A)) = false → (Xq (dg A i) A O i (List.length A)).snd = (Xq (dg A i) A O i k).snd ∧ Int.ofNat i = Int.ofNat i ∧ (Xq (dg A i) A O i (List.length A)).fst = (Xq (dg A i) A O i k).fst]
theorem Jpv (A O:Dg) (i k:Nat) (hNeeds:∀ pN ∈ (JPq A O i k),pN):Jz (XU (JRd A O i) (QU Tryz.prog (JB JGa) JLM 138 1) 39 k) :=
  Jz.of (ps := (JPq A O i k)) (by kernel_rfl) (by kernel_rfl) hNeeds
theorem Jj6 (A O:Dg) (i:Nat):Qv (JRd A O i) (QU Tryz.prog (JB JGa) JLM 138 1) 39 := by
  intro k hJ
  have hJ' := hJ
  obtain ⟨h1,h2,hA,hO,h3,h4⟩:k ≤ A.length ∧ i < A.length ∧ jK A ∧ jK O ∧ O.length = A.length + A.length ∧ A.length + A.length ≤ 1000000 := hJ
  have hl:List.length (Xq (dg A i) A O i k).fst = A.length + A.length := by rw [WN,h3]
  refine Jpv A O i k fun q hq => ?_
  unfold JPq at hq
  simp only [List.mem_cons,List.not_mem_nil,or_false] at hq
  have ew:IntKind.i64.wrap (Int.ofNat i + Int.ofNat k) = Int.ofNat (i + k) := by rw [X7 (by simp; omega) (by simp; omega)]; simp
  have ew2:(IntKind.i64.wrap (Int.ofNat i + Int.ofNat k)).toNat = i + k := by rw [ew]; rfl
  have es:JfC A k → k < A.length := fun h => by simpa [JfC] using h
  have e2:JeM A O i k = (Xq (dg A i) A O i k).1.getD (i + k) [] := by unfold JeM; rw [ew2]
  rcases hq with rfl | rfl | rfl
  · intro h
    have hk := es h
    have e1:JQ5 A O i k := by unfold JQ5; rw [ew2,hl]; omega
    have e0:0 ≤ IntKind.i64.wrap (Int.ofNat i + Int.ofNat k) := by rw [ew]; exact Int.natCast_nonneg _
    exact ⟨e0,e1,e1,by simp,h2,h2,by simp,hk,hk,e0,e1,e1⟩
  · intro h
    have hk := es h
    obtain ⟨hr,hc⟩ := JKy (i := i) (hA i) hA hO k (by omega)
    obtain ⟨d1,d2⟩ := hr (i + k)
    obtain ⟨p1,p2⟩ := JZv (hA i) (hA k)
    have e3:JdO A O i k = dg (Xq (dg A i) A O i k).1 (i + k) + dg A i * dg A k + (Xq (dg A i) A O i k).2 := by
      unfold JdO
      rw [e2]
      show IntKind.u64.wrap (IntKind.u64.wrap (dg (Xq (dg A i) A O i k).1 (i + k) + IntKind.u64.wrap (dg A i * dg A k)) + _) = _
      rw [W4 p1 (by omega),W4 (x := _ + dg A i * dg A k) (by omega) (by omega),W4 (by omega) (by omega)]
    have e4:0 ≤ dg (Xq (dg A i) A O i k).1 (i + k) + dg A i * dg A k + (Xq (dg A i) A O i k).2 := by omega
    refine ⟨⟨hk,h2,hA,hO,h3,h4⟩,?_,trivial,?_,?_,trivial,?_⟩
    · show A.length - (k + 1) < A.length - k; omega
    · rw [X7 (by simp; omega) (by simp; omega)]; rfl
    · rw [e3,Jrt _ e4]; rfl
    · rw [e3,JrX _ e4 (by omega),ew2]; rfl
  · intro h
    have hk:k = A.length := by simp at h; omega
    subst hk
    exact ⟨rfl,trivial,rfl⟩
def JxH:QH := fun env mem m => match Jur env mem m with
  | some x => some x
  | none => (match JMB [.int .u64] env mem 0,JMB [.int .u64] env mem 5,Wj env 6 with
    | some A,some O,some i => jY (JRd A O i.toNat) 39 (fun _ _ => some 0) env mem m
    | _,_,_ => none)
def Jmk:FuncId → Nat → Option QH := JBZ JLM 138 7 JxH
theorem JVl:Known Tryz.prog (JB JGa) Jmk := by
  refine Qj 1 JWV (by kernel_rfl) (Qy fun env mem m x h => ?_)
  unfold JxH at h
  have hlen:(QZ Tryz.prog 138).length = 2 := by kernel_rfl
  split at h
  · rename_i h1
    cases h
    unfold Jur at h1
    split at h1
    · exact ⟨_,XF (Qa Zy JMz (by omega)) (JYF _ _ _ _),h1⟩
    · cases h1
  · split at h
    · exact ⟨_,XF (Qa Zy JWV (by omega)) (Jj6 _ _ _),h⟩
    · cases h
def JI4 (A:Dg):Fam Nat Unit where
  k := 20
  E i := [(6,ent 1000000000 (.one (I (Int.ofNat i)))),(5,ent 1000000001 (.one (.wh 14))),(0,ent 0 (.one (.wh 0))),(1,ent 2 (.one (.wh 0)))]
  M i := [JBx 14 1000000002 (Z1 A A i),JBx 0 1 A]
  out _ := .leaf (.exit 0) [(5,ent 16 (.one (.wh 14)))] [JBx 14 17 (Z1 A A A.length),JBx 0 1 A]
  fin _ := ()
  next i _ := i + 1
  J i := i ≤ A.length ∧ jK A ∧ A.length + A.length ≤ 1000000
  μ i := A.length - i
section
variable (A:Dg) (i:Nat)
def Jdf:Prop:= decide (Int.ofNat i < Int.ofNat (List.length A)) = true
def Jsy:Prop:= List.length A + List.length A ≤ 1000000
def JGY:Int:= IntKind.i64.wrap (Int.ofNat (Int.ofNat i).toNat + Int.ofNat (List.length A))
def JSG:Prop:= (JGY A i).toNat < List.length (Xq (dg A (Int.ofNat i).toNat) A (Z1 A A i) (Int.ofNat i).toNat (List.length A)).fst
def Je8:List Int:= List.getD (Xq (dg A (Int.ofNat i).toNat) A (Z1 A A i) (Int.ofNat i).toNat (List.length A)).fst (JGY A i).toNat []
end
def JR3 (A:Dg) (i:Nat):List Prop := [Jdf A i → (0 ≤ List.length A ∧ (Int.ofNat i).toNat < List.length A ∧ (∀ (i:Nat),0 ≤ dg A i ∧ dg A i < 65536) ∧ (∀ (i_1:Nat),0 ≤ dg (Z1 A A i) i_1 ∧ dg (Z1 A A i) i_1 < 65536) ∧ List.length (Z1 A A i) = List.length A + List.length A ∧ Jsy A) ∧ Int.ofNat 0 = 0 ∧ (Xq (dg A (Int.ofNat i).toNat) A (Z1 A A i) (Int.ofNat i).toNat 0).snd = 0 ∧ Int.ofNat (Int.ofNat i).toNat = Int.ofNat i ∧ (Xq (dg A (Int.ofNat i).toNat) A (Z1 A A i) (Int.ofNat i).toNat 0).fst = Z1 A A i ∧ 0 ≤ JGY A i ∧ JSG A i ∧ JSG A i ∧ 0 ≤ JGY A i ∧ JSG A i ∧ JSG A i,Jdf A i → ((JI4 A).next i 0 ≤ List.length A ∧ (∀ (i:Nat),0 ≤ dg A i ∧ dg A i < 65536) ∧ Jsy A) ∧ (JI4 A).μ ((JI4 A).next i 0) < (JI4 A).μ i ∧ (JI4 A).fin ((JI4 A).next i 0) = (JI4 A).fin i ∧ Int.ofNat ((JI4 A).next i 0) = IntKind.i64.wrap (Int.ofNat (Int.ofNat i).toNat + 1) ∧ Z1 A A ((JI4 A).next i 0) = List.set (Xq (dg A (Int.ofNat i).toNat) A (Z1 A A i) (Int.ofNat i).toNat (List.length A)).fst (JGY A i).toNat (kU 1 0 0 [IntKind.u64.wrap ((Je8 A i).getD 0 0 + (Xq (dg A (Int.ofNat i).toNat) A (Z1 A A i) (Int.ofNat i).toNat (List.length A)).snd)] (Je8 A i)),decide (Int.ofNat i < Int.ofNat (List.length A)) = false → Z1 A A (List.length A) = Z1 A A i]
theorem Jou (A:Dg) (i:Nat) (hNeeds:∀ pN ∈ (JR3 A i),pN):Jz (XU (JI4 A) (QU Tryz.prog (JB JGa) Jmk 138 0) 13 i) :=
  Jz.of (ps := (JR3 A i)) (by kernel_rfl) (by kernel_rfl) hNeeds
theorem Jj2 (A:Dg):Qv (JI4 A) (QU Tryz.prog (JB JGa) Jmk 138 0) 13 := by
  intro i hJ
  obtain ⟨h1,hA,h4⟩:i ≤ A.length ∧ jK A ∧ A.length + A.length ≤ 1000000 := hJ
  have e0:(Int.ofNat i).toNat = i := rfl
  have e1:JGY A i = Int.ofNat (i + A.length) := by unfold JGY; rw [e0,X7 (by simp; omega) (by simp; omega)]; simp
  have e2:(JGY A i).toNat = i + A.length := by rw [e1]; rfl
  have hl := Xe A A i
  have hn:List.length (Xq (dg A i) A (Z1 A A i) i A.length).fst = A.length + A.length := by rw [WN,hl]
  have es:Jdf A i → i < A.length := fun h => by simpa [Jdf] using h
  have e3:Je8 A i = (Xq (dg A i) A (Z1 A A i) i A.length).1.getD (i + A.length) [] := by unfold Je8; rw [e2,e0]
  refine Jou A i fun q hq => ?_
  unfold JR3 at hq
  simp only [List.mem_cons,List.not_mem_nil,or_false,e0] at hq
  rcases hq with rfl | rfl | rfl
  · intro h
    have hi := es h
    have e4:JSG A i := by unfold JSG; rw [e2,e0,hn]; omega
    have e5:0 ≤ JGY A i := by rw [e1]; exact Int.natCast_nonneg _
    exact ⟨⟨Nat.zero_le _,hi,hA,JCS hA hA i (by omega),hl,h4⟩,rfl,rfl,trivial,rfl,e5,e4,e4,e5,e4,e4⟩
  · intro h
    have hi := es h
    obtain ⟨hr,c1,c2⟩ := JKy (i := i) (hA i) hA (JCS hA hA i (by omega)) A.length (by omega)
    obtain ⟨d1,d2⟩ := hr (i + A.length)
    refine ⟨⟨hi,hA,h4⟩,?_,trivial,?_,?_⟩
    · show A.length - (i + 1) < A.length - i; omega
    · rw [X7 (by simp; omega) (by simp; omega)]; rfl
    · rw [e2,e3]
      have:IntKind.u64.wrap (dg (Xq (dg A i) A (Z1 A A i) i A.length).1 (i + A.length) + (Xq (dg A i) A (Z1 A A i) i A.length).2) = dg (Xq (dg A i) A (Z1 A A i) i A.length).1 (i + A.length) + (Xq (dg A i) A (Z1 A A i) i A.length).2 := W4 (by omega) (by omega)
      show _ = List.set _ _ [IntKind.u64.wrap (dg (Xq (dg A i) A (Z1 A A i) i A.length).1 (i + A.length) + (Xq (dg A i) A (Z1 A A i) i A.length).2)]
      rw [this]; rfl
  · intro h
    have:i = A.length := by simp at h; omega
    rw [this]
def JxC:QH := fun env mem m => match Jnh env mem m with
  | some x => some x
  | none => (match JMB [.int .u64] env mem 0 with
    | some A => jY (JI4 A) 13 (fun _ _ => some 0) env mem m
    | _ => none)
def Jcf:FuncId → Nat → Option QH := JBZ Jmk 138 3 JxC
theorem Jaj:Known Tryz.prog (JB JGa) Jcf := by
  refine Qj 0 JVl (by kernel_rfl) (Qy fun env mem m x h => ?_)
  unfold JxC at h
  have hlen:(QZ Tryz.prog 138).length = 2 := by kernel_rfl
  split at h
  · rename_i h1
    cases h
    unfold Jnh at h1
    split at h1
    · exact ⟨_,XF (Qa Zy JMV (by omega)) (JY1 _ _),h1⟩
    · cases h1
  · split at h
    · exact ⟨_,XF (Qa Zy JVl (by omega)) (Jj2 _),h⟩
    · cases h
def JJK:Tpl := ⟨[.one (.wh 0),.one (.wh 0)],[(0,.row false 140 1 1 [.int .u64])],2⟩
def QL (A:LL):Dg := JEv (Z1 A A A.length)
def JGf (A:LL):Int := IntKind.i64.wrap (Int.ofNat A.length + Int.ofNat A.length)
def JHi (A:LL):List Prop := [0 ≤ JGf A,((JGf A).toNat + 0) * 8 ≤ 140737488355328,(JGf A).toNat + 0 ≤ 9223372036854775807,0 ≤ A.length ∧ (∀ (i:Nat),0 ≤ dg A i ∧ dg A i < 65536) ∧ A.length + A.length ≤ 1000000,Int.ofNat 0 = 0,Z1 A A 0 = List.replicate (JGf A).toNat [0],List.length (Z1 A A A.length) ≤ 1000000]
theorem JoR {A:LL} (hW:∀ q ∈ ([jK A,A.length + A.length ≤ 1000000]:List Prop),q):∀ q ∈ (JHi A),q := by
  simp only [awc,awn,and_true] at hW
  intro q hq
  unfold JHi at hq
  simp only [List.mem_cons,List.not_mem_nil,or_false] at hq
  obtain ⟨hA,h⟩ := hW
  have e:JGf A = Int.ofNat (A.length + A.length) := by unfold JGf; rw [X7 (by simp; omega) (by simp; omega)]; simp
  have e2:(JGf A).toNat = A.length + A.length := by rw [e]; rfl
  rcases hq with rfl | rfl | rfl | rfl | rfl | rfl | rfl
  · rw [e]; exact Int.natCast_nonneg _
  · rw [e2]; omega
  · rw [e2]; omega
  · exact ⟨Nat.zero_le _,hA,h⟩
  · rfl
  · rw [e2]; rfl
  · rw [Xe]; exact h
theorem Jq9 (A:LL) (hNeeds:∀ pN ∈ (JHi A),pN):Runs (Js (JB JGa) Jcf 138) (JJK.args []) (JJK.memo [] [A]) JJK.n (SV.one (SC.wh 39)) ([(39,Obj.row false 140 1 (RowC.lst 42 [CK.int IntKind.u64] (QL A))),(0,Obj.row false 140 1 (RowC.lst 1 [CK.int IntKind.u64] A))]) :=
  Runs.of1 (ps := (JHi A)) (by kernel_rfl) hNeeds
def JY7:List Pm → Qr → Option CRes
  | [],[A] => some ⟨SV.one (SC.wh 39),
 [(39,Obj.row false 140 1 (RowC.lst 42 [CK.int IntKind.u64] (QL A))),(0,Obj.row false 140 1 (RowC.lst 1 [CK.int IntKind.u64] A))],[jK A,A.length + A.length ≤ 1000000],[],61⟩
  | _,_ => none
theorem JuP:Qk Tryz.prog 138 (JS JJK JY7) := by
  refine JH (JD Jaj 138) fun ps ls r hr hn _ => ?_
  unfold JY7 at hr
  split at hr
  · cases hr; exact ⟨_,Jq9 _ (JoR (by exact hn)),fun _ => rfl⟩
  · cases hr
def JPY:List (Nat × JW) := (138,orS (JS JJK JY7) (JS JGK JN9)) :: JGa
theorem JW7:Known Tryz.prog (JB JPY) Jcf := J7 Jaj (JJN JuP JnQ)
def rtF (X:Dg):Fam Nat Unit where
  k := 20
  E j := [(6,ent 1000000000 (.one (I (62 - Int.ofNat j)))),(5,ent 1000000001 (.one (U (fr 63 (val X) j)))),(0,ent 0 (.one (.wh 0)))]
  M j := [JBx 0 1 X]
  out _ := .leaf (.exit 0) [(5,ent 7 (.one (U (fr 63 (val X) 63)))),(0,ent 0 (.one (.wh 0)))] [JBx 0 1 X]
  fin _ := ()
  next j _ := j + 1
  J j := j ≤ 63 ∧ jK X ∧ JHP X ∧ X.length ≤ 1000000 ∧ val X < 85070591730234615865843651857942052864
  μ j := 63 - j
section
variable (X:Dg) (j:Nat)
def Js0:Prop:= decide (62 - Int.ofNat j ≥ 0) = true
def JmV:Prop:= 0 ≤ IntKind.u64.wrap (62 - Int.ofNat j)
def JGQ:Int:= Zi BinOp.or IntKind.u64 (fr 63 (val X) j) (JU BinOp.shl IntKind.u64 1 (IntKind.u64.wrap (62 - Int.ofNat j)))
def Jt1:Bool:= decide (JFt (QL (JA (JGQ X j))) X ≤ 0)
end
def Jak (X:Dg) (j:Nat):List Prop := [Js0 j → JmV j ∧ 0 ≤ JGQ X j ∧ JGQ X j < 18446744073709551616 ∧ (∀ (i:Nat),0 ≤ dg (JA (JGQ X j)) i ∧ dg (JA (JGQ X j)) i < 65536) ∧ List.length (JA (JGQ X j)) + List.length (JA (JGQ X j)) ≤ 1000000 ∧ List.length (QL (JA (JGQ X j))) ≤ 1000000 ∧ (Jt1 X j = true → JmV j),Js0 j → ((rtF X).next j 0 ≤ 63 ∧ (∀ (i:Nat),0 ≤ dg X i ∧ dg X i < 65536) ∧ (List.length X ≠ 0 → dg X (List.length X - 1) ≠ 0) ∧ List.length X ≤ 1000000 ∧ val X < 85070591730234615865843651857942052864) ∧ (rtF X).μ ((rtF X).next j 0) < (rtF X).μ j ∧ (rtF X).fin ((rtF X).next j 0) = (rtF X).fin j ∧ 62 - Int.ofNat ((rtF X).next j 0) = IntKind.i64.wrap (62 - Int.ofNat j - 1) ∧ fr 63 (val X) ((rtF X).next j 0) = bif Jt1 X j then JGQ X j else fr 63 (val X) j,decide (62 - Int.ofNat j ≥ 0) = false → fr 63 (val X) 63 = fr 63 (val X) j]
theorem Jrg (X:Dg) (j:Nat) (hNeeds:∀ pN ∈ (Jak X j),pN):Jz (XU (rtF X) (QU Tryz.prog (JB JPY) Jcf 174 0) 7 j) :=
  Jz.of (ps := (Jak X j)) (by kernel_rfl) (by kernel_rfl) hNeeds
theorem sqD {n:Int} (h:0 ≤ n ∧ n < 18446744073709551616) {X:Dg} (hX:jK X) (nX:JHP X):JFt (QL (JA n)) X = KC (n * n) (val X) ∧ jK (JA n) ∧ (JA n).length ≤ 4 ∧ (QL (JA n)).length ≤ 8 := by
  obtain ⟨x1,x2,x3⟩ := JCK h h
  have h0 := JO4 x1 hX x2 nX
  rw [x3] at h0
  have hl:(JA n).length ≤ 4 := by rw [JA,KX]; exact (Y2 h.1 h.2 (j := 0) (by omega)).2
  refine ⟨h0,Km _ _,hl,?_⟩
  show (JEv _).length ≤ 8
  rw [JIA]
  have := JKx (Z1 (JA n) (JA n) (JA n).length) (Z1 (JA n) (JA n) (JA n).length).length
  rw [Xe] at this
  rw [Xe]
  omega
theorem Jpm (X:Dg):Qv (rtF X) (QU Tryz.prog (JB JPY) Jcf 174 0) 7 := by
  intro j hJ
  obtain ⟨h1,hX,nX,h3,h4⟩:j ≤ 63 ∧ jK X ∧ JHP X ∧ X.length ≤ 1000000 ∧ val X < 85070591730234615865843651857942052864 := hJ
  have v0 := (JOB hX).1
  have v1:val X < 2 ^ 63 * 2 ^ 63 := h4
  have es:Js0 j → j < 63 := fun h => by
    have h:decide (62 - Int.ofNat j ≥ 0) = true := h
    rw [decide_eq_true_eq] at h
    have:(0:Int) ≤ 62 - (j:Int) := h
    omega
  have ew:j < 63 → IntKind.u64.wrap (62 - Int.ofNat j) = ((63 - 1 - j:Nat):Int) := fun h => by
    have e:Int.ofNat j = (j:Int) := rfl
    rw [e,W4 (by omega) (by omega)]
    omega
  have e2:j < 63 → JGQ X j = fr 63 (val X) j + 2 ^ (63 - 1 - j) ∧ 0 ≤ JGQ X j ∧ JGQ X j < 18446744073709551616 := fun h => by
    have := Jqv v0 v1 h (by omega)
    unfold JGQ
    rw [ew h,this.1]
    exact ⟨rfl,this.2⟩
  refine Jrg X j fun q hq => ?_
  unfold Jak at hq
  simp only [List.mem_cons,List.not_mem_nil,or_false] at hq
  rcases hq with rfl | rfl | rfl
  · intro h
    have hj := es h
    obtain ⟨e3,b1,b2⟩ := e2 hj
    obtain ⟨_,d2,d3,d4⟩ := sqD ⟨b1,b2⟩ hX nX
    have e1:JmV j := by unfold JmV; rw [ew hj]; exact Int.natCast_nonneg _
    exact ⟨e1,b1,b2,d2,by omega,by omega,fun _ => e1⟩
  · intro h
    have hj := es h
    obtain ⟨e3,b1,b2⟩ := e2 hj
    obtain ⟨d1,_,_,_⟩ := sqD ⟨b1,b2⟩ hX nX
    refine ⟨⟨hj,hX,nX,h3,h4⟩,?_,trivial,?_,?_⟩
    · show 63 - (j + 1) < 63 - j; omega
    · have e:Int.ofNat j = (j:Int) := rfl
      have e':Int.ofNat (j + 1) = (j:Int) + 1 := rfl
      show 62 - Int.ofNat (j + 1) = _
      rw [e,e',X7 (by omega) (by omega)]
      omega
    · show fr 63 (val X) (j + 1) = _
      unfold Jt1
      rw [d1,JdJ,e3]
      rfl
  · intro h
    have h:decide (62 - Int.ofNat j ≥ 0) = false := h
    rw [decide_eq_false_iff_not] at h
    have h:¬ (62 - (j:Int) ≥ 0) := h
    have:j = 63 := by omega
    rw [this]
def rtL:QH := fun env mem m => match JMB [.int .u64] env mem 0 with
  | some X => jY (rtF X) 7 (fun _ _ => some 0) env mem m
  | none => none
def JUM:FuncId → Nat → Option QH := JBZ Jcf 174 3 rtL
theorem Jby:Known Tryz.prog (JB JPY) JUM := by
  refine Qj 0 JW7 (by kernel_rfl) (Qy fun env mem m x h => ?_)
  unfold rtL at h
  have hlen:(QZ Tryz.prog 174).length = 1 := by kernel_rfl
  split at h
  · exact ⟨_,XF (Qa Zy JW7 (by omega)) (Jpm _),h⟩
  · cases h
def JGI:Tpl := ⟨[.one (.wh 0)],[(0,.row false 140 1 1 [.int .u64])],2⟩
section
variable (X:LL)
def JKK:Bool:= JFt (JY (JA (fr 63 (val X) 63)) (JA (fr 63 (val X) 63))) X == 0
def Jhx:Int:= JFt X (JY (JA (fr 63 (val X) 63)) (JA (IntKind.u64.wrap (fr 63 (val X) 63 + 1))))
def JKe:Int:= bif decide (Jhx X > 0) then 1 else -1
def JCe:Int:= IntKind.u64.wrap (fr 63 (val X) 63 + 1)
end
def JE3 (X:LL):List Prop := [0 ≤ 63 ∧ (∀ (i:Nat),0 ≤ dg X i ∧ dg X i < 65536) ∧ (X.length ≠ 0 → dg X (X.length - 1) ≠ 0) ∧ X.length ≤ 1000000 ∧ val X < 85070591730234615865843651857942052864,Int.ofNat 62 = 62,fr 63 (val X) 0 = 0,0 ≤ fr 63 (val X) 63,fr 63 (val X) 63 < 18446744073709551616,0 ≤ JCe X,JCe X < 18446744073709551616,∀ (i:Nat),0 ≤ dg (JA (fr 63 (val X) 63)) i ∧ dg (JA (fr 63 (val X) 63)) i < 65536,∀ (i:Nat),0 ≤ dg (JA (JCe X)) i ∧ dg (JA (JCe X)) i < 65536,List.length (JA (fr 63 (val X) 63)) + List.length (JA (JCe X)) ≤ 1000000,X.length ≤ 1000000,0 ≤ fr 63 (val X) 63,fr 63 (val X) 63 < 18446744073709551616,0 ≤ fr 63 (val X) 63,fr 63 (val X) 63 < 18446744073709551616,∀ (i:Nat),0 ≤ dg (JA (fr 63 (val X) 63)) i ∧ dg (JA (fr 63 (val X) 63)) i < 65536,∀ (i:Nat),0 ≤ dg (JA (fr 63 (val X) 63)) i ∧ dg (JA (fr 63 (val X) 63)) i < 65536,List.length (JA (fr 63 (val X) 63)) + List.length (JA (fr 63 (val X) 63)) ≤ 1000000,List.length (JY (JA (fr 63 (val X) 63)) (JA (fr 63 (val X) 63))) ≤ 1000000]
theorem JlE {X:LL} (hW:∀ q ∈ ([jK X,JHP X,X.length ≤ 1000000,val X < 85070591730234615865843651857942052864]:List Prop),q):∀ q ∈ (JE3 X),q := by
  simp only [awc,awn,and_true] at hW
  unfold JE3
  simp only [awc,awn,and_true]
  obtain ⟨hX,nX,h3,h4⟩ := hW
  have v0 := (JOB hX).1
  have v1:val X < 2 ^ 63 * 2 ^ 63 := h4
  obtain ⟨r0,r1⟩ := Jsa v0 v1 (j := 63) (by omega)
  have e63:(2:Int) ^ 63 = 9223372036854775808 := rfl
  rw [e63] at r1
  have e1:JCe X = fr 63 (val X) 63 + 1 := W4 (by omega) (by omega)
  have l0:∀ n:Int,0 ≤ n → n < 18446744073709551616 → (JA n).length ≤ 4 := fun n a b => by rw [JA,KX]; exact (Y2 a b (j := 0) (by omega)).2
  have l1 := l0 (fr 63 (val X) 63) r0 (by omega)
  have l2 := l0 (JCe X) (by omega) (by omega)
  have l3:(JY (JA (fr 63 (val X) 63)) (JA (fr 63 (val X) 63))).length ≤ 8 := (sqD ⟨r0,by omega⟩ hX nX).2.2.2
  exact ⟨⟨by omega,hX,nX,h3,h4⟩,rfl,rfl,r0,by omega,by omega,by omega,Km _ _,Km _ _,by omega,h3,r0,by omega,r0,by omega,Km _ _,Km _ _,by omega,by omega⟩
theorem JlI (X:LL) (hNeeds:∀ pN ∈ (JE3 X),pN):Runs (Js (JB JPY) JUM 174) (JGI.args []) (JGI.memo [] [X]) JGI.n (SV.tup [(false,[SC.int IntKind.u64 (SI.v (fr 63 (val X) 63))]),(false,[Cb (JKK X)]),(false,[Ci (JKe X)])]) ([(0,Obj.row false 140 1 (RowC.lst 1 [CK.int IntKind.u64] X))]) :=
  Runs.of1 (ps := (JE3 X)) (by kernel_rfl) hNeeds
def JR2:List Pm → Qr → Option CRes
  | [],[X] => some ⟨SV.tup [(false,[SC.int IntKind.u64 (SI.v (fr 63 (val X) 63))]),(false,[Cb (JKK X)]),(false,[Ci (JKe X)])],
 [(0,Obj.row false 140 1 (RowC.lst 1 [CK.int IntKind.u64] X))],[jK X,JHP X,X.length ≤ 1000000,val X < 85070591730234615865843651857942052864],[],360⟩
  | _,_ => none
theorem Jtb:Qk Tryz.prog 174 (JS JGI JR2) := by
  refine JH (JD Jby 174) fun ps ls r hr hn _ => ?_
  unfold JR2 at hr
  split at hr
  · cases hr; exact ⟨_,JlI _ (JlE (by exact hn)),fun _ => rfl⟩
  · cases hr
def Jei:List (Nat × JW) := (174,JS JGI JR2) :: JPY
theorem JTj:Known Tryz.prog (JB Jei) JUM := J7 Jby Jtb
def jC:Tpl := ⟨[.one (.bool),.one (.int .u64),.one (.bool),.one (.int .i64),.one (.int .i64)],[],0⟩
section
variable (neg:Bool) (q:Int) (exact:Bool) (half mode:Int)
def XZ:Int:= bif bif mode == 0 then neg && !exact else bif mode == 1 then !neg && !exact else neg && decide (half > 0) || !neg && decide (half ≥ 0) then IntKind.u64.wrap (q + 1) else q
def jh:Int:= bif decide (q > 9223372036854775808) then 0 else bif neg then bif decide (XZ neg q exact half mode > 9223372036854775808) then 0 else bif XZ neg q exact half mode == 0 then 0 else IntKind.i64.wrap (IntKind.i64.wrap (0 - IntKind.i64.wrap (IntKind.u64.wrap (XZ neg q exact half mode - 1))) - 1) else bif decide (XZ neg q exact half mode > 9223372036854775807) then 0 else IntKind.i64.wrap (XZ neg q exact half mode)
def jP:Bool:= bif decide (q > 9223372036854775808) then false else bif neg then !decide (XZ neg q exact half mode > 9223372036854775808) else !decide (XZ neg q exact half mode > 9223372036854775807)
end
theorem Jb9 (neg:Bool) (q:Int) (exact:Bool) (half mode:Int):Runs (Js (JB Jei) JUM 166) (jC.args [.b neg,.i q,.b exact,.i half,.i mode]) (jC.memo [.b neg,.i q,.b exact,.i half,.i mode] []) jC.n (SV.tup [(false,[Ci (jh neg q exact half mode)]),(false,[Cb (jP neg q exact half mode)])]) ([]) :=
  Runs.of1 (ps := []) (by kernel_rfl) (by simp)
def JHQ:List Pm → Qr → Option CRes
  | [.b neg,.i q,.b exact,.i half,.i mode],[] => some ⟨SV.tup [(false,[Ci (jh neg q exact half mode)]),(false,[Cb (jP neg q exact half mode)])],
 [],[],[],74⟩
  | _,_ => none
theorem Jfu:Qk Tryz.prog 166 (JS jC JHQ) := by
  refine JH (JD JTj 166) fun ps ls r hr hn _ => ?_
  unfold JHQ at hr
  split at hr
  · cases hr; exact ⟨_,Jb9 _ _ _ _ _,fun _ => rfl⟩
  · cases hr
def JMq:List (Nat × JW) := (166,JS jC JHQ) :: Jei
theorem JIg:Known Tryz.prog (JB JMq) JUM := J7 JTj Jfu
def JFP:Tpl := ⟨[.one (.int .i64),.one (.int .i64),.one (.int .i64)],[],0⟩
def qC (a b mode:Int):Int := bif decide (a < 0) || decide (b < 0) || !(mode == 0 || mode == 1 || mode == 2) then 0 else jh false (fr 63 (val (JY (JA (J6 a)) (JA (J6 b)))) 63) (JKK (JY (JA (J6 a)) (JA (J6 b)))) (JKe (JY (JA (J6 a)) (JA (J6 b)))) mode
def JHC (a b mode:Int):Bool := bif decide (a < 0) || decide (b < 0) || !(mode == 0 || mode == 1 || mode == 2) then false else jP false (fr 63 (val (JY (JA (J6 a)) (JA (J6 b)))) 63) (JKK (JY (JA (J6 a)) (JA (J6 b)))) (JKe (JY (JA (J6 a)) (JA (J6 b)))) mode
def JEC (a b mode:Int):List Prop := [(decide (a < 0) || decide (b < 0) || !(mode == 0 || mode == 1 || mode == 2)) = false → (-9223372036854775808 ≤ a ∧ a < 9223372036854775808) ∧ (-9223372036854775808 ≤ b ∧ b < 9223372036854775808) ∧ (∀ (i:Nat),0 ≤ dg (JY (JA (J6 a)) (JA (J6 b))) i ∧ dg (JY (JA (J6 a)) (JA (J6 b))) i < 65536) ∧ (List.length (JY (JA (J6 a)) (JA (J6 b))) ≠ 0 → dg (JY (JA (J6 a)) (JA (J6 b))) (List.length (JY (JA (J6 a)) (JA (J6 b))) - 1) ≠ 0) ∧ List.length (JY (JA (J6 a)) (JA (J6 b))) ≤ 1000000 ∧ val (JY (JA (J6 a)) (JA (J6 b))) < 85070591730234615865843651857942052864]
theorem Jku {a:Int} {b:Int} {mode:Int} (hW:∀ q ∈ ([XY a,XY b]:List Prop),q):∀ q ∈ (JEC a b mode),q := by
  simp only [awc,awn,and_true] at hW
  unfold JEC
  simp only [awc,awn,and_true]
  obtain ⟨ha,hb⟩ := hW
  intro h
  simp only [Bool.or_eq_false_iff,decide_eq_false_iff_not] at h
  obtain ⟨⟨a0,b0⟩,_⟩ := h
  have a1 := Qs ha
  have b1 := Qs hb
  obtain ⟨x1,x2,x3⟩ := JCK a1 b1
  have la:(JA (J6 a)).length ≤ 4 := by rw [JA,KX]; exact (Y2 a1.1 a1.2 (j := 0) (by omega)).2
  have lb:(JA (J6 b)).length ≤ 4 := by rw [JA,KX]; exact (Y2 b1.1 b1.2 (j := 0) (by omega)).2
  refine ⟨ha,hb,x1,x2,?_,?_⟩
  · show (JEv _).length ≤ _
    rw [JIA]
    have := JKx (Z1 (JA (J6 a)) (JA (J6 b)) (JA (J6 a)).length) (Z1 (JA (J6 a)) (JA (J6 b)) (JA (J6 a)).length).length
    rw [Xe] at this
    rw [Xe]
    omega
  · have e:val (JY (JA (J6 a)) (JA (J6 b))) = a * b := by
      show val (JWh _ _) = _
      rw [x3,Xw a ha,Xw b hb,if_neg a0,if_neg b0]
    rw [e]
    obtain ⟨_,h2⟩ := Kk 9223372036854775807 9223372036854775807 (x := a) (y := b) ⟨by omega,by omega⟩ ⟨by omega,by omega⟩ (by omega)
    omega
theorem JlC (a b mode:Int) (hNeeds:∀ pN ∈ (JEC a b mode),pN):Runs (Js (JB JMq) JUM 168) (JFP.args [.i a,.i b,.i mode]) (JFP.memo [.i a,.i b,.i mode] []) JFP.n (SV.tup [(false,[Ci (qC a b mode)]),(false,[Cb (JHC a b mode)])]) ([]) :=
  Runs.of1 (ps := (JEC a b mode)) (by kernel_rfl) hNeeds
def JR4:List Pm → Qr → Option CRes
  | [.i a,.i b,.i mode],[] => some ⟨SV.tup [(false,[Ci (qC a b mode)]),(false,[Cb (JHC a b mode)])],
 [],[XY a,XY b],[],625⟩
  | _,_ => none
theorem Jsd:Qk Tryz.prog 168 (JS JFP JR4) := by
  refine JH (JD JIg 168) fun ps ls r hr hn _ => ?_
  unfold JR4 at hr
  split at hr
  · cases hr; exact ⟨_,JlC _ _ _ (Jku (by exact hn)),fun _ => rfl⟩
  · cases hr
def Jfb:List (Nat × JW) := (168,JS JFP JR4) :: JMq
theorem JU8:Known Tryz.prog (JB Jfb) JUM := J7 JIg Jsd
def JFi:Tpl := ⟨[.one (.int .i64),.one (.int .i64)],[],0⟩
def JDl (a:Int):List Prop := [-9223372036854775808 ≤ a ∧ a < 9223372036854775808,-9223372036854775808 ≤ 1 ∧ Int.ofNat 1 < 9223372036854775808]
theorem Jjo {a:Int} (hW:∀ q ∈ ([XY a]:List Prop),q):∀ q ∈ (JDl a),q := by
  simp only [awc,awn,and_true] at hW
  unfold JDl
  simp only [awc,awn,and_true]
  exact ⟨hW,by decide⟩
theorem JlN (a mode:Int) (hNeeds:∀ pN ∈ (JDl a),pN):Runs (Js (JB Jfb) JUM 146) (JFi.args [.i a,.i mode]) (JFi.memo [.i a,.i mode] []) JFi.n (SV.tup [(false,[Ci (qC a 1 mode)]),(false,[Cb (JHC a 1 mode)])]) ([]) :=
  Runs.of1 (ps := (JDl a)) (by kernel_rfl) hNeeds
def JQq:List Pm → Qr → Option CRes
  | [.i a,.i mode],[] => some ⟨SV.tup [(false,[Ci (qC a 1 mode)]),(false,[Cb (JHC a 1 mode)])],
 [],[XY a],[],634⟩
  | _,_ => none
theorem JqW:Qk Tryz.prog 146 (JS JFi JQq) := by
  refine JH (JD JU8 146) fun ps ls r hr hn _ => ?_
  unfold JQq at hr
  split at hr
  · cases hr; exact ⟨_,JlN _ _ (Jjo (by exact hn)),fun _ => rfl⟩
  · cases hr
def JKH:List (Nat × JW) := (146,JS JFi JQq) :: Jfb
theorem JTY:Known Tryz.prog (JB JKH) JUM := J7 JU8 JqW
def ovF (a b m:Int) (X D:Dg):Fam Nat Unit where
  k := 20
  E j := [(14,ent 1000000000 (.one (I (62 - Int.ofNat j)))),(13,ent 1000000001 (.one (U (fr 63 (val X / val D) j)))),(12,ent 301 (.one (.wh 280))),(11,ent 273 (.one (.wh 250))),(0,ent 0 (.one (I a))),(1,ent 2 (.one (I b))),(3,ent 6 (.one (I m)))]
  M j := [JBx 280 283 D,JBx 250 253 X]
  out _ := .leaf (.exit 0) [(13,ent 305 (.one (U (fr 63 (val X / val D) 63)))),(12,ent 301 (.one (.wh 280))),(11,ent 273 (.one (.wh 250))),(0,ent 0 (.one (I a))),(1,ent 2 (.one (I b))),(3,ent 6 (.one (I m)))] [JBx 280 283 D,JBx 250 253 X]
  fin _ := ()
  next j _ := j + 1
  J j := j ≤ 63 ∧ jK X ∧ JHP X ∧ jK D ∧ JHP D ∧ X.length ≤ 100 ∧ D.length ≤ 100 ∧ 0 < val D ∧ val X < 85070591730234615865843651857942052864
  μ j := 63 - j
theorem WF {A B:Dg} (hA:jK A) (hB:jK B):jK (JY A B) ∧ JHP (JY A B) ∧ val (JY A B) = val A * val B ∧ (JY A B).length ≤ A.length + B.length := by
  refine ⟨JgG (JCS hA hB _ (Nat.le_refl _)),JbK _,?_,?_⟩
  · show val (JEv _) = _
    rw [Jhv,Ja4 _ (Nat.le_refl _),JE4]
  · show (JEv _).length ≤ _
    rw [JIA]
    have := JKx (Z1 A B A.length) (Z1 A B A.length).length
    rw [Xe] at this
    rw [Xe]
    omega
theorem JFS {n:Int} (h:0 ≤ n ∧ n < 18446744073709551616):jK (JA n) ∧ (JA n).length ≤ 4 ∧ jK (QL (JA n)) ∧ JHP (QL (JA n)) ∧ val (QL (JA n)) = n * n ∧ (QL (JA n)).length ≤ 8 := by
  have hl:(JA n).length ≤ 4 := by rw [JA,KX]; exact (Y2 h.1 h.2 (j := 0) (by omega)).2
  obtain ⟨x1,x2,x3,x4⟩ := WF (Km n (nd n)) (Km n (nd n))
  have e:val (jD n (nd n)) = n := JKG h.1 h.2
  rw [e] at x3
  exact ⟨Km _ _,hl,x1,x2,x3,by have:(jD n (nd n)).length ≤ 4 := hl; exact Nat.le_trans x4 (by omega)⟩
theorem JFH {n:Int} (h:0 ≤ n ∧ n < 18446744073709551616):jK (JA n) ∧ JHP (JA n) ∧ val (JA n) = n ∧ (JA n).length ≤ 4 := by
  obtain ⟨_,h2,_⟩ := JFS h
  refine ⟨Km _ _,fun hl => ?_,JKG h.1 h.2,h2⟩
  have hlen:(JA n).length = nd n := by rw [JA,KX]
  rw [hlen] at hl ⊢
  have h3 := (Y2 h.1 h.2 (j := nd n - 1) (by omega)).1.2 (by omega)
  show dg (jD n (nd n)) (nd n - 1) ≠ 0
  rw [JdW,if_pos (by omega)]
  have h4:¬ 0 < n / 65536 ^ nd n := fun h5 => by have := (Y2 h.1 h.2 (j := nd n) (by omega)).1.1 h5; omega
  have h6 := JfD n (nd n - 1)
  rw [show nd n - 1 + 1 = nd n by omega] at h6
  have h7:0 ≤ n / 65536 ^ (nd n - 1) := by omega
  omega
section
variable (X D:Dg) (j:Nat)
def Jt0:Prop:= decide (62 - Int.ofNat j ≥ 0) = true
def JnJ:Prop:= 0 ≤ IntKind.u64.wrap (62 - Int.ofNat j)
def JnP:Int:= fr 63 (val X / val D) j
def JAD:Int:= Zi BinOp.or IntKind.u64 (JnP X D j) (JU BinOp.shl IntKind.u64 1 (IntKind.u64.wrap (62 - Int.ofNat j)))
def Jqp:Bool:= decide (JFt (JY (QL (JA (JAD X D j))) D) X ≤ 0)
end
def JY2 (a b m:Int) (X:Dg) (D:Dg) (j:Nat):List Prop := [Jt0 j → JnJ j ∧ 0 ≤ JAD X D j ∧ JAD X D j < 18446744073709551616 ∧ (∀ (i:Nat),0 ≤ dg (JA (JAD X D j)) i ∧ dg (JA (JAD X D j)) i < 65536) ∧ List.length (JA (JAD X D j)) + List.length (JA (JAD X D j)) ≤ 1000000 ∧ (∀ (i:Nat),0 ≤ dg (QL (JA (JAD X D j))) i ∧ dg (QL (JA (JAD X D j))) i < 65536) ∧ (∀ (i:Nat),0 ≤ dg D i ∧ dg D i < 65536) ∧ List.length (QL (JA (JAD X D j))) + List.length D ≤ 1000000 ∧ List.length (JY (QL (JA (JAD X D j))) D) ≤ 1000000 ∧ (Jqp X D j = true → JnJ j),Jt0 j → ((ovF a b m X D).next j 0 ≤ 63 ∧ (∀ (i:Nat),0 ≤ dg X i ∧ dg X i < 65536) ∧ (List.length X ≠ 0 → dg X (List.length X - 1) ≠ 0) ∧ (∀ (i:Nat),0 ≤ dg D i ∧ dg D i < 65536) ∧ (List.length D ≠ 0 → dg D (List.length D - 1) ≠ 0) ∧ List.length X ≤ 100 ∧ List.length D ≤ 100 ∧ 0 < val D ∧ val X < 85070591730234615865843651857942052864) ∧ (ovF a b m X D).μ ((ovF a b m X D).next j 0) < (ovF a b m X D).μ j ∧ (ovF a b m X D).fin ((ovF a b m X D).next j 0) = (ovF a b m X D).fin j ∧ 62 - Int.ofNat ((ovF a b m X D).next j 0) = IntKind.i64.wrap (62 - Int.ofNat j - 1) ∧ fr 63 (val X / val D) ((ovF a b m X D).next j 0) = bif Jqp X D j then JAD X D j else JnP X D j,decide (62 - Int.ofNat j ≥ 0) = false → fr 63 (val X / val D) 63 = JnP X D j]
theorem Jrr (a b m:Int) (X D:Dg) (j:Nat) (hNeeds:∀ pN ∈ (JY2 a b m X D j),pN):Jz (XU (ovF a b m X D) (QU Tryz.prog (JB JKH) JUM 143 0) 304 j) :=
  Jz.of (ps := (JY2 a b m X D j)) (by kernel_rfl) (by kernel_rfl) hNeeds
theorem JxR {p q r:Prop} (hp:p) (hq:q) (hr:r):∀ x ∈ [p,q,r],x := by
  intro x hx
  rcases List.mem_cons.1 hx with rfl | hx
  · exact hp
  rcases List.mem_cons.1 hx with rfl | hx
  · exact hq
  rcases List.mem_cons.1 hx with rfl | hx
  · exact hr
  · cases hx
theorem JpN (a b m:Int) (X D:Dg):Qv (ovF a b m X D) (QU Tryz.prog (JB JKH) JUM 143 0) 304 := by
  intro j hJ
  obtain ⟨h1,hX,nX,hD,nD,lX,lD,d0,x1⟩:j ≤ 63 ∧ jK X ∧ JHP X ∧ jK D ∧ JHP D ∧ X.length ≤ 100 ∧ D.length ≤ 100 ∧ 0 < val D ∧ val X < 85070591730234615865843651857942052864 := hJ
  have x0 := (JOB hX).1
  have v0:0 ≤ val X / val D := Int.ediv_nonneg x0 (Int.le_of_lt d0)
  have v1:val X / val D < 2 ^ 63 * 2 ^ 63 := by
    have := Int.ediv_le_self (val D) x0
    have e:(2:Int) ^ 63 * 2 ^ 63 = 85070591730234615865843651857942052864 := rfl
    omega
  have es:Jt0 j → j < 63 := fun h => by
    have h:decide (62 - Int.ofNat j ≥ 0) = true := h
    rw [decide_eq_true_eq] at h
    have:(0:Int) ≤ 62 - (j:Int) := h
    omega
  have ew:j < 63 → IntKind.u64.wrap (62 - Int.ofNat j) = ((63 - 1 - j:Nat):Int) := fun h => by
    have e:Int.ofNat j = (j:Int) := rfl
    rw [e,W4 (by omega) (by omega)]
    omega
  have e2:j < 63 → JAD X D j = fr 63 (val X / val D) j + 2 ^ (63 - 1 - j) ∧ 0 ≤ JAD X D j ∧ JAD X D j < 18446744073709551616 := fun h => by
    have := Jqv v0 v1 h (by omega)
    unfold JAD JnP
    rw [ew h,this.1]
    exact ⟨rfl,this.2⟩
  refine Jrr a b m X D j ?_
  unfold JY2
  refine JxR ?_ ?_ ?_
  · intro h
    have hj := es h
    obtain ⟨e3,b1,b2⟩ := e2 hj
    obtain ⟨q1,q2,q3,q4,q5,q6⟩ := JFS ⟨b1,b2⟩
    obtain ⟨p1,p2,p3,p4⟩ := WF q3 hD
    have e1:JnJ j := by unfold JnJ; rw [ew hj]; exact Int.natCast_nonneg _
    exact ⟨e1,b1,b2,q1,by omega,q3,hD,by omega,by omega,fun _ => e1⟩
  · intro h
    have hj := es h
    obtain ⟨e3,b1,b2⟩ := e2 hj
    obtain ⟨q1,q2,q3,q4,q5,q6⟩ := JFS ⟨b1,b2⟩
    obtain ⟨p1,p2,p3,p4⟩ := WF q3 hD
    refine ⟨⟨hj,hX,nX,hD,nD,lX,lD,d0,x1⟩,?_,rfl,?_,?_⟩
    · show 63 - (j + 1) < 63 - j; omega
    · have e:Int.ofNat j = (j:Int) := rfl
      have e':Int.ofNat (j + 1) = (j:Int) + 1 := rfl
      show 62 - Int.ofNat (j + 1) = _
      rw [e,e',X7 (by omega) (by omega)]
      omega
    · show fr 63 (val X / val D) (j + 1) = _
      unfold Jqp
      rw [JO4 p1 hX p2 nX,p3,q5,JdJ,e3]
      have hle:decide ((fr 63 (val X / val D) j + 2 ^ (63 - 1 - j)) * (fr 63 (val X / val D) j + 2 ^ (63 - 1 - j)) * val D ≤ val X) = decide ((fr 63 (val X / val D) j + 2 ^ (63 - 1 - j)) * (fr 63 (val X / val D) j + 2 ^ (63 - 1 - j)) ≤ val X / val D) :=
        decide_eq_decide.2 (Int.le_ediv_iff_mul_le d0).symm
      rw [hle]
      rfl
  · intro h
    rw [decide_eq_false_iff_not] at h
    have h:¬ (62 - (j:Int) ≥ 0) := h
    have:j = 63 := by omega
    rw [this]; rfl
def ovL:QH := fun env mem m => match JMB [.int .u64] env mem 11,JMB [.int .u64] env mem 12,Wj env 0,Wj env 1,Wj env 3 with
  | some X,some D,some a,some b,some md => jY (ovF a b md X D) 304 (fun _ _ => some 0) env mem m
  | _,_,_,_,_ => none
def KN:FuncId → Nat → Option QH := JBZ JUM 143 8 ovL
theorem Jbg:Known Tryz.prog (JB JKH) KN := by
  refine Qj 0 JTY (by kernel_rfl) (Qy fun env mem m x h => ?_)
  unfold ovL at h
  have hlen:(QZ Tryz.prog 143).length = 1 := by kernel_rfl
  split at h
  · exact ⟨_,XF (Qa Zy JTY (by omega)) (JpN _ _ _ _ _),h⟩
  · cases h
theorem JgF {a b:Int} (ha:XY a) (hb:XY b) (la:J6 a ≤ 2147483648) (lb:J6 b ≤ 2147483648):jK (JY (JA (J6 a)) (JA (J6 b))) ∧ JHP (JY (JA (J6 a)) (JA (J6 b))) ∧ val (JY (JA (J6 a)) (JA (J6 b))) = J6 a * J6 b ∧ (JY (JA (J6 a)) (JA (J6 b))).length ≤ 8 ∧ 0 ≤ J6 a * J6 b ∧ J6 a * J6 b ≤ 4611686018427387904 := by
  obtain ⟨a1,a2,a3,a4⟩ := JFH (Qs ha)
  obtain ⟨b1,b2,b3,b4⟩ := JFH (Qs hb)
  obtain ⟨p1,p2,p3,p4⟩ := WF a1 b1
  rw [a3,b3] at p3
  have := Kk 2147483648 2147483648 (x := J6 a) (y := J6 b) ⟨(Qs ha).1,la⟩ ⟨(Qs hb).1,lb⟩ (by omega)
  exact ⟨p1,p2,p3,by omega,this.1,by omega⟩
def JFD:Tpl := ⟨[.one (.int .i64),.one (.int .i64),.one (.int .i64),.one (.int .i64)],[],0⟩
section
variable (a b n m:Int)
def Qu:Int:= fr 63 (val (QL (JY (JA (J6 a)) (JA (J6 b)))) / val (JA (IntKind.u64.wrap n))) 63
def jF:Int:= bif decide (J6 a > 2147483648) || decide (J6 b > 2147483648) || decide (n < 1) || decide (n > 4611686018427387904) || !(m == 0 || m == 1 || m == 2) then 0 else jh (decide (Qi a b < 0)) (Qu a b n) (JFt (JY (QL (JA (Qu a b n))) (JA (IntKind.u64.wrap n))) (QL (JY (JA (J6 a)) (JA (J6 b)))) == 0) (JFt (JY (JA 4) (QL (JY (JA (J6 a)) (JA (J6 b))))) (JY (QL (JA (IntKind.u64.wrap (IntKind.u64.wrap (2 * Qu a b n) + 1)))) (JA (IntKind.u64.wrap n)))) m
def JUV:Bool:= bif decide (J6 a > 2147483648) || decide (J6 b > 2147483648) || decide (n < 1) || decide (n > 4611686018427387904) || !(m == 0 || m == 1 || m == 2) then false else jP (decide (Qi a b < 0)) (Qu a b n) (JFt (JY (QL (JA (Qu a b n))) (JA (IntKind.u64.wrap n))) (QL (JY (JA (J6 a)) (JA (J6 b)))) == 0) (JFt (JY (JA 4) (QL (JY (JA (J6 a)) (JA (J6 b))))) (JY (QL (JA (IntKind.u64.wrap (IntKind.u64.wrap (2 * Qu a b n) + 1)))) (JA (IntKind.u64.wrap n)))) m
def YC:Int:= IntKind.u64.wrap (IntKind.u64.wrap (2 * Qu a b n) + 1)
end
def JEH (a b n m:Int):List Prop :=
 [(decide (J6 a > 2147483648) || decide (J6 b > 2147483648) || decide (n < 1) || decide (n > 4611686018427387904) || !(m == 0 || m == 1 || m == 2)) = false → (-9223372036854775808 ≤ a ∧ a < 9223372036854775808) ∧ (-9223372036854775808 ≤ b ∧ b < 9223372036854775808) ∧ (∀ (i:Nat),0 ≤ dg (JY (JA (J6 a)) (JA (J6 b))) i ∧ dg (JY (JA (J6 a)) (JA (J6 b))) i < 65536) ∧ List.length (JY (JA (J6 a)) (JA (J6 b))) + List.length (JY (JA (J6 a)) (JA (J6 b))) ≤ 1000000 ∧ 0 ≤ IntKind.u64.wrap n ∧ IntKind.u64.wrap n < 18446744073709551616 ∧ (0 ≤ 63 ∧ (∀ (i:Nat),0 ≤ dg (QL (JY (JA (J6 a)) (JA (J6 b)))) i ∧ dg (QL (JY (JA (J6 a)) (JA (J6 b)))) i < 65536) ∧ (List.length (QL (JY (JA (J6 a)) (JA (J6 b)))) ≠ 0 → dg (QL (JY (JA (J6 a)) (JA (J6 b)))) (List.length (QL (JY (JA (J6 a)) (JA (J6 b)))) - 1) ≠ 0) ∧ (∀ (i:Nat),0 ≤ dg (JA (IntKind.u64.wrap n)) i ∧ dg (JA (IntKind.u64.wrap n)) i < 65536) ∧ (List.length (JA (IntKind.u64.wrap n)) ≠ 0 → dg (JA (IntKind.u64.wrap n)) (List.length (JA (IntKind.u64.wrap n)) - 1) ≠ 0) ∧ List.length (QL (JY (JA (J6 a)) (JA (J6 b)))) ≤ 100 ∧ List.length (JA (IntKind.u64.wrap n)) ≤ 100 ∧ 0 < val (JA (IntKind.u64.wrap n)) ∧ val (QL (JY (JA (J6 a)) (JA (J6 b)))) < 85070591730234615865843651857942052864) ∧ Int.ofNat 62 = 62 ∧ fr 63 (val (QL (JY (JA (J6 a)) (JA (J6 b)))) / val (JA (IntKind.u64.wrap n))) 0 = 0 ∧ 0 ≤ Qu a b n ∧ Qu a b n < 18446744073709551616 ∧ 0 ≤ YC a b n ∧ YC a b n < 18446744073709551616 ∧ Int.ofNat 0 ≤ 4 ∧ Int.ofNat 4 < 18446744073709551616 ∧ (∀ (i:Nat),Int.ofNat 0 ≤ dg (JA 4) i ∧ dg (JA 4) i < 65536) ∧ (∀ (i:Nat),0 ≤ dg (QL (JY (JA (J6 a)) (JA (J6 b)))) i ∧ dg (QL (JY (JA (J6 a)) (JA (J6 b)))) i < 65536) ∧ 1 + List.length (QL (JY (JA (J6 a)) (JA (J6 b)))) ≤ 1000000 ∧ (∀ (i:Nat),0 ≤ dg (JA (YC a b n)) i ∧ dg (JA (YC a b n)) i < 65536) ∧ List.length (JA (YC a b n)) + List.length (JA (YC a b n)) ≤ 1000000 ∧ (∀ (i:Nat),0 ≤ dg (QL (JA (YC a b n))) i ∧ dg (QL (JA (YC a b n))) i < 65536) ∧ (∀ (i:Nat),0 ≤ dg (JA (IntKind.u64.wrap n)) i ∧ dg (JA (IntKind.u64.wrap n)) i < 65536) ∧ List.length (QL (JA (YC a b n))) + List.length (JA (IntKind.u64.wrap n)) ≤ 1000000 ∧ List.length (JY (JA 4) (QL (JY (JA (J6 a)) (JA (J6 b))))) ≤ 1000000 ∧ (∀ (i:Nat),0 ≤ dg (JA (Qu a b n)) i ∧ dg (JA (Qu a b n)) i < 65536) ∧ List.length (JA (Qu a b n)) + List.length (JA (Qu a b n)) ≤ 1000000 ∧ (∀ (i:Nat),0 ≤ dg (QL (JA (Qu a b n))) i ∧ dg (QL (JA (Qu a b n))) i < 65536) ∧ (∀ (i:Nat),0 ≤ dg (JA (IntKind.u64.wrap n)) i ∧ dg (JA (IntKind.u64.wrap n)) i < 65536) ∧ List.length (QL (JA (Qu a b n))) + List.length (JA (IntKind.u64.wrap n)) ≤ 1000000 ∧ List.length (JY (QL (JA (Qu a b n))) (JA (IntKind.u64.wrap n))) ≤ 1000000]
theorem Jkb {a:Int} {b:Int} {n:Int} {m:Int} (hW:∀ q ∈ ([XY a,XY b,XY n]:List Prop),q):∀ q ∈ (JEH a b n m),q := by
  simp only [awc,awn,and_true] at hW
  unfold JEH
  simp only [awc,awn,and_true]
  obtain ⟨ha,hb,hn⟩ := hW
  intro h
  simp only [Bool.or_eq_false_iff,decide_eq_false_iff_not] at h
  obtain ⟨A1,A2,A3,A4,A5,A6⟩ := JgF ha hb (by omega) (by omega)
  have ew:IntKind.u64.wrap n = n := W4 (by omega) (by omega)
  obtain ⟨D1,D2,D3,D4⟩ := JFH (n := n) ⟨by omega,by omega⟩
  rw [ew]
  have hX:QL (JY (JA (J6 a)) (JA (J6 b))) = JY (JY (JA (J6 a)) (JA (J6 b))) (JY (JA (J6 a)) (JA (J6 b))) := rfl
  obtain ⟨X1,X2,X3,X4⟩ := WF A1 A1
  rw [← hX] at X1 X2 X3 X4
  rw [A3] at X3
  have hp := Kk 4611686018427387904 4611686018427387904 (x := J6 a * J6 b) (y := J6 a * J6 b) ⟨A5,A6⟩ ⟨A5,A6⟩ (by omega)
  have hx1:val (QL (JY (JA (J6 a)) (JA (J6 b)))) < 85070591730234615865843651857942052864 := by rw [X3]; omega
  have es:Qu a b n = fr 63 (val (QL (JY (JA (J6 a)) (JA (J6 b)))) / n) 63 := by unfold Qu; rw [ew,D3]
  have hv:0 ≤ val (QL (JY (JA (J6 a)) (JA (J6 b)))) / n := Int.ediv_nonneg (by rw [X3]; omega) (by omega)
  have hv1:val (QL (JY (JA (J6 a)) (JA (J6 b)))) / n < 2 ^ 63 * 2 ^ 63 := by
    have := Int.ediv_le_self n (show 0 ≤ val (QL (JY (JA (J6 a)) (JA (J6 b)))) by rw [X3]; omega)
    have e:(2:Int) ^ 63 * 2 ^ 63 = 85070591730234615865843651857942052864 := rfl
    omega
  have hq := Jsa hv hv1 (j := 63) (by omega)
  rw [← es] at hq
  have e63:(2:Int) ^ 63 = 9223372036854775808 := rfl
  have hs:YC a b n = 2 * Qu a b n + 1 := by
    unfold YC
    rw [W4 (x := 2 * Qu a b n) (by omega) (by omega),W4 (by omega) (by omega)]
  obtain ⟨q1,q2,q3,q4,q5,q6⟩ := JFS (n := YC a b n) ⟨by omega,by omega⟩
  obtain ⟨s1,s2,s3,s4,s5,s6⟩ := JFS (n := Qu a b n) ⟨by omega,by omega⟩
  obtain ⟨F1,F2,F3,F4⟩ := JFH (n := 4) ⟨by omega,by omega⟩
  obtain ⟨g1,g2,g3,g4⟩ := WF F1 X1
  obtain ⟨k1,k2,k3,k4⟩ := WF s3 D1
  exact ⟨ha,hb,A1,by omega,by omega,by omega,⟨by omega,X1,X2,D1,D2,by omega,by omega,by omega,hx1⟩,rfl,rfl,by omega,by omega,by omega,by omega,by decide,by decide,F1,X1,by omega,q1,by omega,q3,D1,by omega,by omega,s1,by omega,s3,D1,by omega,by omega⟩
theorem JkF (a b n m:Int) (hNeeds:∀ pN ∈ (JEH a b n m),pN):Runs (Js (JB JKH) KN 143) (JFD.args [.i a,.i b,.i n,.i m]) (JFD.memo [.i a,.i b,.i n,.i m] []) JFD.n (SV.tup [(false,[Ci (jF a b n m)]),(false,[Cb (JUV a b n m)])]) ([]) :=
  Runs.of1 (ps := (JEH a b n m)) (by kernel_rfl) hNeeds
def JRK:List Pm → Qr → Option CRes
  | [.i a,.i b,.i n,.i m],[] => some ⟨SV.tup [(false,[Ci (jF a b n m)]),(false,[Cb (JUV a b n m)])],
 [],[XY a,XY b,XY n],[],922⟩
  | _,_ => none
theorem JrO:Qk Tryz.prog 143 (JS JFD JRK) := by
  refine JH (JD Jbg 143) fun ps ls r hr hn _ => ?_
  unfold JRK at hr
  split at hr
  · cases hr; exact ⟨_,JkF _ _ _ _ (Jkb (by exact hn)),fun _ => rfl⟩
  · cases hr
def Jdl:List (Nat × JW) := (143,JS JFD JRK) :: JKH
theorem JSy:Known Tryz.prog (JB Jdl) KN := J7 Jbg JrO
def Zx (n:Int):Int := fr 63 n 63
theorem Jfd {n:Int} (h0:0 ≤ n) (h1:n < 9223372036854775808):0 ≤ Zx n ∧ Zx n * Zx n ≤ n ∧ n < (Zx n + 1) * (Zx n + 1) ∧ Zx n ≤ 3037000499 := by
  obtain ⟨a,b,c,d⟩ := Jf9 (T := 63) h0 (show n < 2 ^ 63 * 2 ^ 63 from by have:(2:Int) ^ 63 * 2 ^ 63 = 85070591730234615865843651857942052864 := rfl; omega)
  have:fr 63 n 63 ≤ 3037000499 := by
    rcases Int.lt_or_le 3037000499 (fr 63 n 63) with h | h
    · have := Int.mul_le_mul (show (3037000500:Int) ≤ fr 63 n 63 by omega) (show (3037000500:Int) ≤ fr 63 n 63 by omega) (by omega) a
      omega
    · exact h
  exact ⟨a,b,c,this⟩
theorem Jpr {n:Int} (h0:0 ≤ n) (h:XY n):val (JY (JA (J6 n)) (JA (J6 1))) = n := by
  show val (JWh _ _) = _
  rw [(JCK (Qs h) (Qs (a := 1) (by decide))).2.2,Xw n h,Xw 1 (by decide),if_neg (by omega),if_neg (by omega),Int.mul_one]
theorem JpS {n m:Int} (h0:0 ≤ n) (h:XY n) (hm:m = 0 ∨ m = 1 ∨ m = 2):JHC n 1 m = true ∧ qC n 1 m = if (m = 1 ∧ Zx n * Zx n ≠ n) ∨ (m = 2 ∧ Zx n * (Zx n + 1) < n) then Zx n + 1 else Zx n := by
  obtain ⟨a,b,c,d⟩ := Jfd h0 h.2
  obtain ⟨x1,x2,x3⟩ := JCK (Qs h) (Qs (a := 1) (by decide))
  have vX := Jpr h0 h
  have X1:jK (JY (JA (J6 n)) (JA (J6 1))) := x1
  have X2:JHP (JY (JA (J6 n)) (JA (J6 1))) := x2
  have hc:(decide (n < 0) || decide ((1:Int) < 0) || !(m == 0 || m == 1 || m == 2)) = false := by
    rw [decide_eq_false (by omega)]
    rcases hm with rfl | rfl | rfl <;> rfl
  have es:fr 63 (val (JY (JA (J6 n)) (JA (J6 1)))) 63 = Zx n := by rw [vX]; rfl
  have e0:JKK (JY (JA (J6 n)) (JA (J6 1))) = decide (Zx n * Zx n = n) := by
    unfold JKK
    rw [es]
    have:JFt (JY (JA (Zx n)) (JA (Zx n))) (JY (JA (J6 n)) (JA (J6 1))) = _ := (sqD ⟨a,by omega⟩ X1 X2).1
    rw [this,vX]
    rcases JCr (Zx n * Zx n) n with ⟨g1,g2⟩ | ⟨g1,g2⟩ | ⟨g1,g2⟩ <;> rw [g2] <;> simp <;> omega
  have e1:JKe (JY (JA (J6 n)) (JA (J6 1))) = if Zx n * (Zx n + 1) < n then 1 else -1 := by
    unfold JKe Jhx
    rw [es,W4 (by omega) (by omega)]
    obtain ⟨y1,y2,y3⟩ := JCK (a := Zx n) (b := Zx n + 1) ⟨a,by omega⟩ ⟨by omega,by omega⟩
    have:JFt (JY (JA (J6 n)) (JA (J6 1))) (JY (JA (Zx n)) (JA (Zx n + 1))) = _ := JO4 X1 y1 X2 y2
    have y4:val (JY (JA (Zx n)) (JA (Zx n + 1))) = _ := y3
    rw [this,vX,y4]
    rcases JCr n (Zx n * (Zx n + 1)) with ⟨g1,g2⟩ | ⟨g1,g2⟩ | ⟨g1,g2⟩ <;> rw [g2]
    · rw [if_neg (by omega)]; rfl
    · rw [if_neg (by omega)]; rfl
    · rw [if_pos (by omega)]; rfl
  unfold qC JHC
  rw [hc,cond_false,cond_false,es,e0,e1]
  have es0:XZ false (Zx n) (decide (Zx n * Zx n = n)) (if Zx n * (Zx n + 1) < n then 1 else -1) m = if (m = 1 ∧ Zx n * Zx n ≠ n) ∨ (m = 2 ∧ Zx n * (Zx n + 1) < n) then Zx n + 1 else Zx n := by
    unfold XZ
    have w:IntKind.u64.wrap (Zx n + 1) = Zx n + 1 := W4 (by omega) (by omega)
    rw [w]
    rcases hm with rfl | rfl | rfl
    · rfl
    · by_cases h:Zx n * Zx n = n
      · simp [h]
      · simp [h]
    · by_cases h:Zx n * (Zx n + 1) < n
      · simp [h]
      · simp [h]
  have hb:0 ≤ (if (m = 1 ∧ Zx n * Zx n ≠ n) ∨ (m = 2 ∧ Zx n * (Zx n + 1) < n) then Zx n + 1 else Zx n) ∧ (if (m = 1 ∧ Zx n * Zx n ≠ n) ∨ (m = 2 ∧ Zx n * (Zx n + 1) < n) then Zx n + 1 else Zx n) ≤ 3037000500 := by split <;> omega
  unfold jh jP
  rw [es0,decide_eq_false (by omega)]
  generalize (if (m = 1 ∧ Zx n * Zx n ≠ n) ∨ (m = 2 ∧ Zx n * (Zx n + 1) < n) then Zx n + 1 else Zx n) = v at *
  simp only [cond_false]
  rw [decide_eq_false (by omega),cond_false,X7 (by omega) (by omega)]
  exact ⟨rfl,rfl⟩
theorem Jb1 {n:Int} (h0:0 ≤ n) (h1:n < 9223372036854775808):Jm 0 n = Zx n := by
  obtain ⟨a,b,c,d⟩ := Jfd h0 h1
  obtain ⟨x,y,z,w⟩ := JsB (a := 0) (b := n) ⟨by omega,by omega⟩ ⟨h0,by omega⟩
  rw [Int.zero_mul,Int.zero_add] at y z
  exact Jgv x a y z b c
theorem JxU {x y:Int} (hx:u64 x) (hy:u64 y) (h:y ≤ x):JJC x y 0 = x - y ∧ JEb x y 0 = 0 := by
  obtain ⟨i,rfl⟩ := Int.eq_ofNat_of_zero_le hx.1
  obtain ⟨j,rfl⟩ := Int.eq_ofNat_of_zero_le hy.1
  unfold JJC JEb
  have e:(((i:Int).toNat + 18446744073709551616 - (j:Int).toNat - (0:Int).toNat) % 18446744073709551616:Nat) = i - j := by
    simp only [Int.toNat_natCast]
    have:(0:Int).toNat = 0 := rfl
    omega
  have e2:¬ ((i:Int).toNat < (j:Int).toNat + (0:Int).toNat) := by
    simp only [Int.toNat_natCast]
    have:(0:Int).toNat = 0 := rfl
    omega
  rw [e,if_neg e2]
  constructor
  · omega
  · rfl
theorem Jnr {n m:Int} (h0:0 ≤ n) (h:XY n) (hm:m = 0 ∨ m = 1 ∨ m = 2):JOw n m = true ∧ JDh n m = if (m = 1 ∧ Zx n * Zx n ≠ n) ∨ (m = 2 ∧ Zx n * (Zx n + 1) < n) then Zx n + 1 else Zx n := by
  obtain ⟨a,b,c,d⟩ := Jfd h0 h.2
  have ef := Jb1 h0 h.2
  have hc:(decide (n < 0) || !(m == 0 || m == 1 || m == 2)) = false := by
    rw [decide_eq_false (by omega)]
    rcases hm with rfl | rfl | rfl <;> rfl
  have en:IntKind.u64.wrap n = n := W4 h0 (by omega)
  have u0:u64 (Zx n) := ⟨a,by omega⟩
  have p0 := Kk 3037000499 3037000499 (x := Zx n) (y := Zx n) ⟨a,d⟩ ⟨a,d⟩ (by omega)
  have eh:QM (Zx n) (Zx n) = 0 := by rw [zT _ _ u0 u0]; omega
  have el:Qe (Zx n) (Zx n) = Zx n * Zx n := by rw [ku]; omega
  obtain ⟨s1,s2⟩ := JxU (x := n) (y := Zx n * Zx n) ⟨h0,by omega⟩ ⟨by omega,by omega⟩ b
  have s3:JJC 0 0 0 = 0 := rfl
  have e1:JIX 0 n m = if (m = 1 ∧ Zx n * Zx n ≠ n) ∨ (m = 2 ∧ Zx n * (Zx n + 1) < n) then Zx n + 1 else Zx n := by
    unfold JIX JW1
    rw [ef,eh,el,s1,s2,s3,W4 (x := Zx n + 1) (by omega) (by omega)]
    have e:Zx n * (Zx n + 1) = Zx n * Zx n + Zx n := by rw [Int.mul_add,Int.mul_one]
    rw [e]
    rcases hm with rfl | rfl | rfl
    · rfl
    · by_cases g:Zx n * Zx n = n
      · simp [g]
      · have:Zx n * Zx n < n := by omega
        simp [g,this]
    · by_cases g:Zx n * Zx n + Zx n < n
      · have:Zx n < n - Zx n * Zx n := by omega
        simp [g,this]
      · have:¬ Zx n < n - Zx n * Zx n := by omega
        simp [g,this]
  have hb:(if (m = 1 ∧ Zx n * Zx n ≠ n) ∨ (m = 2 ∧ Zx n * (Zx n + 1) < n) then Zx n + 1 else Zx n) < 9223372036854775808 ∧ 0 ≤ (if (m = 1 ∧ Zx n * Zx n ≠ n) ∨ (m = 2 ∧ Zx n * (Zx n + 1) < n) then Zx n + 1 else Zx n) := by split <;> omega
  unfold JDh JOw JVD JUk
  rw [hc,cond_false,cond_false,en,e1,decide_eq_true hb.1,cond_true,X7 (by omega) hb.1]
  exact ⟨rfl,rfl⟩
theorem JoM {n m:Int} (h0:0 ≤ n) (h:XY n) (hm:m = 0 ∨ m = 1 ∨ m = 2):JDh n m = qC n 1 m ∧ JOw n m = JHC n 1 m := by
  obtain ⟨a1,a2⟩ := Jnr h0 h hm
  obtain ⟨b1,b2⟩ := JpS h0 h hm
  exact ⟨by rw [a2,b2],by rw [a1,b1]⟩
def tw (p n:Int):Int := fr 64 (4 * (p * p) / n) 64
def ovq (p n:Int) (neg:Bool):Int :=
  if tw p n % 2 = 1 ∧ (neg = false ∨ tw p n * tw p n * n ≠ 4 * (p * p)) then tw p n / 2 + 1 else tw p n / 2
theorem Jt8 {p n:Int} (hp:0 ≤ p ∧ p ≤ 4611686018427387904) (hn:1 ≤ n ∧ n ≤ 4611686018427387904):0 ≤ tw p n ∧ tw p n * tw p n * n ≤ 4 * (p * p) ∧ 4 * (p * p) < (tw p n + 1) * (tw p n + 1) * n ∧ tw p n ≤ 9223372036854775808 := by
  have hq := Kk 4611686018427387904 4611686018427387904 (x := p) (y := p) hp hp (by omega)
  have hd:0 ≤ 4 * (p * p) / n := Int.ediv_nonneg (by omega) (by omega)
  have hd2 := Int.ediv_le_self n (show 0 ≤ 4 * (p * p) by omega)
  have e:(2:Int) ^ 64 * 2 ^ 64 = 340282366920938463463374607431768211456 := rfl
  obtain ⟨x,y,z,w⟩ := Jf9 (T := 64) (x := 4 * (p * p) / n) hd (by omega)
  have h1 := (Int.le_ediv_iff_mul_le (show 0 < n by omega)).1 y
  have h2:4 * (p * p) < (tw p n + 1) * (tw p n + 1) * n := by
    rcases Int.lt_or_le (4 * (p * p)) ((tw p n + 1) * (tw p n + 1) * n) with g | g
    · exact g
    · have := (Int.le_ediv_iff_mul_le (show 0 < n by omega)).2 g
      have z':4 * (p * p) / n < (tw p n + 1) * (tw p n + 1) := z
      omega
  refine ⟨x,h1,h2,?_⟩
  rcases Int.lt_or_le (tw p n) 9223372036854775809 with g | g
  · omega
  · exfalso
    have g2 := Int.mul_le_mul g g (by omega) x
    have y':tw p n * tw p n ≤ 4 * (p * p) / n := y
    omega
theorem JpT {a b n:Int} (ha:XY a) (hb:XY b) (la:J6 a ≤ 2147483648) (lb:J6 b ≤ 2147483648) (hn:1 ≤ n ∧ n ≤ 4611686018427387904) :
    Xn a b n 2 = (if Qi a b < 0 then -ovq (J6 a * J6 b) n true else ovq (J6 a * J6 b) n false) ∧ JUw a b n 2 = true := by
  have sa := Qs ha
  have sb := Qs hb
  obtain ⟨p0,p1⟩ := Kk 2147483648 2147483648 (x := J6 a) (y := J6 b) ⟨sa.1,la⟩ ⟨sb.1,lb⟩ (by omega)
  have hc:(decide (J6 a > 2147483648) || decide (J6 b > 2147483648) || decide (n < 1) || decide (n > 4611686018427387904) || !((2:Int) == 0 || (2:Int) == 1 || (2:Int) == 2)) = false := by
    rw [decide_eq_false (by omega),decide_eq_false (by omega),decide_eq_false (by omega),decide_eq_false (by omega)]; rfl
  have ew:IntKind.u64.wrap n = n := W4 (by omega) (by omega)
  have e0:Jq a b = 2 * (J6 a * J6 b) := by
    unfold Jq
    rw [W4 (x := J6 a * J6 b) (by omega) (by omega),W4 (by omega) (by omega)]
  generalize hP:J6 a * J6 b = P at *
  have us:u64 (Jq a b) := by rw [e0]; exact ⟨by omega,by omega⟩
  have hh := JeF us us
  have hl := Jec (Jq a b) (Jq a b)
  have ehl:QM (Jq a b) (Jq a b) * 18446744073709551616 + Qe (Jq a b) (Jq a b) = 4 * (P * P) := by
    rw [zT _ _ us us,ku,e0]
    have:2 * P * (2 * P) = 4 * (P * P) := by grind
    rw [this]; omega
  obtain ⟨q1,q2,q3,q4⟩ := JgI hh hl (c := n) (by omega) (by omega)
  rw [ehl] at q3 q4
  have eT:Yk a b n = tw P n := by
    unfold Yk JCQ
    rw [ew]
    show fr 64 _ 64 = _
    rw [q3]; rfl
  obtain ⟨t0,t1,t2,t3⟩ := Jt8 (p := P) (n := n) ⟨p0,by omega⟩ hn
  have uT:u64 (tw P n) := ⟨t0,by omega⟩
  have dm := Int.mul_ediv_add_emod (4 * (P * P)) n
  have m3 := Int.emod_nonneg (4 * (P * P)) (show n ≠ 0 by omega)
  have e4:JEj a b n = decide (tw P n * tw P n * n ≠ 4 * (P * P)) := by
    unfold JEj JCQ
    rw [ew,eT,q4,zT _ _ uT uT,ku]
    have hT:(tw P n * tw P n / 18446744073709551616 == ZI 0 (QM (Jq a b) (Jq a b)) n && tw P n * tw P n % 18446744073709551616 == ZI (ZJ 0 (QM (Jq a b) (Jq a b)) n) (Qe (Jq a b) (Jq a b)) n) = decide (tw P n * tw P n = 4 * (P * P) / n) := by
      rw [← q3]
      generalize tw P n * tw P n = z at *
      generalize ZI 0 (QM (Jq a b) (Jq a b)) n = u at *
      generalize ZI (ZJ 0 (QM (Jq a b) (Jq a b)) n) (Qe (Jq a b) (Jq a b)) n = v at *
      rw [Bool.eq_iff_iff]
      simp only [Bool.and_eq_true,beq_iff_eq,decide_eq_true_eq]
      omega
    rw [hT]
    have hle:tw P n * tw P n ≤ 4 * (P * P) / n := (Int.le_ediv_iff_mul_le (show 0 < n by omega)).2 t1
    have hcm:n * (4 * (P * P) / n) = 4 * (P * P) / n * n := Int.mul_comm _ _
    rw [hcm] at dm
    rw [Bool.eq_iff_iff]
    simp only [Bool.or_eq_true,Bool.not_eq_true',decide_eq_true_eq,decide_eq_false_iff_not]
    constructor
    · rintro (g | g)
      · have := Int.mul_le_mul_of_nonneg_right hle (show 0 ≤ n by omega)
        omega
      · have := Int.mul_le_mul_of_nonneg_right (show tw P n * tw P n + 1 ≤ 4 * (P * P) / n by omega) (show 0 ≤ n by omega)
        rw [Int.add_mul] at this
        omega
    · intro g
      by_cases g2:tw P n * tw P n = 4 * (P * P) / n
      · left
        rw [g2] at g
        omega
      · exact .inr g2
  have e3:JEi a b n = decide (tw P n % 2 = 1) := by
    unfold JEi
    rw [eT,Int.tmod_eq_emod_of_nonneg t0]
    rfl
  have ehalf:IntKind.u64.wrap ((tw P n).tdiv 2) = tw P n / 2 := by
    rw [Int.tdiv_eq_ediv_of_nonneg t0,W4 (by omega) (by omega)]
  unfold Xn JUw
  rw [hc,cond_false,cond_false,eT,ehalf,e3,e4,W4 (x := tw P n / 2 + 1) (by omega) (by omega)]
  have e5:JJ1 a b = decide (Qi a b < 0) := rfl
  rw [e5]
  have key:∀ ng:Bool,(bif JAr 2 (bif decide (tw P n % 2 = 1) then bif decide (tw P n * tw P n * n ≠ 4 * (P * P)) then 1 else 0 else -1) (decide (tw P n * tw P n * n ≠ 4 * (P * P)) || decide (tw P n % 2 = 1)) ng then tw P n / 2 + 1 else tw P n / 2) = ovq P n ng := by
    intro ng
    unfold ovq JAr
    by_cases g1:tw P n % 2 = 1
    · by_cases g2:tw P n * tw P n * n = 4 * (P * P)
      · cases ng <;> simp [g1,g2]
      · cases ng <;> simp [g1,g2]
    · simp [g1]
  have hq:∀ ng,0 ≤ ovq P n ng ∧ ovq P n ng ≤ 4611686018427387905 := fun ng => by
    unfold ovq
    split <;> omega
  rw [key]
  by_cases hs:Qi a b < 0
  · rw [decide_eq_true hs,if_pos hs]
    unfold Yi JD7
    have := hq true
    rw [decide_eq_true (show ovq P n true ≤ 9223372036854775808 by omega)]
    simp only [Bool.and_self,cond_true,Bool.true_or,and_true]
    by_cases hz:ovq P n true = 0
    · rw [hz]; rfl
    · rw [JB5]
      have:(0 - ovq P n true) % 18446744073709551616 = 18446744073709551616 - ovq P n true := by omega
      rw [this]
      unfold IntKind.wrap
      simp only [IntKind.bits,IntKind.signed]
      simp
      omega
  · rw [decide_eq_false hs,if_neg hs]
    unfold Yi JD7
    have := hq false
    rw [decide_eq_true (show ovq P n false < 9223372036854775808 by omega)]
    simp only [Bool.false_and,cond_false,Bool.not_false,Bool.and_self,cond_true,Bool.false_or,and_true]
    rw [X7 (by omega) (by omega)]
theorem Jq6 {a b n:Int} (ha:XY a) (hb:XY b) (la:J6 a ≤ 2147483648) (lb:J6 b ≤ 2147483648) (hn:1 ≤ n ∧ n ≤ 4611686018427387904) :
    jF a b n 2 = (if Qi a b < 0 then -ovq (J6 a * J6 b) n true else ovq (J6 a * J6 b) n false) ∧ JUV a b n 2 = true := by
  obtain ⟨A1,A2,A3,A4,A5,A6⟩ := JgF ha hb la lb
  have hc:(decide (J6 a > 2147483648) || decide (J6 b > 2147483648) || decide (n < 1) || decide (n > 4611686018427387904) || !((2:Int) == 0 || (2:Int) == 1 || (2:Int) == 2)) = false := by
    rw [decide_eq_false (by omega),decide_eq_false (by omega),decide_eq_false (by omega),decide_eq_false (by omega)]; rfl
  have ew:IntKind.u64.wrap n = n := W4 (by omega) (by omega)
  obtain ⟨D1,D2,D3,D4⟩ := JFH (n := n) ⟨by omega,by omega⟩
  have hX:QL (JY (JA (J6 a)) (JA (J6 b))) = JY (JY (JA (J6 a)) (JA (J6 b))) (JY (JA (J6 a)) (JA (J6 b))) := rfl
  obtain ⟨X1,X2,X3,X4⟩ := WF A1 A1
  rw [← hX] at X1 X2 X3 X4
  rw [A3] at X3
  generalize hP:J6 a * J6 b = P at *
  have hpp := Kk 4611686018427387904 4611686018427387904 (x := P) (y := P) ⟨A5,A6⟩ ⟨A5,A6⟩ (by omega)
  obtain ⟨t0,t1,t2,t3⟩ := Jt8 (p := P) (n := n) ⟨A5,A6⟩ hn
  have n0:0 < n := by omega
  have es:Qu a b n = fr 63 (P * P / n) 63 := by
    unfold Qu
    rw [ew,D3,X3]
  have hv:0 ≤ P * P / n := Int.ediv_nonneg hpp.1 (by omega)
  have hv1:P * P / n < 2 ^ 63 * 2 ^ 63 := by
    have := Int.ediv_le_self n hpp.1
    have e:(2:Int) ^ 63 * 2 ^ 63 = 85070591730234615865843651857942052864 := rfl
    omega
  obtain ⟨r0,r1,r2,r3⟩ := Jf9 hv hv1
  rw [← es] at r0 r1 r2 r3
  have e63:(2:Int) ^ 63 = 9223372036854775808 := rfl
  have hk1:(tw P n / 2) * (tw P n / 2) * n ≤ P * P := by
    have h1 := Kk (tw P n) (tw P n) (x := 2 * (tw P n / 2)) (y := 2 * (tw P n / 2)) ⟨by omega,by omega⟩ ⟨by omega,by omega⟩ t0
    have h2 := Int.mul_le_mul_of_nonneg_right h1.2 (show 0 ≤ n by omega)
    have h3:2 * (tw P n / 2) * (2 * (tw P n / 2)) * n = 4 * ((tw P n / 2) * (tw P n / 2) * n) := by grind
    omega
  have hk2:P * P < (tw P n / 2 + 1) * (tw P n / 2 + 1) * n := by
    have h1 := Kk (2 * (tw P n / 2 + 1)) (2 * (tw P n / 2 + 1)) (x := tw P n + 1) (y := tw P n + 1) ⟨by omega,by omega⟩ ⟨by omega,by omega⟩ (by omega)
    have h2 := Int.mul_le_mul_of_nonneg_right h1.2 (show 0 ≤ n by omega)
    have h3:2 * (tw P n / 2 + 1) * (2 * (tw P n / 2 + 1)) * n = 4 * ((tw P n / 2 + 1) * (tw P n / 2 + 1) * n) := by grind
    omega
  have hk3:P * P / n < (tw P n / 2 + 1) * (tw P n / 2 + 1) := by
    rcases Int.lt_or_le (P * P / n) ((tw P n / 2 + 1) * (tw P n / 2 + 1)) with g | g
    · exact g
    · have := (Int.le_ediv_iff_mul_le n0).1 g
      omega
  have eq:Qu a b n = tw P n / 2 := Jgv r0 (by omega) r1 r2 ((Int.le_ediv_iff_mul_le n0).2 hk1) hk3
  have e2q:IntKind.u64.wrap (IntKind.u64.wrap (2 * Qu a b n) + 1) = 2 * (tw P n / 2) + 1 := by
    rw [eq,W4 (x := 2 * (tw P n / 2)) (by omega) (by omega),W4 (by omega) (by omega)]
  obtain ⟨q1,q2,q3,q4,q5,q6⟩ := JFS (n := 2 * (tw P n / 2) + 1) ⟨by omega,by omega⟩
  obtain ⟨F1,F2,F3,F4⟩ := JFH (n := 4) ⟨by omega,by omega⟩
  obtain ⟨g1,g2,g3,g4⟩ := WF F1 X1
  obtain ⟨k1,k2,k3,k4⟩ := WF q3 D1
  have eh:JFt (JY (JA 4) (QL (JY (JA (J6 a)) (JA (J6 b))))) (JY (QL (JA (2 * (tw P n / 2) + 1))) (JA n)) = KC (4 * (P * P)) ((2 * (tw P n / 2) + 1) * (2 * (tw P n / 2) + 1) * n) := by
    rw [JO4 g1 k1 g2 k2,g3,k3,F3,X3,q5,D3]
  unfold jF JUV
  rw [hc,cond_false,cond_false,ew,e2q,eh,eq]
  generalize hE:(JFt (JY (QL (JA (tw P n / 2))) (JA n)) (QL (JY (JA (J6 a)) (JA (J6 b)))) == 0) = exact'
  have key:∀ ng:Bool,XZ ng (tw P n / 2) exact' (KC (4 * (P * P)) ((2 * (tw P n / 2) + 1) * (2 * (tw P n / 2) + 1) * n)) 2 = ovq P n ng := by
    intro ng
    unfold XZ ovq
    rw [W4 (x := tw P n / 2 + 1) (by omega) (by omega)]
    by_cases g1:tw P n % 2 = 1
    · have e:2 * (tw P n / 2) + 1 = tw P n := by omega
      rw [e]
      by_cases g2:tw P n * tw P n * n = 4 * (P * P)
      · rw [g2,Jpx]
        cases ng <;> simp [g1]
      · rw [Je4 (by omega)]
        cases ng <;> simp [g1,g2]
    · have e:2 * (tw P n / 2) + 1 = tw P n + 1 := by omega
      rw [e,JeZ t2]
      cases ng <;> simp [g1]
  have hq:∀ ng,0 ≤ ovq P n ng ∧ ovq P n ng ≤ 4611686018427387905 := fun ng => by
    unfold ovq
    split <;> omega
  have hs5:decide (tw P n / 2 > 9223372036854775808) = false := decide_eq_false (by omega)
  unfold jh jP
  rw [key,hs5,cond_false,cond_false]
  by_cases hs:Qi a b < 0
  · rw [decide_eq_true hs,if_pos hs,cond_true,cond_true]
    have := hq true
    rw [decide_eq_false (show ¬ ovq P n true > 9223372036854775808 by omega),cond_false]
    refine ⟨?_,rfl⟩
    by_cases hz:ovq P n true = 0
    · rw [hz]; rfl
    · rw [show (ovq P n true == 0) = false by simpa using hz,cond_false,W4 (x := ovq P n true - 1) (by omega) (by omega),X7 (x := ovq P n true - 1) (by omega) (by omega),X7 (x := 0 - (ovq P n true - 1)) (by omega) (by omega),X7 (by omega) (by omega)]
      omega
  · rw [decide_eq_false hs,if_neg hs,cond_false,cond_false]
    have := hq false
    rw [decide_eq_false (show ¬ ovq P n false > 9223372036854775807 by omega),cond_false,X7 (by omega) (by omega)]
    exact ⟨rfl,rfl⟩
theorem JpK {a b n:Int} (ha:XY a) (hb:XY b) (la:J6 a ≤ 2147483648) (lb:J6 b ≤ 2147483648) (hn:1 ≤ n ∧ n ≤ 4611686018427387904):Xn a b n 2 = jF a b n 2 := by
  rw [(JpT ha hb la lb hn).1,(Jq6 ha hb la lb hn).1]
def JIE:Tpl := ⟨[.agg [.int .i64,.int .i64],.agg [.int .i64,.int .i64]],[],0⟩
theorem Jo1 (a b c d:Int):Runs (Js (JB Jdl) KN 128) (JIE.args [.i a,.i b,.i c,.i d]) (JIE.memo [.i a,.i b,.i c,.i d] []) JIE.n (SV.agg [Ci (JI a c),Ci (JI b d)]) ([]) :=
  Runs.of1 (ps := []) (by kernel_rfl) (by simp)
def JWo:List Pm → Qr → Option CRes
  | [.i a,.i b,.i c,.i d],[] => some ⟨SV.agg [Ci (JI a c),Ci (JI b d)],
 [],[],[],26⟩
  | _,_ => none
theorem JvD:Qk Tryz.prog 128 (JS JIE JWo) := by
  refine JH (JD JSy 128) fun ps ls r hr hn _ => ?_
  unfold JWo at hr
  split at hr
  · cases hr; exact ⟨_,Jo1 _ _ _ _,fun _ => rfl⟩
  · cases hr
def JkR:List (Nat × JW) := (128,orS (JS JIE JWo) (JS JC6 JKt)) :: Jdl
theorem JVj:Known Tryz.prog (JB JkR) KN := J7 JSy (JJN JvD JgL)
def JCO:Tpl := ⟨[.agg [.int .i64,.int .i64],.agg [.int .i64,.int .i64]],[],0⟩
theorem JgC (a b c d:Int):Runs (Js (JB JkR) KN 99) (JCO.args [.i a,.i b,.i c,.i d]) (JCO.memo [.i a,.i b,.i c,.i d] []) JCO.n (SV.agg [Ci (J0 a c),Ci (J0 b d)]) ([]) :=
  Runs.of1 (ps := []) (by kernel_rfl) (by simp)
def JML:List Pm → Qr → Option CRes
  | [.i a,.i b,.i c,.i d],[] => some ⟨SV.agg [Ci (J0 a c),Ci (J0 b d)],
 [],[],[],26⟩
  | _,_ => none
theorem JoC:Qk Tryz.prog 99 (JS JCO JML) := by
  refine JH (JD JVj 99) fun ps ls r hr hn _ => ?_
  unfold JML at hr
  split at hr
  · cases hr; exact ⟨_,JgC _ _ _ _,fun _ => rfl⟩
  · cases hr
def JWQ:List (Nat × JW) := (99,orS (JS JCO JML) (JS JC7 JK7)) :: JkR
theorem JNZ:Known Tryz.prog (JB JWQ) KN := J7 JVj (JJN JoC Jhq)
def JP9:Tpl := ⟨[.one (.int .i64),.one (.int .i64)],[],0⟩
theorem JrP (n m:Int):Runs (Js (JB JWQ) KN 142) (JP9.args [.i n,.i m]) (JP9.memo [.i n,.i m] []) JP9.n (SV.one (Cb (Ja n m))) ([]) :=
  Runs.of1 (ps := []) (by kernel_rfl) (by simp)
def Je9:List Pm → Qr → Option CRes
  | [.i n,.i m],[] => some ⟨SV.one (Cb (Ja n m)),
 [],[],[],11⟩
  | _,_ => none
theorem JwG:Qk Tryz.prog 142 (JS JP9 Je9) := by
  refine JH (JD JNZ 142) fun ps ls r hr hn _ => ?_
  unfold Je9 at hr
  split at hr
  · cases hr; exact ⟨_,JrP _ _,fun _ => rfl⟩
  · cases hr
def Jqb:List (Nat × JW) := (142,JS JP9 Je9) :: JWQ
theorem Jc2:Known Tryz.prog (JB Jqb) KN := J7 JNZ JwG
def qU:Tpl := ⟨[.agg [.int .i64,.int .i64]],[],0⟩
def QR (a b:Int):Bool := Ja a 1048576 && Ja b 1048576
theorem JfK (a b:Int):Runs (Js (JB Jqb) KN 117) (qU.args [.i a,.i b]) (qU.memo [.i a,.i b] []) qU.n (SV.one (Cb (QR a b))) ([]) :=
  Runs.of1 (ps := []) (by kernel_rfl) (by simp)
def JIy:List Pm → Qr → Option CRes
  | [.i a,.i b],[] => some ⟨SV.one (Cb (QR a b)),
 [],[],[],36⟩
  | _,_ => none
theorem JjI:Qk Tryz.prog 117 (JS qU JIy) := by
  refine JH (JD Jc2 117) fun ps ls r hr hn _ => ?_
  unfold JIy at hr
  split at hr
  · cases hr; exact ⟨_,JfK _ _,fun _ => rfl⟩
  · cases hr
def JQ3:List (Nat × JW) := (117,JS qU JIy) :: Jqb
theorem JLZ:Known Tryz.prog (JB JQ3) KN := J7 Jc2 JjI
def jI:Tpl := ⟨[.agg [.int .i64,.int .i64]],[],0⟩
def Yc (a b:Int):Bool := decide (a ≥ -4194304) && decide (a ≤ 4194304) && (decide (b ≥ -4194304) && decide (b ≤ 4194304))
theorem JbG (a b:Int):Runs (Js (JB JQ3) KN 141) (jI.args [.i a,.i b]) (jI.memo [.i a,.i b] []) jI.n (SV.one (Cb (Yc a b))) ([]) :=
  Runs.of1 (ps := []) (by kernel_rfl) (by simp)
def JH9:List Pm → Qr → Option CRes
  | [.i a,.i b],[] => some ⟨SV.one (Cb (Yc a b)),
 [],[],[],36⟩
  | _,_ => none
theorem Jha:Qk Tryz.prog 141 (JS jI JH9) := by
  refine JH (JD JLZ 141) fun ps ls r hr hn _ => ?_
  unfold JH9 at hr
  split at hr
  · cases hr; exact ⟨_,JbG _ _,fun _ => rfl⟩
  · cases hr
def JMS:List (Nat × JW) := (141,JS jI JH9) :: JQ3
theorem JJF:Known Tryz.prog (JB JMS) KN := J7 JLZ Jha
def kC:Tpl := ⟨[.agg [.int .i64,.int .i64],.agg [.int .i64,.int .i64],.one (.int .i64)],[],0⟩
def JHj (a b c d s:Int):Bool := decide (JE a b c d > 0) && decide (s > 0)
def JCJ (a b c d s:Int):Int := bif JE a b c d == 0 && decide (J8 a b c d > 0) then 0 else bif bif JHj a b c d s then JHj a b c d s else decide (JE a b c d < 0) && decide (s < 0) then 2 else 1
theorem Jco (a b c d s:Int):Runs (Js (JB JMS) KN 89) (kC.args [.i a,.i b,.i c,.i d,.i s]) (kC.memo [.i a,.i b,.i c,.i d,.i s] []) kC.n (SV.one (Ci (JCJ a b c d s))) ([]) :=
  Runs.of1 (ps := []) (by kernel_rfl) (by simp)
def JIu:List Pm → Qr → Option CRes
  | [.i a,.i b,.i c,.i d,.i s],[] => some ⟨SV.one (Ci (JCJ a b c d s)),
 [],[],[],82⟩
  | _,_ => none
theorem Jjs:Qk Tryz.prog 89 (JS kC JIu) := by
  refine JH (JD JJF 89) fun ps ls r hr hn _ => ?_
  unfold JIu at hr
  split at hr
  · cases hr; exact ⟨_,Jco _ _ _ _ _,fun _ => rfl⟩
  · cases hr
def JPT:List (Nat × JW) := (89,JS kC JIu) :: JMS
theorem JLK:Known Tryz.prog (JB JPT) KN := J7 JJF Jjs
theorem JhR (p0 p1 t0 t1 r:Int):(t0 == 0 && t1 == 0 || !Yc t0 t1 || !QR p0 p1 || !Ja r 32768) = (t0 == 0 && t1 == 0 || !Ja t0 4194304 || !Ja t1 4194304 || !Ja p0 1048576 || !Ja p1 1048576 || !Ja r 32768) := by
  have e1:Yc t0 t1 = (Ja t0 4194304 && Ja t1 4194304) := rfl
  have e2:QR p0 p1 = (Ja p0 1048576 && Ja p1 1048576) := rfl
  rw [e1,e2]
  generalize (t0 == 0 && t1 == 0) = a
  generalize Ja t0 4194304 = b
  generalize Ja t1 4194304 = c
  generalize Ja p0 1048576 = d
  generalize Ja p1 1048576 = e
  generalize Ja r 32768 = f
  revert a b c d e f
  decide
def qK:Tpl := ⟨[.agg [.int .i64,.int .i64],.agg [.int .i64,.int .i64],.one (.int .i64)],[],0⟩
section
variable (p0 p1 t0 t1 r:Int)
def Zr:Int:= bif t0 == 0 && t1 == 0 || !Yc t0 t1 || !QR p0 p1 || !Ja r 32768 then 0 else IntKind.i64.wrap (p0 + jF (IntKind.i64.wrap (0 - t1)) r (J8 t0 t1 t0 t1) 2)
def Zn:Int:= bif t0 == 0 && t1 == 0 || !Yc t0 t1 || !QR p0 p1 || !Ja r 32768 then 0 else IntKind.i64.wrap (p1 + jF t0 r (J8 t0 t1 t0 t1) 2)
def JKv:Bool:= !(t0 == 0 && t1 == 0 || !Yc t0 t1 || !QR p0 p1 || !Ja r 32768)
def Ja1:Prop:= -9223372036854775808 ≤ J8 t0 t1 t0 t1 ∧ J8 t0 t1 t0 t1 < 9223372036854775808
def qE:List Prop:= [(t0 == 0 && t1 == 0 || !Yc t0 t1 || !QR p0 p1 || !Ja r 32768) = false → (-9223372036854775808 ≤ IntKind.i64.wrap (0 - t1) ∧ IntKind.i64.wrap (0 - t1) < 9223372036854775808) ∧ (-9223372036854775808 ≤ r ∧ r < 9223372036854775808) ∧ Ja1 t0 t1 ∧ (-9223372036854775808 ≤ t0 ∧ t0 < 9223372036854775808) ∧ (-9223372036854775808 ≤ r ∧ r < 9223372036854775808) ∧ Ja1 t0 t1]
end
theorem JeQ {p0:Int} {p1:Int} {t0:Int} {t1:Int} {r:Int}:∀ q ∈ (qE p0 p1 t0 t1 r),q := by
  unfold qE
  simp only [awc,awn,and_true]
  intro h
  rw [JhR] at h
  obtain ⟨h0,h1,h2,h3,h4,h5⟩ := Jjg h
  exact ⟨Jk _,⟨by omega,by omega⟩,Jk _,⟨by omega,by omega⟩,⟨by omega,by omega⟩,Jk _⟩
theorem Jd5 (p0 p1 t0 t1 r:Int) (hNeeds:∀ pN ∈ (qE p0 p1 t0 t1 r),pN):Runs (Js (JB JPT) KN 116) (qK.args [.i p0,.i p1,.i t0,.i t1,.i r]) (qK.memo [.i p0,.i p1,.i t0,.i t1,.i r] []) qK.n (SV.tup [(true,[Ci (Zr p0 p1 t0 t1 r),Ci (Zn p0 p1 t0 t1 r)]),(false,[Cb (JKv p0 p1 t0 t1 r)])]) ([]) :=
  Runs.of1 (ps := (qE p0 p1 t0 t1 r)) (by kernel_rfl) hNeeds
def JIr:List Pm → Qr → Option CRes
  | [.i p0,.i p1,.i t0,.i t1,.i r],[] => some ⟨SV.tup [(true,[Ci (Zr p0 p1 t0 t1 r),Ci (Zn p0 p1 t0 t1 r)]),(false,[Cb (JKv p0 p1 t0 t1 r)])],
 [],[],[],2024⟩
  | _,_ => none
theorem Jih:Qk Tryz.prog 116 (JS qK JIr) := by
  refine JH (JD JLK 116) fun ps ls r hr hn _ => ?_
  unfold JIr at hr
  split at hr
  · cases hr; exact ⟨_,Jd5 _ _ _ _ _ (fun p hp => JeQ p hp),fun _ => rfl⟩
  · cases hr
def JQX:List (Nat × JW) := (116,JS qK JIr) :: JPT
theorem JLX:Known Tryz.prog (JB JQX) KN := J7 JLK Jih
def kh:Tpl := ⟨[.agg [.int .i64,.int .i64]],[],0⟩
theorem JdI (a b:Int):Runs (Js (JB JQX) KN 114) (kh.args [.i a,.i b]) (kh.memo [.i a,.i b] []) kh.n (SV.one (Ci (J8 a b a b))) ([]) :=
  Runs.of1 (ps := []) (by kernel_rfl) (by simp)
def JJD:List Pm → Qr → Option CRes
  | [.i a,.i b],[] => some ⟨SV.one (Ci (J8 a b a b)),
 [],[],[],30⟩
  | _,_ => none
theorem Jlu:Qk Tryz.prog 114 (JS kh JJD) := by
  refine JH (JD JLX 114) fun ps ls r hr hn _ => ?_
  unfold JJD at hr
  split at hr
  · cases hr; exact ⟨_,JdI _ _,fun _ => rfl⟩
  · cases hr
def JST:List (Nat × JW) := (114,JS kh JJD) :: JQX
theorem JLQ:Known Tryz.prog (JB JST) KN := J7 JLX Jlu
def JA8:Tpl := ⟨[.agg [.int .i64,.int .i64,.int .i64,.int .i64,.int .i64,.int .i64,.int .i64,.bool],.one (.int .i64)],[],0⟩
def K7 (e6 r:Int):Bool := e6 == 1 && decide (r ≥ 0) || e6 == -1 && decide (r < 0)
theorem JfJ (e0 e1 e2 e3 e4 e5 e6:Int) (e7:Bool) (r:Int):Runs (Js (JB JST) KN 113) (JA8.args [.i e0,.i e1,.i e2,.i e3,.i e4,.i e5,.i e6,.b e7,.i r]) (JA8.memo [.i e0,.i e1,.i e2,.i e3,.i e4,.i e5,.i e6,.b e7,.i r] []) JA8.n (SV.one (Cb (K7 e6 r))) ([]) :=
  Runs.of1 (ps := []) (by kernel_rfl) (by simp)
def JJU:List Pm → Qr → Option CRes
  | [.i e0,.i e1,.i e2,.i e3,.i e4,.i e5,.i e6,.b e7,.i r],[] => some ⟨SV.one (Cb (K7 e6 r)),
 [],[],[],28⟩
  | _,_ => none
theorem JlS:Qk Tryz.prog 113 (JS JA8 JJU) := by
  refine JH (JD JLQ 113) fun ps ls r hr hn _ => ?_
  unfold JJU at hr
  split at hr
  · cases hr; exact ⟨_,JfJ _ _ _ _ _ _ _ _ _,fun _ => rfl⟩
  · cases hr
def JSB:List (Nat × JW) := (113,JS JA8 JJU) :: JST
theorem JL4:Known Tryz.prog (JB JSB) KN := J7 JLQ JlS
def JDA:Tpl := ⟨[.agg [.int .i64,.int .i64,.int .i64,.int .i64,.int .i64,.int .i64,.int .i64,.bool],.one (.bool)],[],0⟩
def JF (e0 e2 e4:Int) (w:Bool):Int := bif w then J0 e2 e4 else J0 e0 e4
theorem Ji9 (e0 e1 e2 e3 e4 e5 e6:Int) (e7 w:Bool):Runs (Js (JB JSB) KN 115) (JDA.args [.i e0,.i e1,.i e2,.i e3,.i e4,.i e5,.i e6,.b e7,.b w]) (JDA.memo [.i e0,.i e1,.i e2,.i e3,.i e4,.i e5,.i e6,.b e7,.b w] []) JDA.n (SV.agg [Ci (JF e0 e2 e4 w),Ci (JF e1 e3 e5 w)]) ([]) :=
  Runs.of1 (ps := []) (by kernel_rfl) (by simp)
def JM1:List Pm → Qr → Option CRes
  | [.i e0,.i e1,.i e2,.i e3,.i e4,.i e5,.i e6,.b e7,.b w],[] => some ⟨SV.agg [Ci (JF e0 e2 e4 w),Ci (JF e1 e3 e5 w)],
 [],[],[],85⟩
  | _,_ => none
theorem JpX:Qk Tryz.prog 115 (JS JDA JM1) := by
  refine JH (JD JL4 115) fun ps ls r hr hn _ => ?_
  unfold JM1 at hr
  split at hr
  · cases hr; exact ⟨_,Ji9 _ _ _ _ _ _ _ _ _,fun _ => rfl⟩
  · cases hr
def JVU:List (Nat × JW) := (115,JS JDA JM1) :: JSB
theorem JNn:Known Tryz.prog (JB JVU) KN := J7 JL4 JpX
def JG6:Tpl := ⟨[.agg [.int .i64,.int .i64,.int .i64,.int .i64,.int .i64,.int .i64,.int .i64,.bool],.one (.bool)],[],0⟩
def Qn (e0 e1 e2 e3 e5 e6:Int) (w:Bool):Int := bif e6 == 0 then J0 e2 e0 else IntKind.i64.wrap (IntKind.i64.wrap (0 - JF e1 e3 e5 w) * e6)
def Qm (e0 e1 e2 e3 e4 e6:Int) (w:Bool):Int := bif e6 == 0 then J0 e3 e1 else IntKind.i64.wrap (JF e0 e2 e4 w * e6)
theorem JlT (e0 e1 e2 e3 e4 e5 e6:Int) (e7 w:Bool):Runs (Js (JB JVU) KN 90) (JG6.args [.i e0,.i e1,.i e2,.i e3,.i e4,.i e5,.i e6,.b e7,.b w]) (JG6.memo [.i e0,.i e1,.i e2,.i e3,.i e4,.i e5,.i e6,.b e7,.b w] []) JG6.n (SV.agg [Ci (Qn e0 e1 e2 e3 e5 e6 w),Ci (Qm e0 e1 e2 e3 e4 e6 w)]) ([]) :=
  Runs.of1 (ps := []) (by kernel_rfl) (by simp)
def JRt:List Pm → Qr → Option CRes
  | [.i e0,.i e1,.i e2,.i e3,.i e4,.i e5,.i e6,.b e7,.b w],[] => some ⟨SV.agg [Ci (Qn e0 e1 e2 e3 e5 e6 w),Ci (Qm e0 e1 e2 e3 e4 e6 w)],
 [],[],[],163⟩
  | _,_ => none
theorem Js3:Qk Tryz.prog 90 (JS JG6 JRt) := by
  refine JH (JD JNn 90) fun ps ls r hr hn _ => ?_
  unfold JRt at hr
  split at hr
  · cases hr; exact ⟨_,JlT _ _ _ _ _ _ _ _ _,fun _ => rfl⟩
  · cases hr
def Jd0:List (Nat × JW) := (90,JS JG6 JRt) :: JVU
theorem JTu:Known Tryz.prog (JB Jd0) KN := J7 JNn Js3
def JD6:Tpl := ⟨[.agg [.int .i64,.int .i64,.int .i64,.int .i64,.int .i64,.int .i64,.int .i64,.bool],.agg [.int .i64,.int .i64],.one (.int .i64)],[],0⟩
section
variable (e0 e1 e2 e3 e4 e5 e6 y0 y1 r:Int)
def JQE:Int:= JHv (JE (J0 e2 e0) (J0 e3 e1) (J0 y0 e0) (J0 y1 e1)) (JE (J0 e2 e0) (J0 e3 e1) (J0 y0 e0) (J0 y1 e1)) (IntKind.i64.wrap (r * r)) (J8 (J0 e2 e0) (J0 e3 e1) (J0 e2 e0) (J0 e3 e1))
def jU:Int:= bif K7 e6 r then J8 (J0 y0 e4) (J0 y1 e5) (J0 y0 e4) (J0 y1 e5) else J8 (JF e0 e2 e4 true) (JF e1 e3 e5 true) (JF e0 e2 e4 true) (JF e1 e3 e5 true)
def Yx:Int:= IntKind.i64.wrap (IntKind.i64.wrap ((bif K7 e6 r then J8 (JF e0 e2 e4 true) (JF e1 e3 e5 true) (JF e0 e2 e4 true) (JF e1 e3 e5 true) else J8 (J0 y0 e4) (J0 y1 e5) (J0 y0 e4) (J0 y1 e5)) - jU e0 e1 e2 e3 e4 e5 e6 y0 y1 r) - IntKind.i64.wrap (r * r))
def JcS:Int:= JHv (Yx e0 e1 e2 e3 e4 e5 e6 y0 y1 r) (Yx e0 e1 e2 e3 e4 e5 e6 y0 y1 r) (IntKind.i64.wrap (IntKind.i64.wrap (4 * r) * r)) (jU e0 e1 e2 e3 e4 e5 e6 y0 y1 r)
def XC:Bool:= bif e6 == 0 then (decide (r ≥ 0) && decide (JE (J0 e2 e0) (J0 e3 e1) (J0 y0 e0) (J0 y1 e1) ≥ 0) || decide (r < 0) && decide (JE (J0 e2 e0) (J0 e3 e1) (J0 y0 e0) (J0 y1 e1) ≤ 0)) && decide (JQE e0 e1 e2 e3 y0 y1 r ≥ 0) else decide (Yx e0 e1 e2 e3 e4 e5 e6 y0 y1 r ≥ 0) && decide (JcS e0 e1 e2 e3 e4 e5 e6 y0 y1 r ≥ 0)
def JK6:Prop:= (decide (r ≥ 0) && decide (JE (J0 e2 e0) (J0 e3 e1) (J0 y0 e0) (J0 y1 e1) ≥ 0) || decide (r < 0) && decide (JE (J0 e2 e0) (J0 e3 e1) (J0 y0 e0) (J0 y1 e1) ≤ 0)) = true
def JKC:Prop:= decide (Yx e0 e1 e2 e3 e4 e5 e6 y0 y1 r ≥ 0) = true
def Jbi:Int:= IntKind.i64.wrap (IntKind.i64.wrap (4 * r) * r)
def JBf:List Prop:= [(e6 == 0) = true → (JK6 e0 e1 e2 e3 y0 y1 r → -9223372036854775808 ≤ JE (J0 e2 e0) (J0 e3 e1) (J0 y0 e0) (J0 y1 e1) ∧ JE (J0 e2 e0) (J0 e3 e1) (J0 y0 e0) (J0 y1 e1) < 9223372036854775808) ∧ (JK6 e0 e1 e2 e3 y0 y1 r → -9223372036854775808 ≤ JE (J0 e2 e0) (J0 e3 e1) (J0 y0 e0) (J0 y1 e1) ∧ JE (J0 e2 e0) (J0 e3 e1) (J0 y0 e0) (J0 y1 e1) < 9223372036854775808) ∧ (JK6 e0 e1 e2 e3 y0 y1 r → -9223372036854775808 ≤ IntKind.i64.wrap (r * r) ∧ IntKind.i64.wrap (r * r) < 9223372036854775808) ∧ (JK6 e0 e1 e2 e3 y0 y1 r → -9223372036854775808 ≤ J8 (J0 e2 e0) (J0 e3 e1) (J0 e2 e0) (J0 e3 e1) ∧ J8 (J0 e2 e0) (J0 e3 e1) (J0 e2 e0) (J0 e3 e1) < 9223372036854775808),(e6 == 0) = false → (JKC e0 e1 e2 e3 e4 e5 e6 y0 y1 r → -9223372036854775808 ≤ Yx e0 e1 e2 e3 e4 e5 e6 y0 y1 r ∧ Yx e0 e1 e2 e3 e4 e5 e6 y0 y1 r < 9223372036854775808) ∧ (JKC e0 e1 e2 e3 e4 e5 e6 y0 y1 r → -9223372036854775808 ≤ Yx e0 e1 e2 e3 e4 e5 e6 y0 y1 r ∧ Yx e0 e1 e2 e3 e4 e5 e6 y0 y1 r < 9223372036854775808) ∧ (JKC e0 e1 e2 e3 e4 e5 e6 y0 y1 r → -9223372036854775808 ≤ Jbi r ∧ Jbi r < 9223372036854775808) ∧ (JKC e0 e1 e2 e3 e4 e5 e6 y0 y1 r → -9223372036854775808 ≤ jU e0 e1 e2 e3 e4 e5 e6 y0 y1 r ∧ jU e0 e1 e2 e3 e4 e5 e6 y0 y1 r < 9223372036854775808)]
end
theorem JiQ {e0:Int} {e1:Int} {e2:Int} {e3:Int} {e4:Int} {e5:Int} {e6:Int} {y0:Int} {y1:Int} {r:Int}:∀ q ∈ (JBf e0 e1 e2 e3 e4 e5 e6 y0 y1 r),q := by
  unfold JBf
  simp only [awc,awn,and_true]
  have s1:XY (jU e0 e1 e2 e3 e4 e5 e6 y0 y1 r) := by
    unfold jU
    cases K7 e6 r <;> exact Jk _
  exact ⟨fun _ => ⟨fun _ => Jk _,fun _ => Jk _,fun _ => Jk _,fun _ => Jk _⟩,fun _ => ⟨fun _ => Jk _,fun _ => Jk _,fun _ => Jk _,fun _ => s1⟩⟩
theorem Jga (e0 e1 e2 e3 e4 e5 e6:Int) (e7:Bool) (y0 y1 r:Int) (hNeeds:∀ pN ∈ (JBf e0 e1 e2 e3 e4 e5 e6 y0 y1 r),pN):Runs (Js (JB Jd0) KN 120) (JD6.args [.i e0,.i e1,.i e2,.i e3,.i e4,.i e5,.i e6,.b e7,.i y0,.i y1,.i r]) (JD6.memo [.i e0,.i e1,.i e2,.i e3,.i e4,.i e5,.i e6,.b e7,.i y0,.i y1,.i r] []) JD6.n (SV.one (Cb (XC e0 e1 e2 e3 e4 e5 e6 y0 y1 r))) ([]) :=
  Runs.of1 (ps := (JBf e0 e1 e2 e3 e4 e5 e6 y0 y1 r)) (by kernel_rfl) hNeeds
def JMn:List Pm → Qr → Option CRes
  | [.i e0,.i e1,.i e2,.i e3,.i e4,.i e5,.i e6,.b e7,.i y0,.i y1,.i r],[] => some ⟨SV.one (Cb (XC e0 e1 e2 e3 e4 e5 e6 y0 y1 r)),
 [],[],[],1194⟩
  | _,_ => none
theorem JoO:Qk Tryz.prog 120 (JS JD6 JMn) := by
  refine JH (JD JTu 120) fun ps ls r hr hn _ => ?_
  unfold JMn at hr
  split at hr
  · cases hr; exact ⟨_,Jga _ _ _ _ _ _ _ _ _ _ _ (fun p hp => JiQ p hp),fun _ => rfl⟩
  · cases hr
def JZy:List (Nat × JW) := (120,JS JD6 JMn) :: Jd0
theorem JNT:Known Tryz.prog (JB JZy) KN := J7 JTu JoO
def JFJ:Tpl := ⟨[.agg [.int .i64,.int .i64,.int .i64,.int .i64,.int .i64,.int .i64,.int .i64,.bool],.one (.int .i64)],[],0⟩
section
variable (e0 e1 e2 e3 e4 e5 e6 r:Int)
def Zb:Int:=
 IntKind.i64.wrap ((if IntKind.i64.wrap (0 - r) > r then IntKind.i64.wrap (0 - r) else r) + 8)
def JXj:Int:= bif !QR (Zr e0 e1 (Qn e0 e1 e2 e3 e5 e6 false) (Qm e0 e1 e2 e3 e4 e6 false) r) (Zn e0 e1 (Qn e0 e1 e2 e3 e5 e6 false) (Qm e0 e1 e2 e3 e4 e6 false) r) || !QR (Zr e2 e3 (Qn e0 e1 e2 e3 e5 e6 true) (Qm e0 e1 e2 e3 e4 e6 true) r) (Zn e2 e3 (Qn e0 e1 e2 e3 e5 e6 true) (Qm e0 e1 e2 e3 e4 e6 true) r) then 0 else Zr e0 e1 (Qn e0 e1 e2 e3 e5 e6 false) (Qm e0 e1 e2 e3 e4 e6 false) r
def Kd:Int:= bif e6 != 0 && K7 e6 r then bif decide (J8 (JF e0 e2 e4 false) (JF e1 e3 e5 false) (JF e0 e2 e4 false) (JF e1 e3 e5 false) < IntKind.i64.wrap (Zb r * Zb r)) || decide (J8 (JF e0 e2 e4 true) (JF e1 e3 e5 true) (JF e0 e2 e4 true) (JF e1 e3 e5 true) < IntKind.i64.wrap (Zb r * Zb r)) then 0 else JXj e0 e1 e2 e3 e4 e5 e6 r else JXj e0 e1 e2 e3 e4 e5 e6 r
def JWy:Int:= bif !QR (Zr e0 e1 (Qn e0 e1 e2 e3 e5 e6 false) (Qm e0 e1 e2 e3 e4 e6 false) r) (Zn e0 e1 (Qn e0 e1 e2 e3 e5 e6 false) (Qm e0 e1 e2 e3 e4 e6 false) r) || !QR (Zr e2 e3 (Qn e0 e1 e2 e3 e5 e6 true) (Qm e0 e1 e2 e3 e4 e6 true) r) (Zn e2 e3 (Qn e0 e1 e2 e3 e5 e6 true) (Qm e0 e1 e2 e3 e4 e6 true) r) then 0 else Zn e0 e1 (Qn e0 e1 e2 e3 e5 e6 false) (Qm e0 e1 e2 e3 e4 e6 false) r
def Kf:Int:= bif e6 != 0 && K7 e6 r then bif decide (J8 (JF e0 e2 e4 false) (JF e1 e3 e5 false) (JF e0 e2 e4 false) (JF e1 e3 e5 false) < IntKind.i64.wrap (Zb r * Zb r)) || decide (J8 (JF e0 e2 e4 true) (JF e1 e3 e5 true) (JF e0 e2 e4 true) (JF e1 e3 e5 true) < IntKind.i64.wrap (Zb r * Zb r)) then 0 else JWy e0 e1 e2 e3 e4 e5 e6 r else JWy e0 e1 e2 e3 e4 e5 e6 r
def JWk:Int:= bif !QR (Zr e0 e1 (Qn e0 e1 e2 e3 e5 e6 false) (Qm e0 e1 e2 e3 e4 e6 false) r) (Zn e0 e1 (Qn e0 e1 e2 e3 e5 e6 false) (Qm e0 e1 e2 e3 e4 e6 false) r) || !QR (Zr e2 e3 (Qn e0 e1 e2 e3 e5 e6 true) (Qm e0 e1 e2 e3 e4 e6 true) r) (Zn e2 e3 (Qn e0 e1 e2 e3 e5 e6 true) (Qm e0 e1 e2 e3 e4 e6 true) r) then 0 else Zr e2 e3 (Qn e0 e1 e2 e3 e5 e6 true) (Qm e0 e1 e2 e3 e4 e6 true) r
def Xj:Int:= bif e6 != 0 && K7 e6 r then bif decide (J8 (JF e0 e2 e4 false) (JF e1 e3 e5 false) (JF e0 e2 e4 false) (JF e1 e3 e5 false) < IntKind.i64.wrap (Zb r * Zb r)) || decide (J8 (JF e0 e2 e4 true) (JF e1 e3 e5 true) (JF e0 e2 e4 true) (JF e1 e3 e5 true) < IntKind.i64.wrap (Zb r * Zb r)) then 0 else JWk e0 e1 e2 e3 e4 e5 e6 r else JWk e0 e1 e2 e3 e4 e5 e6 r
def JZm:Int:= bif !QR (Zr e0 e1 (Qn e0 e1 e2 e3 e5 e6 false) (Qm e0 e1 e2 e3 e4 e6 false) r) (Zn e0 e1 (Qn e0 e1 e2 e3 e5 e6 false) (Qm e0 e1 e2 e3 e4 e6 false) r) || !QR (Zr e2 e3 (Qn e0 e1 e2 e3 e5 e6 true) (Qm e0 e1 e2 e3 e4 e6 true) r) (Zn e2 e3 (Qn e0 e1 e2 e3 e5 e6 true) (Qm e0 e1 e2 e3 e4 e6 true) r) then 0 else Zn e2 e3 (Qn e0 e1 e2 e3 e5 e6 true) (Qm e0 e1 e2 e3 e4 e6 true) r
def Xm:Int:= bif e6 != 0 && K7 e6 r then bif decide (J8 (JF e0 e2 e4 false) (JF e1 e3 e5 false) (JF e0 e2 e4 false) (JF e1 e3 e5 false) < IntKind.i64.wrap (Zb r * Zb r)) || decide (J8 (JF e0 e2 e4 true) (JF e1 e3 e5 true) (JF e0 e2 e4 true) (JF e1 e3 e5 true) < IntKind.i64.wrap (Zb r * Zb r)) then 0 else JZm e0 e1 e2 e3 e4 e5 e6 r else JZm e0 e1 e2 e3 e4 e5 e6 r
def JZS:Int:= bif !QR (Zr e0 e1 (Qn e0 e1 e2 e3 e5 e6 false) (Qm e0 e1 e2 e3 e4 e6 false) r) (Zn e0 e1 (Qn e0 e1 e2 e3 e5 e6 false) (Qm e0 e1 e2 e3 e4 e6 false) r) || !QR (Zr e2 e3 (Qn e0 e1 e2 e3 e5 e6 true) (Qm e0 e1 e2 e3 e4 e6 true) r) (Zn e2 e3 (Qn e0 e1 e2 e3 e5 e6 true) (Qm e0 e1 e2 e3 e4 e6 true) r) then 3 else 0
def Qb:Int:= bif e6 != 0 && K7 e6 r then bif decide (J8 (JF e0 e2 e4 false) (JF e1 e3 e5 false) (JF e0 e2 e4 false) (JF e1 e3 e5 false) < IntKind.i64.wrap (Zb r * Zb r)) || decide (J8 (JF e0 e2 e4 true) (JF e1 e3 e5 true) (JF e0 e2 e4 true) (JF e1 e3 e5 true) < IntKind.i64.wrap (Zb r * Zb r)) then 16 else JZS e0 e1 e2 e3 e4 e5 e6 r else JZS e0 e1 e2 e3 e4 e5 e6 r
end
theorem Jkt (e0 e1 e2 e3 e4 e5 e6:Int) (e7:Bool) (r:Int):Runs (Js (JB JZy) KN 83) (JFJ.args [.i e0,.i e1,.i e2,.i e3,.i e4,.i e5,.i e6,.b e7,.i r]) (JFJ.memo [.i e0,.i e1,.i e2,.i e3,.i e4,.i e5,.i e6,.b e7,.i r] []) JFJ.n (SV.tup [(true,[Ci (Kd e0 e1 e2 e3 e4 e5 e6 r),Ci (Kf e0 e1 e2 e3 e4 e5 e6 r)]),(true,[Ci (Xj e0 e1 e2 e3 e4 e5 e6 r),Ci (Xm e0 e1 e2 e3 e4 e5 e6 r)]),(false,[Ci (Qb e0 e1 e2 e3 e4 e5 e6 r)])]) ([]) :=
  Runs.of1 (ps := []) (by kernel_rfl) (by simp)
def JRa:List Pm → Qr → Option CRes
  | [.i e0,.i e1,.i e2,.i e3,.i e4,.i e5,.i e6,.b e7,.i r],[] => some ⟨SV.tup [(true,[Ci (Kd e0 e1 e2 e3 e4 e5 e6 r),Ci (Kf e0 e1 e2 e3 e4 e5 e6 r)]),(true,[Ci (Xj e0 e1 e2 e3 e4 e5 e6 r),Ci (Xm e0 e1 e2 e3 e4 e5 e6 r)]),(false,[Ci (Qb e0 e1 e2 e3 e4 e5 e6 r)])],
 [],[],[],9344⟩
  | _,_ => none
theorem JtU:Qk Tryz.prog 83 (JS JFJ JRa) := by
  refine JH (JD JNT 83) fun ps ls r hr hn _ => ?_
  unfold JRa at hr
  split at hr
  · cases hr; exact ⟨_,Jkt _ _ _ _ _ _ _ _ _,fun _ => rfl⟩
  · cases hr
def JeU:List (Nat × JW) := (83,JS JFJ JRa) :: JZy
theorem JTB:Known Tryz.prog (JB JeU) KN := J7 JNT JtU
def JFN:Tpl := ⟨[.agg [.int .i64,.int .i64],.agg [.int .i64,.int .i64],.one (.int .i64),.one (.int .i64)],[],0⟩
section
variable (a b c d i s:Int)
def X5:Int:= bif decide (J8 a b c d > 0) then bif decide (IntKind.i64.wrap (JE a b c d * i) ≤ 0) then IntKind.i64.wrap (0 - IntKind.i64.wrap (a + c)) else IntKind.i64.wrap (a + c) else IntKind.i64.wrap (i * IntKind.i64.wrap (d - b))
def X0:Int:= bif decide (J8 a b c d > 0) then bif decide (IntKind.i64.wrap (JE a b c d * i) ≤ 0) then IntKind.i64.wrap (0 - IntKind.i64.wrap (b + d)) else IntKind.i64.wrap (b + d) else IntKind.i64.wrap (IntKind.i64.wrap (0 - i) * IntKind.i64.wrap (c - a))
def JK5:Int:= bif X5 a b c d i == 0 && X0 a b c d i == 0 then X5 a b c d i else jF (X5 a b c d i) s (J8 (X5 a b c d i) (X0 a b c d i) (X5 a b c d i) (X0 a b c d i)) 2
def JKa:Int:= bif X5 a b c d i == 0 && X0 a b c d i == 0 then X0 a b c d i else jF (X0 a b c d i) s (J8 (X5 a b c d i) (X0 a b c d i) (X5 a b c d i) (X0 a b c d i)) 2
def JiI:Prop:= -9223372036854775808 ≤ J8 (X5 a b c d i) (X0 a b c d i) (X5 a b c d i) (X0 a b c d i) ∧ J8 (X5 a b c d i) (X0 a b c d i) (X5 a b c d i) (X0 a b c d i) < 9223372036854775808
def JE7:List Prop:= [(X5 a b c d i == 0 && X0 a b c d i == 0) = false → (-9223372036854775808 ≤ X5 a b c d i ∧ X5 a b c d i < 9223372036854775808) ∧ (-9223372036854775808 ≤ s ∧ s < 9223372036854775808) ∧ JiI a b c d i ∧ (-9223372036854775808 ≤ X0 a b c d i ∧ X0 a b c d i < 9223372036854775808) ∧ (-9223372036854775808 ≤ s ∧ s < 9223372036854775808) ∧ JiI a b c d i]
end
theorem JjB {a:Int} {b:Int} {c:Int} {d:Int} {i:Int} {s:Int} (hW:∀ q ∈ ([XY s]:List Prop),q):∀ q ∈ (JE7 a b c d i s),q := by
  simp only [awc,awn,and_true] at hW
  unfold JE7
  simp only [awc,awn,and_true]
  have s1:XY (X5 a b c d i) := by
    unfold X5
    cases decide (J8 a b c d > 0) <;> cases decide (IntKind.i64.wrap (JE a b c d * i) ≤ 0) <;> exact Jk _
  have s2:XY (X0 a b c d i) := by
    unfold X0
    cases decide (J8 a b c d > 0) <;> cases decide (IntKind.i64.wrap (JE a b c d * i) ≤ 0) <;> exact Jk _
  exact fun _ => ⟨s1,hW,Jk _,s2,hW,Jk _⟩
theorem Jie (a b c d i s:Int) (hNeeds:∀ pN ∈ (JE7 a b c d i s),pN):Runs (Js (JB JeU) KN 148) (JFN.args [.i a,.i b,.i c,.i d,.i i,.i s]) (JFN.memo [.i a,.i b,.i c,.i d,.i i,.i s] []) JFN.n (SV.agg [Ci (JK5 a b c d i s),Ci (JKa a b c d i s)]) ([]) :=
  Runs.of1 (ps := (JE7 a b c d i s)) (by kernel_rfl) hNeeds
def JRF:List Pm → Qr → Option CRes
  | [.i a,.i b,.i c,.i d,.i i,.i s],[] => some ⟨SV.agg [Ci (JK5 a b c d i s),Ci (JKa a b c d i s)],
 [],[XY s],[],2078⟩
  | _,_ => none
theorem Jrl:Qk Tryz.prog 148 (JS JFN JRF) := by
  refine JH (JD JTB 148) fun ps ls r hr hn _ => ?_
  unfold JRF at hr
  split at hr
  · cases hr; exact ⟨_,Jie _ _ _ _ _ _ (JjB (by exact hn)),fun _ => rfl⟩
  · cases hr
def Jeg:List (Nat × JW) := (148,JS JFN JRF) :: JeU
theorem JSf:Known Tryz.prog (JB Jeg) KN := J7 JTB Jrl
def j3:Tpl := ⟨[.one (.int .i64),.one (.int .i64)],[],0⟩
def JCm (a n:Int):Int := bif decide (a.tmod n < 0) then IntKind.i64.wrap (IntKind.i64.wrap (a.tdiv n) - 1) else IntKind.i64.wrap (a.tdiv n)
def j8 (n:Int):List Prop := [n ≠ 0,n ≠ 0]
theorem JbB {n:Int} (hW:∀ q ∈ ([n ≠ 0]:List Prop),q):∀ q ∈ (j8 n),q := by
  simp only [awc,awn,and_true] at hW
  unfold j8
  simp only [awc,awn,and_true]
  exact ⟨hW,hW⟩
theorem Jb2 (a n:Int) (hNeeds:∀ pN ∈ (j8 n),pN):Runs (Js (JB Jeg) KN 167) (j3.args [.i a,.i n]) (j3.memo [.i a,.i n] []) j3.n (SV.one (Ci (JCm a n))) ([]) :=
  Runs.of1 (ps := (j8 n)) (by kernel_rfl) hNeeds
def JHc:List Pm → Qr → Option CRes
  | [.i a,.i n],[] => some ⟨SV.one (Ci (JCm a n)),
 [],[n ≠ 0],[],15⟩
  | _,_ => none
theorem Jh1:Qk Tryz.prog 167 (JS j3 JHc) := by
  refine JH (JD JSf 167) fun ps ls r hr hn _ => ?_
  unfold JHc at hr
  split at hr
  · cases hr; exact ⟨_,Jb2 _ _ (JbB (by exact hn)),fun _ => rfl⟩
  · cases hr
def JMP:List (Nat × JW) := (167,JS j3 JHc) :: Jeg
theorem JJ2:Known Tryz.prog (JB JMP) KN := J7 JSf Jh1
def JJ8:Tpl := ⟨[.agg [.int .i64,.int .i64],.agg [.int .i64,.int .i64]],[],0⟩
def JIj (a b c d:Int):Bool := !Ja (IntKind.i64.wrap (c - a)) 1 || !Ja (IntKind.i64.wrap (d - b)) 1
theorem JpZ (a b c d:Int):Runs (Js (JB JMP) KN 147) (JJ8.args [.i a,.i b,.i c,.i d]) (JJ8.memo [.i a,.i b,.i c,.i d] []) JJ8.n (SV.one (Cb (JIj a b c d))) ([]) :=
  Runs.of1 (ps := []) (by kernel_rfl) (by simp)
def JWB:List Pm → Qr → Option CRes
  | [.i a,.i b,.i c,.i d],[] => some ⟨SV.one (Cb (JIj a b c d)),
 [],[],[],48⟩
  | _,_ => none
theorem Juh:Qk Tryz.prog 147 (JS JJ8 JWB) := by
  refine JH (JD JJ2 147) fun ps ls r hr hn _ => ?_
  unfold JWB at hr
  split at hr
  · cases hr; exact ⟨_,JpZ _ _ _ _,fun _ => rfl⟩
  · cases hr
def Jl9:List (Nat × JW) := (147,JS JJ8 JWB) :: JMP
theorem Ja3:Known Tryz.prog (JB Jl9) KN := J7 JJ2 Juh
def k8:Tpl := ⟨[.agg [.int .i64,.int .i64],.agg [.int .i64,.int .i64]],[],0⟩
theorem Jcp (a b c d:Int):Runs (Js (JB Jl9) KN 122) (k8.args [.i a,.i b,.i c,.i d]) (k8.memo [.i a,.i b,.i c,.i d] []) k8.n (SV.one (Cb (XK a b c d))) ([]) :=
  Runs.of1 (ps := []) (by kernel_rfl) (by simp)
def JJe:List Pm → Qr → Option CRes
  | [.i a,.i b,.i c,.i d],[] => some ⟨SV.one (Cb (XK a b c d)),
 [],[],[],62⟩
  | _,_ => none
theorem Jlm:Qk Tryz.prog 122 (JS k8 JJe) := by
  refine JH (JD Ja3 122) fun ps ls r hr hn _ => ?_
  unfold JJe at hr
  split at hr
  · cases hr; exact ⟨_,Jcp _ _ _ _,fun _ => rfl⟩
  · cases hr
def JPt:List (Nat × JW) := (122,JS k8 JJe) :: Jl9
theorem JLF:Known Tryz.prog (JB JPt) KN := J7 Ja3 Jlm
def JEm:Tpl := ⟨[.agg [.int .i64,.int .i64],.agg [.int .i64,.int .i64],.one (.int .i64)],[],0⟩
def KS (a b c d e:Int):Int := bif decide (IntKind.i64.wrap (JE a b c d * e) > 0) || IntKind.i64.wrap (JE a b c d * e) == 0 && decide (J8 a b c d > 0) then 0 else 1
theorem JmI (a b c d e:Int):Runs (Js (JB JPt) KN 144) (JEm.args [.i a,.i b,.i c,.i d,.i e]) (JEm.memo [.i a,.i b,.i c,.i d,.i e] []) JEm.n (SV.one (Ci (KS a b c d e))) ([]) :=
  Runs.of1 (ps := []) (by kernel_rfl) (by simp)
def JR7:List Pm → Qr → Option CRes
  | [.i a,.i b,.i c,.i d,.i e],[] => some ⟨SV.one (Ci (KS a b c d e)),
 [],[],[],71⟩
  | _,_ => none
theorem Jsi:Qk Tryz.prog 144 (JS JEm JR7) := by
  refine JH (JD JLF 144) fun ps ls r hr hn _ => ?_
  unfold JR7 at hr
  split at hr
  · cases hr; exact ⟨_,JmI _ _ _ _ _,fun _ => rfl⟩
  · cases hr
def Jea:List (Nat × JW) := (144,JS JEm JR7) :: JPt
theorem JTe:Known Tryz.prog (JB Jea) KN := J7 JLF Jsi
def zF:Tpl := ⟨[.agg [.int .i64,.int .i64],.agg [.int .i64,.int .i64],.agg [.int .i64,.int .i64],.one (.int .i64),.one (.bool)],[],0⟩
def QN (a0 a1 b0 b1 p0 p1 d:Int) (f:Bool):Bool := f || bif KS a0 a1 p0 p1 d != KS a0 a1 b0 b1 d then decide (KS a0 a1 p0 p1 d < KS a0 a1 b0 b1 d) else decide (IntKind.i64.wrap (JE p0 p1 b0 b1 * d) ≥ 0)
theorem Jcs (a0 a1 b0 b1 p0 p1 d:Int) (f:Bool):Runs (Js (JB Jea) KN 119) (zF.args [.i a0,.i a1,.i b0,.i b1,.i p0,.i p1,.i d,.b f]) (zF.memo [.i a0,.i a1,.i b0,.i b1,.i p0,.i p1,.i d,.b f] []) zF.n (SV.one (Cb (QN a0 a1 b0 b1 p0 p1 d f))) ([]) :=
  Runs.of1 (ps := []) (by kernel_rfl) (by simp)
def JIc:List Pm → Qr → Option CRes
  | [.i a0,.i a1,.i b0,.i b1,.i p0,.i p1,.i d,.b f],[] => some ⟨SV.one (Cb (QN a0 a1 b0 b1 p0 p1 d f)),
 [],[],[],202⟩
  | _,_ => none
theorem Jll:Qk Tryz.prog 119 (JS zF JIc) := by
  refine JH (JD JTe 119) fun ps ls r hr hn _ => ?_
  unfold JIc at hr
  split at hr
  · cases hr; exact ⟨_,Jcs _ _ _ _ _ _ _ _,fun _ => rfl⟩
  · cases hr
def JPf:List (Nat × JW) := (119,JS zF JIc) :: Jea
theorem JLc:Known Tryz.prog (JB JPf) KN := J7 JTe Jll
def j4:Tpl := ⟨[.agg [.int .i64,.int .i64],.agg [.int .i64,.int .i64],.one (.int .i64),.one (.int .i64)],[],0⟩
def ZT (l0 h0 k n:Int):Int := IntKind.i64.wrap (l0 + JCm (IntKind.i64.wrap (IntKind.i64.wrap (IntKind.i64.wrap (2 * IntKind.i64.wrap (h0 - l0)) * k) + n)) (IntKind.i64.wrap (2 * n)))
def j9 (n:Int):List Prop := [IntKind.i64.wrap (2 * n) ≠ 0,IntKind.i64.wrap (2 * n) ≠ 0]
theorem JbD {n:Int} (hW:∀ q ∈ ([IntKind.i64.wrap (2 * n) ≠ 0]:List Prop),q):∀ q ∈ (j9 n),q := by
  simp only [awc,awn,and_true] at hW
  unfold j9
  simp only [awc,awn,and_true]
  exact ⟨hW,hW⟩
theorem Jb4 (l0 l1 h0 h1 k n:Int) (hNeeds:∀ pN ∈ (j9 n),pN):Runs (Js (JB JPf) KN 145) (j4.args [.i l0,.i l1,.i h0,.i h1,.i k,.i n]) (j4.memo [.i l0,.i l1,.i h0,.i h1,.i k,.i n] []) j4.n (SV.agg [Ci (ZT l0 h0 k n),Ci (ZT l1 h1 k n)]) ([]) :=
  Runs.of1 (ps := (j9 n)) (by kernel_rfl) hNeeds
def JHd:List Pm → Qr → Option CRes
  | [.i l0,.i l1,.i h0,.i h1,.i k,.i n],[] => some ⟨SV.agg [Ci (ZT l0 h0 k n),Ci (ZT l1 h1 k n)],
 [],[IntKind.i64.wrap (2 * n) ≠ 0],[],78⟩
  | _,_ => none
theorem JhM:Qk Tryz.prog 145 (JS j4 JHd) := by
  refine JH (JD JLc 145) fun ps ls r hr hn _ => ?_
  unfold JHd at hr
  split at hr
  · cases hr; exact ⟨_,Jb4 _ _ _ _ _ _ (JbD (by exact hn)),fun _ => rfl⟩
  · cases hr
def Y5:List (Nat × JW) := (145,JS j4 JHd) :: JPf
theorem JJ4:Known Tryz.prog (JB Y5) KN := J7 JLc JhM
def fdP (l0 l1 h0 h1 n e0 e1 e2 e3 e4 e5 e6 r k:Int):Bool := XC e0 e1 e2 e3 e4 e5 e6 (ZT l0 h0 k n) (ZT l1 h1 k n) r
def fdM (l0 l1 h0 h1 e0 e1 e2 e3 e4 e5 e6:Int) (e7:Bool):Jo := [Juv 28 29,Jug 24 25 h0 h1,Jug 20 21 l0 l1,JoU 0 1 e0 e1 e2 e3 e4 e5 e6 e7]
def fdF (l0 l1 h0 h1 n e0 e1 e2 e3 e4 e5 e6:Int) (e7:Bool) (r:Int):Fam (Int × Int) Int where
  k := 60
  E s := [(13,ent 1000000000 (.one (I s.2))),(12,ent 1000000001 (.one (I s.1))),(11,ent 56 (.one (I n))),(10,ent 31 (.one (.ptr 28 0))),(8,ent 27 (.one (.ptr 24 0))),(7,ent 23 (.one (.ptr 20 0))),(5,ent 9 (.one (.ptr 0 0))),(4,ent 8 (.one (I r)))]
  M _ := fdM l0 l1 h0 h1 e0 e1 e2 e3 e4 e5 e6 e7
  out b := .leaf (.exit 0) [(13,ent 61 (.one (I b))),(11,ent 56 (.one (I n))),(10,ent 31 (.one (.ptr 28 0))),(8,ent 27 (.one (.ptr 24 0))),(7,ent 23 (.one (.ptr 20 0)))] (fdM l0 l1 h0 h1 e0 e1 e2 e3 e4 e5 e6 e7)
  fin s := bsF (fdP l0 l1 h0 h1 n e0 e1 e2 e3 e4 e5 e6 r) s
  next s _ := bsN (fdP l0 l1 h0 h1 n e0 e1 e2 e3 e4 e5 e6 r) s
  J s := 0 ≤ s.1 ∧ s.1 ≤ s.2 ∧ s.2 ≤ n ∧ n ≤ 1000000000000
  μ s := (s.2 - s.1).toNat
section
variable (l0 l1 h0 h1 n e0 e1 e2 e3 e4 e5 e6:Int) (e7:Bool) (r:Int) (s:Int × Int)
def Jr9:Prop:= decide (IntKind.i64.wrap (s.snd - s.fst) > 1) = true
def Jtc:Int:= ((fdF l0 l1 h0 h1 n e0 e1 e2 e3 e4 e5 e6 e7 r).next s 0).fst
def Jrw:Int:= ((fdF l0 l1 h0 h1 n e0 e1 e2 e3 e4 e5 e6 e7 r).next s 0).snd
def Jvn:Int:= (fdF l0 l1 h0 h1 n e0 e1 e2 e3 e4 e5 e6 e7 r).fin s
def JXB:Int:= IntKind.i64.wrap ((IntKind.i64.wrap (s.fst + s.snd)).tdiv 2)
def JXw:List Prop:= [Jr9 s → IntKind.i64.wrap (2 * n) ≠ 0,Jr9 s → (0 ≤ Jtc l0 l1 h0 h1 n e0 e1 e2 e3 e4 e5 e6 e7 r s ∧ Jtc l0 l1 h0 h1 n e0 e1 e2 e3 e4 e5 e6 e7 r s ≤ Jrw l0 l1 h0 h1 n e0 e1 e2 e3 e4 e5 e6 e7 r s ∧ Jrw l0 l1 h0 h1 n e0 e1 e2 e3 e4 e5 e6 e7 r s ≤ n ∧ n ≤ 1000000000000) ∧ (fdF l0 l1 h0 h1 n e0 e1 e2 e3 e4 e5 e6 e7 r).μ ((fdF l0 l1 h0 h1 n e0 e1 e2 e3 e4 e5 e6 e7 r).next s 0) < (fdF l0 l1 h0 h1 n e0 e1 e2 e3 e4 e5 e6 e7 r).μ s ∧ (fdF l0 l1 h0 h1 n e0 e1 e2 e3 e4 e5 e6 e7 r).fin ((fdF l0 l1 h0 h1 n e0 e1 e2 e3 e4 e5 e6 e7 r).next s 0) = Jvn l0 l1 h0 h1 n e0 e1 e2 e3 e4 e5 e6 e7 r s ∧ (Jrw l0 l1 h0 h1 n e0 e1 e2 e3 e4 e5 e6 e7 r s = bif XC e0 e1 e2 e3 e4 e5 e6 (ZT l0 h0 (JXB s) n) (ZT l1 h1 (JXB s) n) r then JXB s else s.snd) ∧ Jtc l0 l1 h0 h1 n e0 e1 e2 e3 e4 e5 e6 e7 r s = bif XC e0 e1 e2 e3 e4 e5 e6 (ZT l0 h0 (JXB s) n) (ZT l1 h1 (JXB s) n) r then s.fst else JXB s,decide (IntKind.i64.wrap (s.snd - s.fst) > 1) = false → Jvn l0 l1 h0 h1 n e0 e1 e2 e3 e4 e5 e6 e7 r s = s.snd]
end
theorem Jqa (l0 l1 h0 h1 n e0 e1 e2 e3 e4 e5 e6:Int) (e7:Bool) (r:Int) (s:Int × Int) (hNeeds:∀ pN ∈ (JXw l0 l1 h0 h1 n e0 e1 e2 e3 e4 e5 e6 e7 r s),pN):Jz (XU (fdF l0 l1 h0 h1 n e0 e1 e2 e3 e4 e5 e6 e7 r) (QU Tryz.prog (JB Y5) KN 121 0) 60 s) :=
  Jz.of (ps := (JXw l0 l1 h0 h1 n e0 e1 e2 e3 e4 e5 e6 e7 r s)) (by kernel_rfl) (by kernel_rfl) hNeeds
theorem Jp0 (l0 l1 h0 h1 n e0 e1 e2 e3 e4 e5 e6:Int) (e7:Bool) (r:Int):Qv (fdF l0 l1 h0 h1 n e0 e1 e2 e3 e4 e5 e6 e7 r) (QU Tryz.prog (JB Y5) KN 121 0) 60 := by
  intro s hJ
  obtain ⟨h0',h1',h2,h3⟩:0 ≤ s.1 ∧ s.1 ≤ s.2 ∧ s.2 ≤ n ∧ n ≤ 1000000000000 := hJ
  obtain ⟨w1,w2,w3⟩ := Ju0 h0' h1' (by omega)
  have hk:JXB s = (s.1 + s.2).tdiv 2 := w2
  refine Jqa l0 l1 h0 h1 n e0 e1 e2 e3 e4 e5 e6 e7 r s ?_
  unfold JXw
  rw [hk]
  unfold Jr9
  rw [w1]
  intro p hp
  simp only [List.mem_cons,List.not_mem_nil,or_false] at hp
  rcases hp with rfl | rfl | rfl
  · intro h
    have h:s.2 - s.1 > 1 := by simpa using h
    rw [X7 (by omega) (by omega)]
    omega
  · intro h
    have h:s.2 - s.1 > 1 := by simpa using h
    obtain ⟨b1,b2,b3,b4,b5⟩ := Jt9 (P := fdP l0 l1 h0 h1 n e0 e1 e2 e3 e4 e5 e6 r) h0' h
    exact ⟨⟨b1,b2,Int.le_trans b3 h2,h3⟩,b4,b5,rfl,rfl⟩
  · intro h
    have h:¬ s.2 - s.1 > 1 := by simpa using h
    show bsF _ (s.1,s.2) = s.2
    exact JmY h
def fdL:QH := fun env mem m => match Wj env 13,Wj env 11,JI1 mem 20,JI1 mem 24,JcU mem 0,Wj env 4 with
  | some b,some n,some [l0,l1],some [h0,h1],some ([e0,e1,e2,e3,e4,e5,e6],e7),some r => jY (fdF l0 l1 h0 h1 n e0 e1 e2 e3 e4 e5 e6 e7 r) 60 (fun _ _ => some (bs0 b)) env mem m
  | _,_,_,_,_,_ => none
def JuS:FuncId → Nat → Option QH := JBZ KN 121 4 fdL
theorem JcR:Known Tryz.prog (JB Y5) JuS := by
  refine Qj 0 JJ4 (by kernel_rfl) (Qy fun env mem m x h => ?_)
  unfold fdL at h
  have hlen:(QZ Tryz.prog 121).length = 2 := by kernel_rfl
  split at h
  · exact ⟨_,XF (Qa Zy JJ4 (by omega)) (Jp0 _ _ _ _ _ _ _ _ _ _ _ _ _ _),h⟩
  · cases h
section
variable (P:Int → Int → Bool) (d z:Int) (full:Bool) (s:CvS)
def Jgx:Int:= bif full && Int.ofNat s.i == 0 then IntKind.i64.wrap (0 - s.a0) else JK5 s.a0 s.a1 s.b0 s.b1 d z
def JgX:Int:= bif full && Int.ofNat s.i == 0 then IntKind.i64.wrap (0 - s.a1) else JKa s.a0 s.a1 s.b0 s.b1 d z
def rcN:CvS:= ⟨s.i + 1,bif P (Jgx d z full s) (JgX d z full s) then s.a0 else Jgx d z full s,bif P (Jgx d z full s) (JgX d z full s) then s.a1 else JgX d z full s, bif P (Jgx d z full s) (JgX d z full s) then Jgx d z full s else s.b0,bif P (Jgx d z full s) (JgX d z full s) then JgX d z full s else s.b1⟩
end
def rcv (P:Int → Int → Bool) (d z:Int) (full:Bool):Nat → CvS → Int × Int
  | 0,s => (s.b0,s.b1)
  | f + 1,s => bif JIj s.a0 s.a1 s.b0 s.b1 || full && Int.ofNat s.i == 0 then rcv P d z full f (rcN P d z full s) else (s.b0,s.b1)
def faP (f4 f5 e0 e1 e2 e3 e4 e5 e6 r u w:Int):Bool := XC e0 e1 e2 e3 e4 e5 e6 (JI f4 u) (JI f5 w) r
def faM (f0 f1 f2 f3 f4 f5 f6:Int) (f7:Bool) (e0 e1 e2 e3 e4 e5 e6:Int) (e7:Bool):Jo := [Juv 28 29,JoU 10 11 f0 f1 f2 f3 f4 f5 f6 f7,JoU 0 1 e0 e1 e2 e3 e4 e5 e6 e7]
def faF (z:Int) (f0 f1 f2 f3 f4 f5 f6:Int) (f7:Bool) (e0 e1 e2 e3 e4 e5 e6:Int) (e7:Bool) (r:Int):Fam CvS (Int × Int) where
  k := 60
  E s := [(19,ent 1000000000 (.one (I (Int.ofNat s.i)))),(18,ent 1046 (.one (.ptr 1043 0))),(17,ent 1042 (.one (.ptr 1039 0))),(15,ent 978 (.one (I z))),(10,ent 31 (.one (.ptr 28 0))),(6,ent 19 (.one (.ptr 10 0))),(5,ent 9 (.one (.ptr 0 0))),(4,ent 8 (.one (I r)))]
  M s := JpA 1043 1000000001 1000000002 s.b0 s.b1 :: JpA 1039 1000000003 1000000004 s.a0 s.a1 :: faM f0 f1 f2 f3 f4 f5 f6 f7 e0 e1 e2 e3 e4 e5 e6 e7
  out t := .leaf (.exit 2) [(18,ent 1046 (.one (.ptr 1043 0))),(10,ent 31 (.one (.ptr 28 0))),(6,ent 19 (.one (.ptr 10 0)))] (JpA 1043 1055 1056 t.1 t.2 :: faM f0 f1 f2 f3 f4 f5 f6 f7 e0 e1 e2 e3 e4 e5 e6 e7)
  fin s := rcv (faP f4 f5 e0 e1 e2 e3 e4 e5 e6 r) f6 z f7 (24 - s.i) s
  next s _ := rcN (faP f4 f5 e0 e1 e2 e3 e4 e5 e6 r) f6 z f7 s
  J s := s.i ≤ 24 ∧ XY z
  μ s := 24 - s.i
section
variable (z f0 f1 f2 f3 f4 f5 f6:Int) (f7:Bool) (e0 e1 e2 e3 e4 e5 e6:Int) (e7:Bool) (r:Int) (s:CvS)
def JqO:Prop:= (decide (Int.ofNat s.i < 24) && (JIj s.a0 s.a1 s.b0 s.b1 || f7 && Int.ofNat s.i == 0)) = true
def JvM:Prop:= -9223372036854775808 ≤ z ∧ z < 9223372036854775808
def JcA:Int:= bif f7 && Int.ofNat s.i == 0 then IntKind.i64.wrap (0 - s.a0) else JK5 s.a0 s.a1 s.b0 s.b1 f6 z
def Jbc:Int:= bif f7 && Int.ofNat s.i == 0 then IntKind.i64.wrap (0 - s.a1) else JKa s.a0 s.a1 s.b0 s.b1 f6 z
def JVb:List Prop:= [JqO f7 s → JvM z,JqO f7 s → (((faF z f0 f1 f2 f3 f4 f5 f6 f7 e0 e1 e2 e3 e4 e5 e6 e7 r).next s 0).i ≤ 24 ∧ JvM z) ∧ (faF z f0 f1 f2 f3 f4 f5 f6 f7 e0 e1 e2 e3 e4 e5 e6 e7 r).μ ((faF z f0 f1 f2 f3 f4 f5 f6 f7 e0 e1 e2 e3 e4 e5 e6 e7 r).next s 0) < (faF z f0 f1 f2 f3 f4 f5 f6 f7 e0 e1 e2 e3 e4 e5 e6 e7 r).μ s ∧ (faF z f0 f1 f2 f3 f4 f5 f6 f7 e0 e1 e2 e3 e4 e5 e6 e7 r).fin ((faF z f0 f1 f2 f3 f4 f5 f6 f7 e0 e1 e2 e3 e4 e5 e6 e7 r).next s 0) = (faF z f0 f1 f2 f3 f4 f5 f6 f7 e0 e1 e2 e3 e4 e5 e6 e7 r).fin s ∧ Int.ofNat ((faF z f0 f1 f2 f3 f4 f5 f6 f7 e0 e1 e2 e3 e4 e5 e6 e7 r).next s 0).i = IntKind.i64.wrap (Int.ofNat s.i + 1) ∧ (((faF z f0 f1 f2 f3 f4 f5 f6 f7 e0 e1 e2 e3 e4 e5 e6 e7 r).next s 0).b0 = bif XC e0 e1 e2 e3 e4 e5 e6 (IntKind.i64.wrap (f4 + JcA z f6 f7 s)) (IntKind.i64.wrap (f5 + Jbc z f6 f7 s)) r then JcA z f6 f7 s else s.b0) ∧ (((faF z f0 f1 f2 f3 f4 f5 f6 f7 e0 e1 e2 e3 e4 e5 e6 e7 r).next s 0).b1 = bif XC e0 e1 e2 e3 e4 e5 e6 (IntKind.i64.wrap (f4 + JcA z f6 f7 s)) (IntKind.i64.wrap (f5 + Jbc z f6 f7 s)) r then Jbc z f6 f7 s else s.b1) ∧ (((faF z f0 f1 f2 f3 f4 f5 f6 f7 e0 e1 e2 e3 e4 e5 e6 e7 r).next s 0).a0 = bif XC e0 e1 e2 e3 e4 e5 e6 (IntKind.i64.wrap (f4 + JcA z f6 f7 s)) (IntKind.i64.wrap (f5 + Jbc z f6 f7 s)) r then s.a0 else JcA z f6 f7 s) ∧ ((faF z f0 f1 f2 f3 f4 f5 f6 f7 e0 e1 e2 e3 e4 e5 e6 e7 r).next s 0).a1 = bif XC e0 e1 e2 e3 e4 e5 e6 (IntKind.i64.wrap (f4 + JcA z f6 f7 s)) (IntKind.i64.wrap (f5 + Jbc z f6 f7 s)) r then s.a1 else Jbc z f6 f7 s,(decide (Int.ofNat s.i < 24) && (JIj s.a0 s.a1 s.b0 s.b1 || f7 && Int.ofNat s.i == 0)) = false → ((faF z f0 f1 f2 f3 f4 f5 f6 f7 e0 e1 e2 e3 e4 e5 e6 e7 r).fin s).fst = s.b0 ∧ ((faF z f0 f1 f2 f3 f4 f5 f6 f7 e0 e1 e2 e3 e4 e5 e6 e7 r).fin s).snd = s.b1]
end
theorem Jt6 (z f0 f1 f2 f3 f4 f5 f6:Int) (f7:Bool) (e0 e1 e2 e3 e4 e5 e6:Int) (e7:Bool) (r:Int) (s:CvS) (hNeeds:∀ pN ∈ (JVb z f0 f1 f2 f3 f4 f5 f6 f7 e0 e1 e2 e3 e4 e5 e6 e7 r s),pN):Jz (XU (faF z f0 f1 f2 f3 f4 f5 f6 f7 e0 e1 e2 e3 e4 e5 e6 e7 r) (QU Tryz.prog (JB Y5) JuS 121 1) 1054 s) :=
  Jz.of (ps := (JVb z f0 f1 f2 f3 f4 f5 f6 f7 e0 e1 e2 e3 e4 e5 e6 e7 r s)) (by kernel_rfl) (by kernel_rfl) hNeeds
theorem Ji3 (P:Int → Int → Bool) (d z:Int) (full:Bool) (s:CvS) (h:s.i < 24):rcv P d z full (24 - s.i) s = bif JIj s.a0 s.a1 s.b0 s.b1 || full && Int.ofNat s.i == 0 then rcv P d z full (24 - (s.i + 1)) (rcN P d z full s) else (s.b0,s.b1) := by
  have e:24 - s.i = (24 - (s.i + 1)) + 1 := by omega
  rw [e]; rfl
theorem Jp5 (z f0 f1 f2 f3 f4 f5 f6:Int) (f7:Bool) (e0 e1 e2 e3 e4 e5 e6:Int) (e7:Bool) (r:Int):Qv (faF z f0 f1 f2 f3 f4 f5 f6 f7 e0 e1 e2 e3 e4 e5 e6 e7 r) (QU Tryz.prog (JB Y5) JuS 121 1) 1054 := by
  intro s hJ
  obtain ⟨hi,hz⟩:s.i ≤ 24 ∧ XY z := hJ
  refine Jt6 z f0 f1 f2 f3 f4 f5 f6 f7 e0 e1 e2 e3 e4 e5 e6 e7 r s ?_
  unfold JVb
  intro p hp
  simp only [List.mem_cons,List.not_mem_nil,or_false] at hp
  have hw:IntKind.i64.wrap (Int.ofNat s.i + 1) = Int.ofNat (s.i + 1) := by
    rw [X7 (by simp; omega) (by simp; omega)]; rfl
  rcases hp with rfl | rfl | rfl
  · exact fun _ => hz
  · intro h0
    unfold JqO at h0
    simp only [Bool.and_eq_true,decide_eq_true_eq] at h0
    obtain ⟨h1,h2⟩ := h0
    have hi':s.i < 24 := by simp at h1; omega
    have E1 := Ji3 (faP f4 f5 e0 e1 e2 e3 e4 e5 e6 r) f6 z f7 s hi'
    rw [h2,cond_true] at E1
    refine ⟨⟨by show s.i + 1 ≤ 24; omega,hz⟩,?_,E1.symm,hw.symm,rfl,rfl,rfl,rfl⟩
    show 24 - (s.i + 1) < 24 - s.i; omega
  · intro h
    have E2:(faF z f0 f1 f2 f3 f4 f5 f6 f7 e0 e1 e2 e3 e4 e5 e6 e7 r).fin s = (s.b0,s.b1) := by
      show rcv _ _ _ _ (24 - s.i) s = _
      by_cases hi':s.i < 24
      · have hd:decide (Int.ofNat s.i < 24) = true := by simp; omega
        rw [hd,Bool.true_and] at h
        rw [Ji3 _ _ _ _ _ hi',h]; rfl
      · have:24 - s.i = 0 := by omega
        rw [this]; rfl
    rw [E2]
    exact ⟨rfl,rfl⟩
def faL:QH := fun env mem m => match Wj env 15,JI1 mem 1043,JI1 mem 1039,JcU mem 10,JcU mem 0,Wj env 4 with
  | some z,some [b0,b1],some [a0,a1],some ([f0,f1,f2,f3,f4,f5,f6],f7),some ([e0,e1,e2,e3,e4,e5,e6],e7),some r => jY (faF z f0 f1 f2 f3 f4 f5 f6 f7 e0 e1 e2 e3 e4 e5 e6 e7 r) 1054 (fun _ _ => some (cv0 a0 a1 b0 b1)) env mem m
  | _,_,_,_,_,_ => none
def XR:FuncId → Nat → Option QH := JBZ JuS 121 16 faL
theorem Jbk:Known Tryz.prog (JB Y5) XR := by
  refine Qj 1 JcR (by kernel_rfl) (Qy fun env mem m x h => ?_)
  unfold faL at h
  have hlen:(QZ Tryz.prog 121).length = 2 := by kernel_rfl
  split at h
  · exact ⟨_,XF (Qa Zy JcR (by omega)) (Jp5 _ _ _ _ _ _ _ _ _ _ _ _ _ _ _ _ _ _),h⟩
  · cases h
def YY (l0 l1 h0 h1:Int):Int :=
  if 0 - (h1 - l1) > (if h1 - l1 > (if 0 - (h0 - l0) > h0 - l0 then 0 - (h0 - l0) else h0 - l0) then h1 - l1 else (if 0 - (h0 - l0) > h0 - l0 then 0 - (h0 - l0) else h0 - l0)) then 0 - (h1 - l1) else (if h1 - l1 > (if 0 - (h0 - l0) > h0 - l0 then 0 - (h0 - l0) else h0 - l0) then h1 - l1 else (if 0 - (h0 - l0) > h0 - l0 then 0 - (h0 - l0) else h0 - l0))
theorem JnL {l0 l1 h0 h1:Int} (b0:bd 1048576 l0) (b1:bd 1048576 l1) (b2:bd 1048576 h0) (b3:bd 1048576 h1):QB l0 l1 h0 h1 = YY l0 l1 h0 h1 ∧ 0 ≤ YY l0 l1 h0 h1 ∧ YY l0 l1 h0 h1 ≤ 2097152 ∧ bd (YY l0 l1 h0 h1) (h0 - l0) ∧ bd (YY l0 l1 h0 h1) (h1 - l1) := by
  have d0:J0 h0 l0 = h0 - l0 := Xf (by omega) (by omega)
  have d1:J0 h1 l1 = h1 - l1 := Xf (by omega) (by omega)
  unfold QB JDY JDe YY
  rw [d0,d1,X7 (x := 0 - (h0 - l0)) (by omega) (by omega),X7 (x := 0 - (h1 - l1)) (by omega) (by omega)]
  refine ⟨rfl,?_⟩
  repeat' split
  all_goals omega
def JFj:Tpl := ⟨[.agg [.int .i64,.int .i64,.int .i64,.int .i64,.int .i64,.int .i64,.int .i64,.bool],.agg [.int .i64,.int .i64,.int .i64,.int .i64,.int .i64,.int .i64,.int .i64,.bool],.agg [.int .i64,.int .i64],.agg [.int .i64,.int .i64],.one (.int .i64)],[],0⟩
section
variable (e0 e1 e2 e3 e4 e5 e6:Int) (e7:Bool) (f0 f1 f2 f3 f4 f5 f6:Int) (f7:Bool) (l0 l1 h0 h1 r:Int)
def JNY:Int:=
 if IntKind.i64.wrap (l0 - h0) > IntKind.i64.wrap (h0 - l0) then IntKind.i64.wrap (l0 - h0) else IntKind.i64.wrap (h0 - l0)
def JN8:Int:=
 if IntKind.i64.wrap (h1 - l1) > JNY l0 h0 then IntKind.i64.wrap (h1 - l1) else JNY l0 h0
def ZB:Int:=
 if IntKind.i64.wrap (l1 - h1) > JN8 l0 l1 h0 h1 then IntKind.i64.wrap (l1 - h1) else JN8 l0 l1 h0 h1
def JNC:Int:= bif f6 == 0 then bif ZB l0 l1 h0 h1 == 0 then h0 else ZT l0 h0 ((fdF l0 l1 h0 h1 (ZB l0 l1 h0 h1) e0 e1 e2 e3 e4 e5 e6 e7 r).fin (bs0 (ZB l0 l1 h0 h1))) (ZB l0 l1 h0 h1) else IntKind.i64.wrap (f4 + ((faF (IntKind.i64.wrap (qC (J8 (JF f0 f2 f4 false) (JF f1 f3 f5 false) (JF f0 f2 f4 false) (JF f1 f3 f5 false)) 1 2 - IntKind.i64.wrap (f6 * r))) f0 f1 f2 f3 f4 f5 f6 f7 e0 e1 e2 e3 e4 e5 e6 e7 r).fin (cv0 (J0 l0 f4) (J0 l1 f5) (J0 h0 f4) (J0 h1 f5))).fst)
def JNH:Int:= bif f6 == 0 then bif ZB l0 l1 h0 h1 == 0 then h1 else ZT l1 h1 ((fdF l0 l1 h0 h1 (ZB l0 l1 h0 h1) e0 e1 e2 e3 e4 e5 e6 e7 r).fin (bs0 (ZB l0 l1 h0 h1))) (ZB l0 l1 h0 h1) else IntKind.i64.wrap (f5 + ((faF (IntKind.i64.wrap (qC (J8 (JF f0 f2 f4 false) (JF f1 f3 f5 false) (JF f0 f2 f4 false) (JF f1 f3 f5 false)) 1 2 - IntKind.i64.wrap (f6 * r))) f0 f1 f2 f3 f4 f5 f6 f7 e0 e1 e2 e3 e4 e5 e6 e7 r).fin (cv0 (J0 l0 f4) (J0 l1 f5) (J0 h0 f4) (J0 h1 f5))).snd)
def Jhm:Int:= IntKind.i64.wrap (qC (J8 (JF f0 f2 f4 false) (JF f1 f3 f5 false) (JF f0 f2 f4 false) (JF f1 f3 f5 false)) 1 2 - IntKind.i64.wrap (f6 * r))
def JDx:List Prop:= [(f6 == 0) = true → (0 ≤ (bs0 (ZB l0 l1 h0 h1)).fst ∧ (bs0 (ZB l0 l1 h0 h1)).fst ≤ (bs0 (ZB l0 l1 h0 h1)).snd ∧ (bs0 (ZB l0 l1 h0 h1)).snd ≤ ZB l0 l1 h0 h1 ∧ ZB l0 l1 h0 h1 ≤ 1000000000000) ∧ (bs0 (ZB l0 l1 h0 h1)).snd = ZB l0 l1 h0 h1 ∧ (bs0 (ZB l0 l1 h0 h1)).fst = 0 ∧ ((ZB l0 l1 h0 h1 == 0) = false → IntKind.i64.wrap (2 * ZB l0 l1 h0 h1) ≠ 0),(f6 == 0) = false → (-9223372036854775808 ≤ J8 (JF f0 f2 f4 false) (JF f1 f3 f5 false) (JF f0 f2 f4 false) (JF f1 f3 f5 false) ∧ J8 (JF f0 f2 f4 false) (JF f1 f3 f5 false) (JF f0 f2 f4 false) (JF f1 f3 f5 false) < 9223372036854775808) ∧ ((cv0 (J0 l0 f4) (J0 l1 f5) (J0 h0 f4) (J0 h1 f5)).i ≤ 24 ∧ -9223372036854775808 ≤ Jhm f0 f1 f2 f3 f4 f5 f6 r ∧ Jhm f0 f1 f2 f3 f4 f5 f6 r < 9223372036854775808) ∧ Int.ofNat (cv0 (J0 l0 f4) (J0 l1 f5) (J0 h0 f4) (J0 h1 f5)).i = 0 ∧ (cv0 (J0 l0 f4) (J0 l1 f5) (J0 h0 f4) (J0 h1 f5)).b0 = J0 h0 f4 ∧ (cv0 (J0 l0 f4) (J0 l1 f5) (J0 h0 f4) (J0 h1 f5)).b1 = J0 h1 f5 ∧ (cv0 (J0 l0 f4) (J0 l1 f5) (J0 h0 f4) (J0 h1 f5)).a0 = J0 l0 f4 ∧ (cv0 (J0 l0 f4) (J0 l1 f5) (J0 h0 f4) (J0 h1 f5)).a1 = J0 l1 f5]
end
theorem Jl0 {f0:Int} {f1:Int} {f2:Int} {f3:Int} {f4:Int} {f5:Int} {f6:Int} {l0:Int} {l1:Int} {h0:Int} {h1:Int} {r:Int} (hW:∀ q ∈ ([bd 1048576 l0,bd 1048576 l1,bd 1048576 h0,bd 1048576 h1]:List Prop),q):∀ q ∈ (JDx f0 f1 f2 f3 f4 f5 f6 l0 l1 h0 h1 r),q := by
  simp only [awc,awn,and_true] at hW
  unfold JDx
  simp only [awc,awn,and_true]
  obtain ⟨b0,b1,b2,b3⟩ := hW
  have en:ZB l0 l1 h0 h1 = YY l0 l1 h0 h1 := by
    unfold ZB JN8 JNY YY
    rw [X7 (x := l0 - h0) (by omega) (by omega),X7 (x := h0 - l0) (by omega) (by omega),X7 (x := h1 - l1) (by omega) (by omega),X7 (x := l1 - h1) (by omega) (by omega),show l0 - h0 = 0 - (h0 - l0) by omega,show l1 - h1 = 0 - (h1 - l1) by omega]
  obtain ⟨_,n0,n1,_,_⟩ := JnL b0 b1 b2 b3
  rw [← en] at n0 n1
  refine ⟨fun _ => ⟨⟨Int.le_refl 0,n0,Int.le_refl _,by omega⟩,rfl,rfl,fun h => ?_⟩,fun _ => ⟨Jk _,⟨Nat.zero_le _,Jk _⟩,rfl,rfl,rfl,rfl,rfl⟩⟩
  rw [X7 (by omega) (by omega)]
  have:ZB l0 l1 h0 h1 ≠ 0 := by simpa using h
  omega
theorem JjJ (e0 e1 e2 e3 e4 e5 e6:Int) (e7:Bool) (f0 f1 f2 f3 f4 f5 f6:Int) (f7:Bool) (l0 l1 h0 h1 r:Int) (hNeeds:∀ pN ∈ (JDx f0 f1 f2 f3 f4 f5 f6 l0 l1 h0 h1 r),pN):Runs (Js (JB Y5) XR 121) (JFj.args [.i e0,.i e1,.i e2,.i e3,.i e4,.i e5,.i e6,.b e7,.i f0,.i f1,.i f2,.i f3,.i f4,.i f5,.i f6,.b f7,.i l0,.i l1,.i h0,.i h1,.i r]) (JFj.memo [.i e0,.i e1,.i e2,.i e3,.i e4,.i e5,.i e6,.b e7,.i f0,.i f1,.i f2,.i f3,.i f4,.i f5,.i f6,.b f7,.i l0,.i l1,.i h0,.i h1,.i r] []) JFj.n (SV.agg [Ci (JNC e0 e1 e2 e3 e4 e5 e6 e7 f0 f1 f2 f3 f4 f5 f6 f7 l0 l1 h0 h1 r),Ci (JNH e0 e1 e2 e3 e4 e5 e6 e7 f0 f1 f2 f3 f4 f5 f6 f7 l0 l1 h0 h1 r)]) ([]) :=
  Runs.of1 (ps := (JDx f0 f1 f2 f3 f4 f5 f6 l0 l1 h0 h1 r)) (by kernel_rfl) hNeeds
def JRT:List Pm → Qr → Option CRes
  | [.i e0,.i e1,.i e2,.i e3,.i e4,.i e5,.i e6,.b e7,.i f0,.i f1,.i f2,.i f3,.i f4,.i f5,.i f6,.b f7,.i l0,.i l1,.i h0,.i h1,.i r],[] => some ⟨SV.agg [Ci (JNC e0 e1 e2 e3 e4 e5 e6 e7 f0 f1 f2 f3 f4 f5 f6 f7 l0 l1 h0 h1 r),Ci (JNH e0 e1 e2 e3 e4 e5 e6 e7 f0 f1 f2 f3 f4 f5 f6 f7 l0 l1 h0 h1 r)],
 [],[bd 1048576 l0,bd 1048576 l1,bd 1048576 h0,bd 1048576 h1],[],1149⟩
  | _,_ => none
theorem Jry:Qk Tryz.prog 121 (JS JFj JRT) := by
  refine JH (JD Jbk 121) fun ps ls r hr hn _ => ?_
  unfold JRT at hr
  split at hr
  · cases hr; exact ⟨_,JjJ _ _ _ _ _ _ _ _ _ _ _ _ _ _ _ _ _ _ _ _ _ (Jl0 (by exact hn)),fun _ => rfl⟩
  · cases hr
def JeV:List (Nat × JW) := (121,JS JFj JRT) :: Y5
theorem JTH:Known Tryz.prog (JB JeV) XR := J7 Jbk Jry
theorem JNL (A B C D X:Int) (hX:X = A ∨ X = B ∨ X = C ∨ X = D):bd 1048576 (bif !QR A B || !QR C D then 0 else X) := by
  have hw:∀ a b,QR a b = (Ja a 1048576 && Ja b 1048576) := fun _ _ => rfl
  have z:bd 1048576 0 := by decide
  rw [hw,hw]
  cases hA:Ja A 1048576
  · exact z
  cases hB:Ja B 1048576
  · exact z
  cases hC:Ja C 1048576
  · exact z
  cases hD:Ja D 1048576
  · exact z
  have q:∀ {x},Ja x 1048576 = true → bd 1048576 x := fun h => (jB (by omega) (by omega)).1 h
  rcases hX with rfl | rfl | rfl | rfl
  · exact q hA
  · exact q hB
  · exact q hC
  · exact q hD
theorem Jto (e0 e1 e2 e3 e4 e5 e6 r:Int):bd 1048576 (Kd e0 e1 e2 e3 e4 e5 e6 r) ∧ bd 1048576 (Kf e0 e1 e2 e3 e4 e5 e6 r) ∧ bd 1048576 (Xj e0 e1 e2 e3 e4 e5 e6 r) ∧ bd 1048576 (Xm e0 e1 e2 e3 e4 e5 e6 r) := by
  have z:bd 1048576 0 := by decide
  have key:∀ (p q:Bool) (x:Int),bd 1048576 x → bd 1048576 (bif p then bif q then 0 else x else x) := fun p q x h => by
    cases p <;> cases q <;> first | exact h | exact z
  refine ⟨key _ _ _ ?_,key _ _ _ ?_,key _ _ _ ?_,key _ _ _ ?_⟩
  · exact JNL _ _ _ _ _ (.inl rfl)
  · exact JNL _ _ _ _ _ (.inr (.inl rfl))
  · exact JNL _ _ _ _ _ (.inr (.inr (.inl rfl)))
  · exact JNL _ _ _ _ _ (.inr (.inr (.inr rfl)))
def JFL:Tpl := ⟨[.agg [.int .i64,.int .i64,.int .i64,.int .i64,.int .i64,.int .i64,.int .i64,.bool],.agg [.int .i64,.int .i64,.int .i64,.int .i64,.int .i64,.int .i64,.int .i64,.bool],.one (.int .i64)],[],0⟩
section
variable (e0 e1 e2 e3 e4 e5 e6:Int) (e7:Bool) (f0 f1 f2 f3 f4 f5 f6:Int) (f7:Bool) (r:Int)
def K8:Int:= JNC e0 e1 e2 e3 e4 e5 e6 e7 f0 f1 f2 f3 f4 f5 f6 f7 (Kd f0 f1 f2 f3 f4 f5 f6 r) (Kf f0 f1 f2 f3 f4 f5 f6 r) (Xj f0 f1 f2 f3 f4 f5 f6 r) (Xm f0 f1 f2 f3 f4 f5 f6 r) r
def KD:Int:= JNH e0 e1 e2 e3 e4 e5 e6 e7 f0 f1 f2 f3 f4 f5 f6 f7 (Kd f0 f1 f2 f3 f4 f5 f6 r) (Kf f0 f1 f2 f3 f4 f5 f6 r) (Xj f0 f1 f2 f3 f4 f5 f6 r) (Xm f0 f1 f2 f3 f4 f5 f6 r) r
def JO6:Int:= J8 (J0 (K8 e0 e1 e2 e3 e4 e5 e6 e7 f0 f1 f2 f3 f4 f5 f6 f7 r) (Kd e0 e1 e2 e3 e4 e5 e6 r)) (J0 (KD e0 e1 e2 e3 e4 e5 e6 e7 f0 f1 f2 f3 f4 f5 f6 f7 r) (Kf e0 e1 e2 e3 e4 e5 e6 r)) (J0 e2 e0) (J0 e3 e1)
def Wv:Int:= bif Qb e0 e1 e2 e3 e4 e5 e6 r != 0 then 0 else bif Qb f0 f1 f2 f3 f4 f5 f6 r != 0 then 0 else bif !XC e0 e1 e2 e3 e4 e5 e6 (Xj f0 f1 f2 f3 f4 f5 f6 r) (Xm f0 f1 f2 f3 f4 f5 f6 r) r then 0 else bif !QR (K8 e0 e1 e2 e3 e4 e5 e6 e7 f0 f1 f2 f3 f4 f5 f6 f7 r) (KD e0 e1 e2 e3 e4 e5 e6 e7 f0 f1 f2 f3 f4 f5 f6 f7 r) then 0 else bif e6 == 0 then bif decide (JO6 e0 e1 e2 e3 e4 e5 e6 e7 f0 f1 f2 f3 f4 f5 f6 f7 r ≤ 0) then 0 else K8 e0 e1 e2 e3 e4 e5 e6 e7 f0 f1 f2 f3 f4 f5 f6 f7 r else bif !QN (JF e0 e2 e4 false) (JF e1 e3 e5 false) (JF e0 e2 e4 true) (JF e1 e3 e5 true) (J0 (K8 e0 e1 e2 e3 e4 e5 e6 e7 f0 f1 f2 f3 f4 f5 f6 f7 r) e4) (J0 (KD e0 e1 e2 e3 e4 e5 e6 e7 f0 f1 f2 f3 f4 f5 f6 f7 r) e5) e6 e7 || XK (JF e0 e2 e4 false) (JF e1 e3 e5 false) (J0 (K8 e0 e1 e2 e3 e4 e5 e6 e7 f0 f1 f2 f3 f4 f5 f6 f7 r) e4) (J0 (KD e0 e1 e2 e3 e4 e5 e6 e7 f0 f1 f2 f3 f4 f5 f6 f7 r) e5) then 0 else K8 e0 e1 e2 e3 e4 e5 e6 e7 f0 f1 f2 f3 f4 f5 f6 f7 r
def j6:Int:= bif Qb e0 e1 e2 e3 e4 e5 e6 r != 0 then 0 else bif Qb f0 f1 f2 f3 f4 f5 f6 r != 0 then 0 else bif !XC e0 e1 e2 e3 e4 e5 e6 (Xj f0 f1 f2 f3 f4 f5 f6 r) (Xm f0 f1 f2 f3 f4 f5 f6 r) r then 0 else bif !QR (K8 e0 e1 e2 e3 e4 e5 e6 e7 f0 f1 f2 f3 f4 f5 f6 f7 r) (KD e0 e1 e2 e3 e4 e5 e6 e7 f0 f1 f2 f3 f4 f5 f6 f7 r) then 0 else bif e6 == 0 then bif decide (JO6 e0 e1 e2 e3 e4 e5 e6 e7 f0 f1 f2 f3 f4 f5 f6 f7 r ≤ 0) then 0 else KD e0 e1 e2 e3 e4 e5 e6 e7 f0 f1 f2 f3 f4 f5 f6 f7 r else bif !QN (JF e0 e2 e4 false) (JF e1 e3 e5 false) (JF e0 e2 e4 true) (JF e1 e3 e5 true) (J0 (K8 e0 e1 e2 e3 e4 e5 e6 e7 f0 f1 f2 f3 f4 f5 f6 f7 r) e4) (J0 (KD e0 e1 e2 e3 e4 e5 e6 e7 f0 f1 f2 f3 f4 f5 f6 f7 r) e5) e6 e7 || XK (JF e0 e2 e4 false) (JF e1 e3 e5 false) (J0 (K8 e0 e1 e2 e3 e4 e5 e6 e7 f0 f1 f2 f3 f4 f5 f6 f7 r) e4) (J0 (KD e0 e1 e2 e3 e4 e5 e6 e7 f0 f1 f2 f3 f4 f5 f6 f7 r) e5) then 0 else KD e0 e1 e2 e3 e4 e5 e6 e7 f0 f1 f2 f3 f4 f5 f6 f7 r
def JDO:Int:= bif Qb e0 e1 e2 e3 e4 e5 e6 r != 0 then Qb e0 e1 e2 e3 e4 e5 e6 r else bif Qb f0 f1 f2 f3 f4 f5 f6 r != 0 then Qb f0 f1 f2 f3 f4 f5 f6 r else bif !XC e0 e1 e2 e3 e4 e5 e6 (Xj f0 f1 f2 f3 f4 f5 f6 r) (Xm f0 f1 f2 f3 f4 f5 f6 r) r then 16 else bif !QR (K8 e0 e1 e2 e3 e4 e5 e6 e7 f0 f1 f2 f3 f4 f5 f6 f7 r) (KD e0 e1 e2 e3 e4 e5 e6 e7 f0 f1 f2 f3 f4 f5 f6 f7 r) then 3 else bif e6 == 0 then bif decide (JO6 e0 e1 e2 e3 e4 e5 e6 e7 f0 f1 f2 f3 f4 f5 f6 f7 r ≤ 0) then 16 else 0 else bif !QN (JF e0 e2 e4 false) (JF e1 e3 e5 false) (JF e0 e2 e4 true) (JF e1 e3 e5 true) (J0 (K8 e0 e1 e2 e3 e4 e5 e6 e7 f0 f1 f2 f3 f4 f5 f6 f7 r) e4) (J0 (KD e0 e1 e2 e3 e4 e5 e6 e7 f0 f1 f2 f3 f4 f5 f6 f7 r) e5) e6 e7 || XK (JF e0 e2 e4 false) (JF e1 e3 e5 false) (J0 (K8 e0 e1 e2 e3 e4 e5 e6 e7 f0 f1 f2 f3 f4 f5 f6 f7 r) e4) (J0 (KD e0 e1 e2 e3 e4 e5 e6 e7 f0 f1 f2 f3 f4 f5 f6 f7 r) e5) then 16 else 0
def JDw:List Prop:= [(Qb e0 e1 e2 e3 e4 e5 e6 r != 0) = false → (Qb f0 f1 f2 f3 f4 f5 f6 r != 0) = false → (!XC e0 e1 e2 e3 e4 e5 e6 (Xj f0 f1 f2 f3 f4 f5 f6 r) (Xm f0 f1 f2 f3 f4 f5 f6 r) r) = false → (-1048576 ≤ Kd f0 f1 f2 f3 f4 f5 f6 r ∧ Kd f0 f1 f2 f3 f4 f5 f6 r ≤ 1048576) ∧ (-1048576 ≤ Kf f0 f1 f2 f3 f4 f5 f6 r ∧ Kf f0 f1 f2 f3 f4 f5 f6 r ≤ 1048576) ∧ (-1048576 ≤ Xj f0 f1 f2 f3 f4 f5 f6 r ∧ Xj f0 f1 f2 f3 f4 f5 f6 r ≤ 1048576) ∧ -1048576 ≤ Xm f0 f1 f2 f3 f4 f5 f6 r ∧ Xm f0 f1 f2 f3 f4 f5 f6 r ≤ 1048576]
end
theorem JjZ {e0:Int} {e1:Int} {e2:Int} {e3:Int} {e4:Int} {e5:Int} {e6:Int} {f0:Int} {f1:Int} {f2:Int} {f3:Int} {f4:Int} {f5:Int} {f6:Int} {r:Int}:∀ q ∈ (JDw e0 e1 e2 e3 e4 e5 e6 f0 f1 f2 f3 f4 f5 f6 r),q := by
  unfold JDw
  simp only [awc,awn,and_true]
  intro _ _ _
  exact Jto _ _ _ _ _ _ _ _
theorem Jkk (e0 e1 e2 e3 e4 e5 e6:Int) (e7:Bool) (f0 f1 f2 f3 f4 f5 f6:Int) (f7:Bool) (r:Int) (hNeeds:∀ pN ∈ (JDw e0 e1 e2 e3 e4 e5 e6 f0 f1 f2 f3 f4 f5 f6 r),pN):Runs (Js (JB JeV) XR 91) (JFL.args [.i e0,.i e1,.i e2,.i e3,.i e4,.i e5,.i e6,.b e7,.i f0,.i f1,.i f2,.i f3,.i f4,.i f5,.i f6,.b f7,.i r]) (JFL.memo [.i e0,.i e1,.i e2,.i e3,.i e4,.i e5,.i e6,.b e7,.i f0,.i f1,.i f2,.i f3,.i f4,.i f5,.i f6,.b f7,.i r] []) JFL.n (SV.tup [(true,[Ci (Wv e0 e1 e2 e3 e4 e5 e6 e7 f0 f1 f2 f3 f4 f5 f6 f7 r),Ci (j6 e0 e1 e2 e3 e4 e5 e6 e7 f0 f1 f2 f3 f4 f5 f6 f7 r)]),(false,[Ci (JDO e0 e1 e2 e3 e4 e5 e6 e7 f0 f1 f2 f3 f4 f5 f6 f7 r)])]) ([]) :=
  Runs.of1 (ps := (JDw e0 e1 e2 e3 e4 e5 e6 f0 f1 f2 f3 f4 f5 f6 r)) (by kernel_rfl) hNeeds
def JQv:List Pm → Qr → Option CRes
  | [.i e0,.i e1,.i e2,.i e3,.i e4,.i e5,.i e6,.b e7,.i f0,.i f1,.i f2,.i f3,.i f4,.i f5,.i f6,.b f7,.i r],[] => some ⟨SV.tup [(true,[Ci (Wv e0 e1 e2 e3 e4 e5 e6 e7 f0 f1 f2 f3 f4 f5 f6 f7 r),Ci (j6 e0 e1 e2 e3 e4 e5 e6 e7 f0 f1 f2 f3 f4 f5 f6 f7 r)]),(false,[Ci (JDO e0 e1 e2 e3 e4 e5 e6 e7 f0 f1 f2 f3 f4 f5 f6 f7 r)])],
 [],[],[],21877⟩
  | _,_ => none
theorem JsV:Qk Tryz.prog 91 (JS JFL JQv) := by
  refine JH (JD JTH 91) fun ps ls r hr hn _ => ?_
  unfold JQv at hr
  split at hr
  · cases hr; exact ⟨_,Jkk _ _ _ _ _ _ _ _ _ _ _ _ _ _ _ _ _ (fun p hp => JjZ p hp),fun _ => rfl⟩
  · cases hr
def Jep:List (Nat × JW) := (91,JS JFL JQv) :: JeV
theorem JT0:Known Tryz.prog (JB Jep) XR := J7 JTH JsV
def JJt:Tpl := ⟨[.one (.int .i64)],[],0⟩
theorem Jpd (k:Int):Runs (Js (JB Jep) XR 30) (JJt.args [.i k]) (JJt.memo [.i k] []) JJt.n (SV.one (Cb (J5 k))) ([]) :=
  Runs.of1 (ps := []) (by kernel_rfl) (by simp)
def Ja5:List Pm → Qr → Option CRes
  | [.i k],[] => some ⟨SV.one (Cb (J5 k)),
 [],[],[],8⟩
  | _,_ => none
theorem Juk:Qk Tryz.prog 30 (JS JJt Ja5) := by
  refine JH (JD JT0 30) fun ps ls r hr hn _ => ?_
  unfold Ja5 at hr
  split at hr
  · cases hr; exact ⟨_,Jpd _,fun _ => rfl⟩
  · cases hr
def Jip:List (Nat × JW) := (30,JS JJt Ja5) :: Jep
theorem JXH:Known Tryz.prog (JB Jip) XR := J7 JT0 Juk
def JJ7:Tpl := ⟨[.one (.int .i64),.one (.int .i64)],[],0⟩
theorem Job (n m:Int):Runs (Js (JB Jip) XR 55) (JJ7.args [.i n,.i m]) (JJ7.memo [.i n,.i m] []) JJ7.n (SV.one (Cb (Ja n m))) ([]) :=
  Runs.of1 (ps := []) (by kernel_rfl) (by simp)
def JZp:List Pm → Qr → Option CRes
  | [.i n,.i m],[] => some ⟨SV.one (Cb (Ja n m)),
 [],[],[],11⟩
  | _,_ => none
theorem Jui:Qk Tryz.prog 55 (JS JJ7 JZp) := by
  refine JH (JD JXH 55) fun ps ls r hr hn _ => ?_
  unfold JZp at hr
  split at hr
  · cases hr; exact ⟨_,Job _ _,fun _ => rfl⟩
  · cases hr
def Jji:List (Nat × JW) := (55,JS JJ7 JZp) :: Jip
theorem JaL:Known Tryz.prog (JB Jji) XR := J7 JXH Jui
def jA:Tpl := ⟨[.agg [.int .i64,.int .i64,.int .i64]],[],0⟩
def Y1 (a b c:Int):Bool := Ja a 1048576 && Ja b 1048576 && Ja c 1048576
theorem JbE (a b c:Int):Runs (Js (JB Jji) XR 41) (jA.args [.i a,.i b,.i c]) (jA.memo [.i a,.i b,.i c] []) jA.n (SV.one (Cb (Y1 a b c))) ([]) :=
  Runs.of1 (ps := []) (by kernel_rfl) (by simp)
def JHL:List Pm → Qr → Option CRes
  | [.i a,.i b,.i c],[] => some ⟨SV.one (Cb (Y1 a b c)),
 [],[],[],53⟩
  | _,_ => none
theorem Jg3:Qk Tryz.prog 41 (JS jA JHL) := by
  refine JH (JD JaL 41) fun ps ls r hr hn _ => ?_
  unfold JHL at hr
  split at hr
  · cases hr; exact ⟨_,JbE _ _ _,fun _ => rfl⟩
  · cases hr
def JLm:List (Nat × JW) := (41,JS jA JHL) :: Jji
theorem JJ5:Known Tryz.prog (JB JLm) XR := J7 JaL Jg3
def JA1:Tpl := ⟨[.one (.int .i64)],[],0⟩
def JCD (p:Int):Bool := p == 17 || p == 18 || p == 19
theorem JdN (p:Int):Runs (Js (JB JLm) XR 42) (JA1.args [.i p]) (JA1.memo [.i p] []) JA1.n (SV.one (Cb (JCD p))) ([]) :=
  Runs.of1 (ps := []) (by kernel_rfl) (by simp)
def JIx:List Pm → Qr → Option CRes
  | [.i p],[] => some ⟨SV.one (Cb (JCD p)),
 [],[],[],12⟩
  | _,_ => none
theorem Jlo:Qk Tryz.prog 42 (JS JA1 JIx) := by
  refine JH (JD JJ5 42) fun ps ls r hr hn _ => ?_
  unfold JIx at hr
  split at hr
  · cases hr; exact ⟨_,JdN _,fun _ => rfl⟩
  · cases hr
def JQJ:List (Nat × JW) := (42,JS JA1 JIx) :: JLm
theorem JL7:Known Tryz.prog (JB JQJ) XR := J7 JJ5 Jlo
def JDI:Tpl := ⟨[.one (.int .i64),.agg [.int .i64,.int .i64,.int .i64]],[],0⟩
theorem JgZ (p a b c:Int):Runs (Js (JB JQJ) XR 77) (JDI.args [.i p,.i a,.i b,.i c]) (JDI.memo [.i p,.i a,.i b,.i c] []) JDI.n (SV.tup [(true,[Ci (J3 p a b c),Ci (J4 p a b c)]),(false,[Ci (J9 p a b c)]),(false,[Cb (Kt p)])]) ([]) :=
  Runs.of1 (ps := []) (by kernel_rfl) (by simp)
def JMZ:List Pm → Qr → Option CRes
  | [.i p,.i a,.i b,.i c],[] => some ⟨SV.tup [(true,[Ci (J3 p a b c),Ci (J4 p a b c)]),(false,[Ci (J9 p a b c)]),(false,[Cb (Kt p)])],
 [],[],[],66⟩
  | _,_ => none
theorem Jo3:Qk Tryz.prog 77 (JS JDI JMZ) := by
  refine JH (JD JL7 77) fun ps ls r hr hn _ => ?_
  unfold JMZ at hr
  split at hr
  · cases hr; exact ⟨_,JgZ _ _ _ _,fun _ => rfl⟩
  · cases hr
def JXg:List (Nat × JW) := (77,JS JDI JMZ) :: JQJ
theorem JNM:Known Tryz.prog (JB JXg) XR := J7 JL7 Jo3
def JJc:Tpl := ⟨[.one (.int .i64),.agg [.int .i64,.int .i64,.int .i64]],[],0⟩
theorem JpG (p a b c:Int):Runs (Js (JB JXg) XR 78) (JJc.args [.i p,.i a,.i b,.i c]) (JJc.memo [.i p,.i a,.i b,.i c] []) JJc.n (SV.agg [Ci (J3 p a b c),Ci (J4 p a b c)]) ([]) :=
  Runs.of1 (ps := []) (by kernel_rfl) (by simp)
def JXk:List Pm → Qr → Option CRes
  | [.i p,.i a,.i b,.i c],[] => some ⟨SV.agg [Ci (J3 p a b c),Ci (J4 p a b c)],
 [],[],[],95⟩
  | _,_ => none
theorem JvA:Qk Tryz.prog 78 (JS JJc JXk) := by
  refine JH (JD JNM 78) fun ps ls r hr hn _ => ?_
  unfold JXk at hr
  split at hr
  · cases hr; exact ⟨_,JpG _ _ _ _,fun _ => rfl⟩
  · cases hr
def Jkr:List (Nat × JW) := (78,JS JJc JXk) :: JXg
theorem JZB:Known Tryz.prog (JB Jkr) XR := J7 JNM JvA
def JP2:Tpl := ⟨[.one (.int .i64),.agg [.int .i64,.int .i64,.int .i64]],[],0⟩
theorem JsU (p a b c:Int):Runs (Js (JB Jkr) XR 56) (JP2.args [.i p,.i a,.i b,.i c]) (JP2.memo [.i p,.i a,.i b,.i c] []) JP2.n (SV.one (Ci (J9 p a b c))) ([]) :=
  Runs.of1 (ps := []) (by kernel_rfl) (by simp)
def Jdh:List Pm → Qr → Option CRes
  | [.i p,.i a,.i b,.i c],[] => some ⟨SV.one (Ci (J9 p a b c)),
 [],[],[],90⟩
  | _,_ => none
theorem JwF:Qk Tryz.prog 56 (JS JP2 Jdh) := by
  refine JH (JD JZB 56) fun ps ls r hr hn _ => ?_
  unfold Jdh at hr
  split at hr
  · cases hr; exact ⟨_,JsU _ _ _ _,fun _ => rfl⟩
  · cases hr
def JqX:List (Nat × JW) := (56,JS JP2 Jdh) :: Jkr
theorem JcO:Known Tryz.prog (JB JqX) XR := J7 JZB JwF
def qo:Tpl := ⟨[.one (.int .i64),.agg [.int .i64,.int .i64],.one (.int .i64)],[],0⟩
theorem Jcn (p u w h:Int):Runs (Js (JB JqX) XR 76) (qo.args [.i p,.i u,.i w,.i h]) (qo.memo [.i p,.i u,.i w,.i h] []) qo.n (SV.tup [(true,[Ci (JP p u w h),Ci (JQ p u w h),Ci (JR p u w h)]),(false,[Cb (Kt p)])]) ([]) :=
  Runs.of1 (ps := []) (by kernel_rfl) (by simp)
def JJx:List Pm → Qr → Option CRes
  | [.i p,.i u,.i w,.i h],[] => some ⟨SV.tup [(true,[Ci (JP p u w h),Ci (JQ p u w h),Ci (JR p u w h)]),(false,[Cb (Kt p)])],
 [],[],[],65⟩
  | _,_ => none
theorem JkU:Qk Tryz.prog 76 (JS qo JJx) := by
  refine JH (JD JcO 76) fun ps ls r hr hn _ => ?_
  unfold JJx at hr
  split at hr
  · cases hr; exact ⟨_,Jcn _ _ _ _,fun _ => rfl⟩
  · cases hr
def JS6:List (Nat × JW) := (76,JS qo JJx) :: JqX
theorem JLd:Known Tryz.prog (JB JS6) XR := J7 JcO JkU
def JIm:Tpl := ⟨[.one (.int .i64),.agg [.int .i64,.int .i64],.one (.int .i64)],[],0⟩
theorem Jop (p u w h:Int):Runs (Js (JB JS6) XR 53) (JIm.args [.i p,.i u,.i w,.i h]) (JIm.memo [.i p,.i u,.i w,.i h] []) JIm.n (SV.agg [Ci (JP p u w h),Ci (JQ p u w h),Ci (JR p u w h)]) ([]) :=
  Runs.of1 (ps := []) (by kernel_rfl) (by simp)
def JVo:List Pm → Qr → Option CRes
  | [.i p,.i u,.i w,.i h],[] => some ⟨SV.agg [Ci (JP p u w h),Ci (JQ p u w h),Ci (JR p u w h)],
 [],[],[],96⟩
  | _,_ => none
theorem JuW:Qk Tryz.prog 53 (JS JIm JVo) := by
  refine JH (JD JLd 53) fun ps ls r hr hn _ => ?_
  unfold JVo at hr
  split at hr
  · cases hr; exact ⟨_,Jop _ _ _ _,fun _ => rfl⟩
  · cases hr
def Jk6:List (Nat × JW) := (53,JS JIm JVo) :: JS6
theorem JYC:Known Tryz.prog (JB Jk6) XR := J7 JLd JuW
def JOQ:Tpl := ⟨[.agg [.int .i64,.int .i64],.agg [.int .i64,.int .i64],.one (.bool)],[],0⟩
section
variable (a b c d:Int) (e:Bool)
def JAC:Int:= bif decide (J8 a b a b > J8 c d c d) then J8 c d c d else J8 a b a b
def Ww:Int:= IntKind.i64.wrap (IntKind.i64.wrap ((bif decide (J8 a b a b > J8 c d c d) then J8 a b a b else J8 c d c d) - JAC a b c d) - 16)
def JgK:Bool:= bif decide (JAC a b c d < 64) then false else bif decide (Ww a b c d > 0) && decide (JHv (Ww a b c d) (Ww a b c d) 64 (JAC a b c d) > 0) then false else bif e then a == c && b == d else !(JE a b c d == 0 && decide (J8 a b c d > 0))
def JeW:Prop:= decide (Ww a b c d > 0) = true
def JKW:List Prop:= [decide (JAC a b c d < 64) = false → (JeW a b c d → -9223372036854775808 ≤ Ww a b c d ∧ Ww a b c d < 9223372036854775808) ∧ (JeW a b c d → -9223372036854775808 ≤ Ww a b c d ∧ Ww a b c d < 9223372036854775808) ∧ (JeW a b c d → -9223372036854775808 ≤ 64 ∧ Int.ofNat 64 < 9223372036854775808) ∧ (JeW a b c d → -9223372036854775808 ≤ JAC a b c d ∧ JAC a b c d < 9223372036854775808)]
end
theorem Ju7 {a:Int} {b:Int} {c:Int} {d:Int}:∀ q ∈ (JKW a b c d),q := by
  intro q hq
  unfold JKW at hq
  simp only [List.mem_cons,List.not_mem_nil,or_false] at hq
  subst hq
  intro _
  have h0:XY (JAC a b c d) := by
    unfold JAC
    cases decide (J8 a b a b > J8 c d c d)
    · exact Jk _
    · exact Jk _
  have h1:XY (Ww a b c d) := Jk _
  exact ⟨fun _ => h1,fun _ => h1,fun _ => ⟨by decide,by decide⟩,fun _ => h0⟩
theorem Jr1 (a b c d:Int) (e:Bool) (hNeeds:∀ pN ∈ (JKW a b c d),pN):Runs (Js (JB Jk6) XR 58) (JOQ.args [.i a,.i b,.i c,.i d,.b e]) (JOQ.memo [.i a,.i b,.i c,.i d,.b e] []) JOQ.n (SV.one (Cb (JgK a b c d e))) ([]) :=
  Runs.of1 (ps := (JKW a b c d)) (by kernel_rfl) hNeeds
def Jeh:List Pm → Qr → Option CRes
  | [.i a,.i b,.i c,.i d,.b e],[] => some ⟨SV.one (Cb (JgK a b c d e)),
 [],[],[],539⟩
  | _,_ => none
theorem JwU:Qk Tryz.prog 58 (JS JOQ Jeh) := by
  refine JH (JD JYC 58) fun ps ls r hr hn _ => ?_
  unfold Jeh at hr
  split at hr
  · cases hr; exact ⟨_,Jr1 _ _ _ _ _ (fun p hp => Ju7 p hp),fun _ => rfl⟩
  · cases hr
def JsI:List (Nat × JW) := (58,JS JOQ Jeh) :: Jk6
theorem JcG:Known Tryz.prog (JB JsI) XR := J7 JYC JwU
def qJ:Tpl := ⟨[.agg pI],[],0⟩
theorem Jee (k bl f0 f1 f2 t0 t1 t2 p c0 c1 c2 d:Int) (fu:Bool) (fe:Int) (pr:Bool) (si ra be n sp:Int) (on:Bool):Runs (Js (JB JsI) XR 57) (qJ.args [.i k,.i bl,.i f0,.i f1,.i f2,.i t0,.i t1,.i t2,.i p,.i c0,.i c1,.i c2,.i d,.b fu,.i fe,.b pr,.i si,.i ra,.i be,.i n,.i sp,.b on]) (qJ.memo [.i k,.i bl,.i f0,.i f1,.i f2,.i t0,.i t1,.i t2,.i p,.i c0,.i c1,.i c2,.i d,.b fu,.i fe,.b pr,.i si,.i ra,.i be,.i n,.i sp,.b on] []) qJ.n (SV.tup [(true,[Ci (J0 (J3 p f0 f1 f2) (J3 p c0 c1 c2)),Ci (J0 (J4 p f0 f1 f2) (J4 p c0 c1 c2))]),(true,[Ci (J0 (J3 p t0 t1 t2) (J3 p c0 c1 c2)),Ci (J0 (J4 p t0 t1 t2) (J4 p c0 c1 c2))])]) ([]) :=
  Runs.of1 (ps := []) (by kernel_rfl) (by simp)
def JIh:List Pm → Qr → Option CRes
  | [.i k,.i bl,.i f0,.i f1,.i f2,.i t0,.i t1,.i t2,.i p,.i c0,.i c1,.i c2,.i d,.b fu,.i fe,.b pr,.i si,.i ra,.i be,.i n,.i sp,.b on],[] => some ⟨SV.tup [(true,[Ci (J0 (J3 p f0 f1 f2) (J3 p c0 c1 c2)),Ci (J0 (J4 p f0 f1 f2) (J4 p c0 c1 c2))]),(true,[Ci (J0 (J3 p t0 t1 t2) (J3 p c0 c1 c2)),Ci (J0 (J4 p t0 t1 t2) (J4 p c0 c1 c2))])],
 [],[],[],401⟩
  | _,_ => none
theorem JkL:Qk Tryz.prog 57 (JS qJ JIh) := by
  refine JH (JD JcG 57) fun ps ls r hr hn _ => ?_
  unfold JIh at hr
  split at hr
  · cases hr; exact ⟨_,Jee _ _ _ _ _ _ _ _ _ _ _ _ _ _ _ _ _ _ _ _ _ _,fun _ => rfl⟩
  · cases hr
def JSO:List (Nat × JW) := (57,JS qJ JIh) :: JsI
theorem JL8:Known Tryz.prog (JB JSO) XR := J7 JcG JkL
def JCP:Tpl := ⟨[.agg pI],[],0⟩
def WH (k f0 f1 f2 t0 t1 t2 p c0 c1 c2 d:Int) (fu:Bool):Int := bif k != 3 || !JCD p || !Y1 f0 f1 f2 || !Y1 t0 t1 t2 || !Y1 c0 c1 c2 || d != 1 && d != -1 || J9 p f0 f1 f2 != J9 p c0 c1 c2 then 1 else bif !JgK (J0 (J3 p f0 f1 f2) (J3 p c0 c1 c2)) (J0 (J4 p f0 f1 f2) (J4 p c0 c1 c2)) (J0 (J3 p t0 t1 t2) (J3 p c0 c1 c2)) (J0 (J4 p t0 t1 t2) (J4 p c0 c1 c2)) fu then 12 else 0
theorem Jg1 (k bl f0 f1 f2 t0 t1 t2 p c0 c1 c2 d:Int) (fu:Bool) (fe:Int) (pr:Bool) (si ra be n sp:Int) (on:Bool):Runs (Js (JB JSO) XR 44) (JCP.args [.i k,.i bl,.i f0,.i f1,.i f2,.i t0,.i t1,.i t2,.i p,.i c0,.i c1,.i c2,.i d,.b fu,.i fe,.b pr,.i si,.i ra,.i be,.i n,.i sp,.b on]) (JCP.memo [.i k,.i bl,.i f0,.i f1,.i f2,.i t0,.i t1,.i t2,.i p,.i c0,.i c1,.i c2,.i d,.b fu,.i fe,.b pr,.i si,.i ra,.i be,.i n,.i sp,.b on] []) JCP.n (SV.one (Ci (WH k f0 f1 f2 t0 t1 t2 p c0 c1 c2 d fu))) ([]) :=
  Runs.of1 (ps := []) (by kernel_rfl) (by simp)
def JMu:List Pm → Qr → Option CRes
  | [.i k,.i bl,.i f0,.i f1,.i f2,.i t0,.i t1,.i t2,.i p,.i c0,.i c1,.i c2,.i d,.b fu,.i fe,.b pr,.i si,.i ra,.i be,.i n,.i sp,.b on],[] => some ⟨SV.one (Ci (WH k f0 f1 f2 t0 t1 t2 p c0 c1 c2 d fu)),
 [],[],[],1394⟩
  | _,_ => none
theorem Jp9:Qk Tryz.prog 44 (JS JCP JMu) := by
  refine JH (JD JL8 44) fun ps ls r hr hn _ => ?_
  unfold JMu at hr
  split at hr
  · cases hr; exact ⟨_,Jg1 _ _ _ _ _ _ _ _ _ _ _ _ _ _ _ _ _ _ _ _ _ _,fun _ => rfl⟩
  · cases hr
def JVG:List (Nat × JW) := (44,JS JCP JMu) :: JSO
theorem JNf:Known Tryz.prog (JB JVG) XR := J7 JL8 Jp9
def JFh:Tpl := ⟨[.one (.int .i64),.one (.int .i64),.one (.int .i64)],[],0⟩
def KI (n m k:Int):Bool := decide (n ≥ m) && decide (n ≤ k)
theorem JkW (n m k:Int):Runs (Js (JB JVG) XR 39) (JFh.args [.i n,.i m,.i k]) (JFh.memo [.i n,.i m,.i k] []) JFh.n (SV.one (Cb (KI n m k))) ([]) :=
  Runs.of1 (ps := []) (by kernel_rfl) (by simp)
def JPe:List Pm → Qr → Option CRes
  | [.i n,.i m,.i k],[] => some ⟨SV.one (Cb (KI n m k)),
 [],[],[],10⟩
  | _,_ => none
theorem JsH:Qk Tryz.prog 39 (JS JFh JPe) := by
  refine JH (JD JNf 39) fun ps ls r hr hn _ => ?_
  unfold JPe at hr
  split at hr
  · cases hr; exact ⟨_,JkW _ _ _,fun _ => rfl⟩
  · cases hr
def Jcv:List (Nat × JW) := (39,JS JFh JPe) :: JVG
theorem JU9:Known Tryz.prog (JB Jcv) XR := J7 JNf JsH
def kD:Tpl := ⟨[.agg pI],[],0⟩
def JHI:List GK := [.v Jy]
section
variable (x:List GC)
def JRP:Int:= bif J5 (xi x 0) then xi x 2 else 0
def JQQ:Int:= bif J5 (xi x 0) then xi x 3 else 0
def JPP:Int:= bif J5 (xi x 0) then xi x 4 else 0
def JQ9:Int:= bif J5 (xi x 0) then xi x 5 else 0
def JRJ:Int:= bif J5 (xi x 0) then xi x 6 else 0
def JQh:Int:= bif J5 (xi x 0) then xi x 7 else 0
def JPJ:Int:= bif bif xi x 0 == 1 then xi x 0 == 1 else bif xi x 0 == 2 then xi x 0 == 2 else xi x 0 == 3 then xi x 8 else 0
def JPo:Int:= bif xi x 0 == 2 then 0 else bif xi x 0 == 3 then xi x 9 else 0
def JLw:Int:= bif xi x 0 == 2 then 0 else bif xi x 0 == 3 then xi x 10 else 0
def JMg:Int:= bif xi x 0 == 2 then 0 else bif xi x 0 == 3 then xi x 11 else 0
def JMC:Int:= bif xi x 0 == 2 then 0 else bif xi x 0 == 3 then xi x 12 else 0
def JMA:Bool:= bif xi x 0 == 2 then false else xi x 0 == 3 && xb x 13
def JMQ:Int:= bif KI (xi x 0) 2 6 then xi x 14 else 0
def JLn:Bool:= KI (xi x 0) 2 6 && xb x 15
def JMv:Int:= bif bif xi x 0 == 1 then xi x 0 == 1 else bif xi x 0 == 2 then xi x 0 == 2 else xi x 0 == 3 then xi x 16 else 0
def JLr:Int:= bif bif xi x 0 == 1 then xi x 0 == 1 else bif xi x 0 == 2 then xi x 0 == 2 else xi x 0 == 3 then xi x 17 else 0
def JMJ:Int:= bif xi x 0 == 2 then xi x 18 else bif xi x 0 == 3 then xi x 18 else 0
def JMm:Int:= bif xi x 0 == 2 then 0 else bif xi x 0 == 3 then 0 else bif bif xi x 0 == 6 then xi x 0 == 6 else bif xi x 0 == 7 then xi x 0 == 7 else xi x 0 == 11 then xi x 19 else bif xi x 0 == 8 then xi x 19 else bif bif xi x 0 == 9 then xi x 0 == 9 else xi x 0 == 10 then xi x 19 else 0
def JMR:Int:= bif xi x 0 == 2 then 0 else bif xi x 0 == 3 then 0 else bif bif xi x 0 == 6 then xi x 0 == 6 else bif xi x 0 == 7 then xi x 0 == 7 else xi x 0 == 11 then 0 else bif xi x 0 == 8 then xi x 20 else 0
def JMs:Bool:= bif xi x 0 == 2 then false else bif xi x 0 == 3 then false else bif bif xi x 0 == 6 then xi x 0 == 6 else bif xi x 0 == 7 then xi x 0 == 7 else xi x 0 == 11 then false else bif xi x 0 == 8 then false else (bif xi x 0 == 9 then xi x 0 == 9 else xi x 0 == 10) && xb x 21
end
theorem JfL (x:List GC):Runs (Js (JB Jcv) XR 40) (kD.args (Jc JHI [.v x])) (kD.memo (Jc JHI [.v x]) []) kD.n (SV.agg [Ci (xi x 0),Ci (xi x 1),Ci (JRP x),Ci (JQQ x),Ci (JPP x),Ci (JQ9 x),Ci (JRJ x),Ci (JQh x),Ci (JPJ x),Ci (JPo x),Ci (JLw x),Ci (JMg x),Ci (JMC x),Cb (JMA x),Ci (JMQ x),Cb (JLn x),Ci (JMv x),Ci (JLr x),Ci (JMJ x),Ci (JMm x),Ci (JMR x),Cb (JMs x)]) ([]) :=
  Runs.of1 (ps := []) (by kernel_rfl) (by simp)
def JJV:List Gm → Qr → Option CRes
  | [.v x],[] => some ⟨SV.agg [Ci (xi x 0),Ci (xi x 1),Ci (JRP x),Ci (JQQ x),Ci (JPP x),Ci (JQ9 x),Ci (JRJ x),Ci (JQh x),Ci (JPJ x),Ci (JPo x),Ci (JLw x),Ci (JMg x),Ci (JMC x),Cb (JMA x),Ci (JMQ x),Cb (JLn x),Ci (JMv x),Ci (JLr x),Ci (JMJ x),Ci (JMm x),Ci (JMR x),Cb (JMs x)],
 [],[],[],307⟩
  | _,_ => none
theorem Jkn:Qk Tryz.prog 40 (Z9 JHI kD JJV) := by
  refine Qd (JD JU9 40) fun ps ls r hr hn _ => ?_
  unfold JJV at hr
  split at hr
  · cases hr; exact ⟨_,JfL _,fun _ => rfl⟩
  · cases hr
def JRE:List (Nat × JW) := (40,Z9 JHI kD JJV) :: Jcv
theorem JLI:Known Tryz.prog (JB JRE) XR := J7 JU9 Jkn
def JCi:Tpl := ⟨[.agg pI],[],0⟩
def JL0:List GK := [.v Jy]
def JXK (x:List GC):Bool := bif xi x 0 == 5 then xb x 15 else bif xi x 0 == 6 then xb x 15 && KI (xi x 19) 3 4 else bif xi x 0 == 7 then KI (xi x 19) 0 60000 else bif xi x 0 == 8 then KI (xi x 19) 3 5 && KI (xi x 20) 0 30000 && (xi x 19 != 5 || xi x 20 == 0) else bif xi x 0 == 9 then KI (xi x 19) 7 8 else bif xi x 0 == 10 then KI (xi x 19) 0 15 else bif xi x 0 == 11 then KI (xi x 19) 0 32 else true
theorem Jhj (x:List GC):Runs (Js (JB JRE) XR 43) (JCi.args (Jc JL0 [.v x])) (JCi.memo (Jc JL0 [.v x]) []) JCi.n (SV.one (Cb (JXK x))) ([]) :=
  Runs.of1 (ps := []) (by kernel_rfl) (by simp)
def JMr:List Gm → Qr → Option CRes
  | [.v x],[] => some ⟨SV.one (Cb (JXK x)),
 [],[],[],158⟩
  | _,_ => none
theorem Joz:Qk Tryz.prog 43 (Z9 JL0 JCi JMr) := by
  refine Qd (JD JLI 43) fun ps ls r hr hn _ => ?_
  unfold JMr at hr
  split at hr
  · cases hr; exact ⟨_,Jhj _,fun _ => rfl⟩
  · cases hr
def JWp:List (Nat × JW) := (43,Z9 JL0 JCi JMr) :: JRE
theorem JNA:Known Tryz.prog (JB JWp) XR := J7 JLI Joz
def JCt:Tpl := ⟨[.agg pI],[],0⟩
def JKN:List GK := [.v Jy]
def Qt (x:List GC):Bool := bif !KI (xi x 0) 1 14 || !KI (xi x 1) 0 1999 || !(xi x 0 == xi x 0 && (xi x 1 == xi x 1 && (JRP (J2 x) == xi x 2 && (JQQ (J2 x) == xi x 3 && (JPP (J2 x) == xi x 4 && (JQ9 (J2 x) == xi x 5 && (JRJ (J2 x) == xi x 6 && (JQh (J2 x) == xi x 7 && (JPJ (J2 x) == xi x 8 && (JPo (J2 x) == xi x 9 && (JLw (J2 x) == xi x 10 && (JMg (J2 x) == xi x 11 && (JMC (J2 x) == xi x 12 && (JMA (J2 x) == xb x 13 && (JMQ (J2 x) == xi x 14 && (JLn (J2 x) == xb x 15 && (JMv (J2 x) == xi x 16 && (JLr (J2 x) == xi x 17 && (JMJ (J2 x) == xi x 18 && (JMm (J2 x) == xi x 19 && (JMR (J2 x) == xi x 20 && JMs (J2 x) == xb x 21))))))))))))))))))))) || !Y1 (xi x 2) (xi x 3) (xi x 4) || !Y1 (xi x 5) (xi x 6) (xi x 7) || !KI (xi x 18) 0 1000 || !KI (xi x 16) (-1) 1 then false else bif KI (xi x 0) 2 6 && !KI (xi x 14) 1 60000000 then false else bif xi x 16 == 0 && (xi x 17 != 0 || xi x 8 != 0 && xi x 0 != 3) || xi x 16 != 0 && (!JCD (xi x 8) || !KI (xi x 17) 0 32768) then false else JXK (J2 x) && (xi x 0 != 3 || WH (xi x 0) (xi x 2) (xi x 3) (xi x 4) (xi x 5) (xi x 6) (xi x 7) (xi x 8) (xi x 9) (xi x 10) (xi x 11) (xi x 12) (xb x 13) == 0)
theorem JgT (x:List GC):Runs (Js (JB JWp) XR 29) (JCt.args (Jc JKN [.v x])) (JCt.memo (Jc JKN [.v x]) []) JCt.n (SV.one (Cb (Qt x))) ([]) :=
  Runs.of1 (ps := []) (by kernel_rfl) (by simp)
def JMI:List Gm → Qr → Option CRes
  | [.v x],[] => some ⟨SV.one (Cb (Qt x)),
 [],[],[],2172⟩
  | _,_ => none
theorem Joi:Qk Tryz.prog 29 (Z9 JKN JCt JMI) := by
  refine Qd (JD JNA 29) fun ps ls r hr hn _ => ?_
  unfold JMI at hr
  split at hr
  · cases hr; exact ⟨_,JgT _,fun _ => rfl⟩
  · cases hr
def JZ0:List (Nat × JW) := (29,Z9 JKN JCt JMI) :: JWp
theorem JOj:Known Tryz.prog (JB JZ0) XR := J7 JNA Joi
end
end Go.Proofs.YtmbfbhimdkjkoaaGreat
