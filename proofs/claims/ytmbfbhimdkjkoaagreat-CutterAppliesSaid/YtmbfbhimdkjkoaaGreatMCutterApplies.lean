/-
  CutterApplies: for every input the law returns true; each argument reads afterwards as it read before. Conditions: none.
-/
import Derived.Test.YtmbfbhimdkjkoaaGreatM63084501
import Derived.Test.YtmbfbhimdkjkoaaGreatM53944372
import Derived.ProofKit
import Derived.Carry
import Derived.ChangeOld
import Derived.ChangeArms
import Derived.DataElems
set_option linter.all false
set_option maxRecDepth 1000000
namespace Go.Proofs.YtmbfbhimdkjkoaaGreat
noncomputable section
open Go.SX Go.RowKit
structure IS where
  k:Nat
  a:Int
  x:Int
  y:Int
  z:Int
  R:LL
section
variable (L:LL) (s:IS) (a x y z:Int)
def itG:List GC:= [.i (WL a L),.i (JKr a L),.i (KF x a L),.i (KF y a L),.i (KF z a L),.i (JDk x a L),.i (JDm y a L),.i (JES z a L),.i (JKz a L),.i (JL4 x a L),.i (JFC y a L),.i (JFb z a L),.i (JFe a L),.b (JEu a L),.i (JGl a L),.b (JEj a L),.i 0,.i 0,.i (JG9 a L),.i (JFL a L),.i (JGQ a L),.b (JEn a L)]
def itV:Bool:= Qm (itG L s.a s.x s.y s.z)
def isA:IS:= ⟨s.k - 1,kY s.a L,s.x,s.y,s.z,s.R⟩
def isB:IS:= ⟨s.k - 1,kY s.a L,bif J3 (WL s.a L) then JDk s.x s.a L else s.x,bif J3 (WL s.a L) then JDm s.y s.a L else s.y,bif J3 (WL s.a L) then JES s.z s.a L else s.z,s.R ++ [JFw (itG L s.a s.x s.y s.z)]⟩
def JJi:IS:= bif !(itV L s) then isA L s else isB L s
end
def itN (L:LL):Nat → IS → IS
  | 0,s => s
  | k + 1,s => itN L k (JJi L s)
def itF (L:LL):Fam IS IS where
  k := 100
  E s := [(5,ent 1000000000 (.one (I (Int.ofNat s.k)))),(4,ent 1000000001 (.one (.wh 326))),(3,ent 256 (.one (.ptr 252 0))),(0,ent 0 (.one (.ptr 0 0)))]
  M s := [(0,.blk 57 [(2,.wh 1),(1000000002,I s.a)]),JvP L,(252,.blk 38 [(1000000003,I s.x),(1000000004,I s.y),(1000000005,I s.z)]),Kw 326 1000000006 s.R]
  out s := .leaf (.exit 0) [(4,ent 321 (.one (.wh 326))),(3,ent 256 (.one (.ptr 252 0))),(0,ent 0 (.one (.ptr 0 0)))] [(0,.blk 57 [(2,.wh 1),(322,I s.a)]),JvP L,(252,.blk 38 [(323,I s.x),(324,I s.y),(325,I s.z)]),Kw 326 327 s.R]
  fin s := itN L s.k s
  next s i := match i with
    | 0 => isA L s
    | _ => isB L s
  J s := 0 ≤ s.a ∧ L.length ≤ 1000000 ∧ s.R.length + s.k ≤ 1000
  μ s := s.k
theorem JhB {a:Int} {L:LL} (h1:0 ≤ a) (h2:L.length ≤ 1000000):0 ≤ kY a L := by
  have nn:∀ x,0 ≤ x → 0 ≤ J0 x L := fun x h => KM x L h h2
  have sp:∀ x,0 ≤ x → 0 ≤ JZ x L := fun x h => JHk h h2
  unfold kY
  repeat' first | with_reducible exact h1 | with_reducible refine nn _ ?_ | with_reducible refine sp _ ?_ | with_reducible refine JtP ?_ ?_
section
variable (L:LL) (s:IS)
def JcX:Prop:= decide (Int.ofNat s.k > 0) = true
def JwP:Prop:= (!Qm [GC.i (WL s.a L),GC.i (JKr s.a L),GC.i (KF s.x s.a L),GC.i (KF s.y s.a L),GC.i (KF s.z s.a L),GC.i (JDk s.x s.a L),GC.i (JDm s.y s.a L), GC.i (JES s.z s.a L),GC.i (JKz s.a L),GC.i (JL4 s.x s.a L),GC.i (JFC s.y s.a L),GC.i (JFb s.z s.a L),GC.i (JFe s.a L),GC.b (JEu s.a L), GC.i (JGl s.a L),GC.b (JEj s.a L),GC.i 0,GC.i 0,GC.i (JG9 s.a L),GC.i (JFL s.a L),GC.i (JGQ s.a L),GC.b (JEn s.a L)]) = false
def JaZ:List Prop:= [JcX s → 0 ≤ s.a ∧ L.length ≤ 1000000 ∧ (JwP L s → (s.R.length + 1) * 176 ≤ 140737488355328 ∧ s.R.length + 1 ≤ 9223372036854775807), JcX s → ((!Qm [GC.i (WL s.a L),GC.i (JKr s.a L),GC.i (KF s.x s.a L),GC.i (KF s.y s.a L),GC.i (KF s.z s.a L),GC.i (JDk s.x s.a L),GC.i (JDm s.y s.a L), GC.i (JES s.z s.a L),GC.i (JKz s.a L),GC.i (JL4 s.x s.a L),GC.i (JFC s.y s.a L),GC.i (JFb s.z s.a L),GC.i (JFe s.a L),GC.b (JEu s.a L), GC.i (JGl s.a L),GC.b (JEj s.a L),GC.i 0,GC.i 0,GC.i (JG9 s.a L),GC.i (JFL s.a L),GC.i (JGQ s.a L),GC.b (JEn s.a L)]) = true → (0 ≤ ((itF L).next s 0).a ∧ L.length ≤ 1000000 ∧ ((itF L).next s 0).R.length + ((itF L).next s 0).k ≤ 1000) ∧ (itF L).μ ((itF L).next s 0) < (itF L).μ s ∧ (itF L).fin ((itF L).next s 0) = (itF L).fin s ∧ Int.ofNat ((itF L).next s 0).k = IntKind.i64.wrap (Int.ofNat s.k - 1) ∧ ((itF L).next s 0).a = kY s.a L ∧ ((itF L).next s 0).x = s.x ∧ ((itF L).next s 0).y = s.y ∧ ((itF L).next s 0).z = s.z ∧ ((itF L).next s 0).R = s.R) ∧ (JwP L s → (0 ≤ ((itF L).next s 1).a ∧ L.length ≤ 1000000 ∧ ((itF L).next s 1).R.length + ((itF L).next s 1).k ≤ 1000) ∧ (itF L).μ ((itF L).next s 1) < (itF L).μ s ∧ (itF L).fin ((itF L).next s 1) = (itF L).fin s ∧ Int.ofNat ((itF L).next s 1).k = IntKind.i64.wrap (Int.ofNat s.k - 1) ∧ ((itF L).next s 1).a = kY s.a L ∧ (((itF L).next s 1).x = bif J3 (WL s.a L) then JDk s.x s.a L else s.x) ∧ (((itF L).next s 1).y = bif J3 (WL s.a L) then JDm s.y s.a L else s.y) ∧ (((itF L).next s 1).z = bif J3 (WL s.a L) then JES s.z s.a L else s.z) ∧ ((itF L).next s 1).R = s.R ++ [[WL s.a L,JKr s.a L,KF s.x s.a L,KF s.y s.a L,KF s.z s.a L,JDk s.x s.a L,JDm s.y s.a L,JES s.z s.a L,JKz s.a L, JL4 s.x s.a L,JFC s.y s.a L,JFb s.z s.a L,JFe s.a L,bif JEu s.a L then 1 else 0,JGl s.a L,bif JEj s.a L then 1 else 0,0,0, JG9 s.a L,JFL s.a L,JGQ s.a L,bif JEn s.a L then 1 else 0]]), decide (Int.ofNat s.k > 0) = false → ((itF L).fin s).a = s.a ∧ ((itF L).fin s).x = s.x ∧ ((itF L).fin s).y = s.y ∧ ((itF L).fin s).z = s.z ∧ ((itF L).fin s).R = s.R]
end
theorem Jt2 (L:LL) (s:IS) (hNeeds:∀ pN ∈ (JaZ L s),pN):Q4 (Xd (itF L) (QX Tryz.prog (JC JGv) JMO 11 0) 320 s) :=
  Q4.of (ps := (JaZ L s)) (by kernel_rfl) (by kernel_rfl) hNeeds
theorem Jqq (L:LL):Qw (itF L) (QX Tryz.prog (JC JGv) JMO 11 0) 320 := by
  intro s hJ
  obtain ⟨h1,h2,h3⟩:0 ≤ s.a ∧ L.length ≤ 1000000 ∧ s.R.length + s.k ≤ 1000 := hJ
  refine Jt2 L s ?_
  unfold JaZ
  simp only [awc,awn,and_true]
  have en := JhB h1 h2
  have pos:JcX s → ∃ k,s.k = k + 1 := fun h => ⟨s.k - 1,by unfold JcX at h; simp at h; omega⟩
  have ek:JcX s → IntKind.i64.wrap (Int.ofNat s.k - 1) = Int.ofNat (s.k - 1) := fun h => by
    obtain ⟨k,hk⟩ := pos h
    rw [X6 (by simp; omega) (by simp; omega)]; simp; omega
  have key:∀ t,JcX s → t.k = s.k - 1 → t = JJi L s → itN L t.k t = itN L s.k s := fun t h h1 h2 => by
    obtain ⟨k,hk⟩ := pos h
    rw [h1,h2,hk]; rfl
  refine ⟨fun h => ⟨h1,h2,fun _ => ⟨by omega,by omega⟩⟩,fun h => ⟨fun hv => ⟨⟨en,h2,?_⟩,?_,key _ h rfl ?_,(ek h).symm,rfl,rfl,rfl,rfl,rfl⟩,fun hv => ⟨⟨en,h2,?_⟩,?_,key _ h rfl ?_,(ek h).symm,rfl,rfl,rfl,rfl,rfl⟩⟩,fun h => ?_⟩
  · show s.R.length + (s.k - 1) ≤ 1000; omega
  · obtain ⟨k,hk⟩ := pos h
    show s.k - 1 < s.k; omega
  · unfold JJi
    have hv':(!(itV L s)) = true := hv
    rw [hv']; rfl
  · obtain ⟨k,hk⟩ := pos h
    show (s.R ++ [_]).length + (s.k - 1) ≤ 1000
    rw [List.length_append,List.length_cons,List.length_nil]; omega
  · obtain ⟨k,hk⟩ := pos h
    show s.k - 1 < s.k; omega
  · unfold JJi
    have hv':(!(itV L s)) = false := hv
    rw [hv']; rfl
  · have hk:s.k = 0 := by simp at h; omega
    have e:itN L s.k s = s := by rw [hk]; rfl
    show (itN L s.k s).a = s.a ∧ (itN L s.k s).x = s.x ∧ (itN L s.k s).y = s.y ∧ (itN L s.k s).z = s.z ∧ (itN L s.k s).R = s.R
    rw [e]
    exact ⟨rfl,rfl,rfl,rfl,rfl⟩
def Jy5:QE := fun env mem m => match SX.JD env 5,SX.JD mem 0,SX.JD mem 1,SX.JD mem 252 with
  | some ⟨_,_,_,.one (.int _ n)⟩,some (.blk _ [_,(_,.int _ a)]),some (.row _ _ _ (.lst _ _ L)),some (.blk _ [(_,.int _ x),(_,.int _ y),(_,.int _ z)]) => jk (itF L) 320 (fun _ _ => some ⟨n.val.toNat,a.val,x.val,y.val,z.val,[]⟩) env mem m
  | _,_,_,_ => none
def JqE:FuncId → Nat → Option QE := JA9 JMO 11 4 Jy5
theorem Jcf:Known Tryz.prog (JC JGv) JqE := by
  refine Qe 0 JTV (by kernel_rfl) (Qv fun env mem m x h => ?_)
  unfold Jy5 at h
  have hlen:(QW Tryz.prog 11).length = 1 := by kernel_rfl
  split at h
  · exact ⟨_,XG (Qc Zz JTV (by omega)) (Jqq _),h⟩
  · cases h
def is0 (a:Int) (L:LL):IS := ⟨(JA 9 (J0 (J0 (J0 a L) L) L) L).toNat,J0 (J0 (J0 (J0 a L) L) L) L,Zt 2000 a L,Zu 2000 a L,QV 2000 a L,[]⟩
def JFR (a:Int) (L:LL):LL := (itN L (is0 a L).k (is0 a L)).R
def WZ:Tpl := ⟨[.one (.ptr 0 0)],[(0,.blk 57 [(2,.wh 1),(3,.int .i64)]),(1,.row true 3 1 4 [.int .i64])],5⟩
section
variable (a:Int) (L:LL)
def Jdr:Int:= ((itF L).fin (IS.mk (JA 9 (J0 (J0 (J0 a L) L) L) L).toNat (J0 (J0 (J0 (J0 a L) L) L) L) (Zt 2000 a L) (Zu 2000 a L) (QV 2000 a L) [])).a
def JvI:LL:= ((itF L).fin (IS.mk (JA 9 (J0 (J0 (J0 a L) L) L) L).toNat (J0 (J0 (J0 (J0 a L) L) L) L) (Zt 2000 a L) (Zu 2000 a L) (QV 2000 a L) [])).R
def Jhu:Int:= (IS.mk (JA 9 (J0 (J0 (J0 a L) L) L) L).toNat (J0 (J0 (J0 (J0 a L) L) L) L) (Zt 2000 a L) (Zu 2000 a L) (QV 2000 a L) []).a
def JiR:LL:= (IS.mk (JA 9 (J0 (J0 (J0 a L) L) L) L).toNat (J0 (J0 (J0 (J0 a L) L) L) L) (Zt 2000 a L) (Zu 2000 a L) (QV 2000 a L) []).R
def qq:List Prop:= [0 ≤ a,L.length ≤ 1000000,Int.ofNat 0 ≤ 2000 ∧ Int.ofNat 2000 ≤ 1000000,0 ≤ J0 (J0 (J0 a L) L) L,L.length ≤ 1000000,Int.ofNat 9 ≠ 0, 0 ≤ Jhu a L ∧ L.length ≤ 1000000 ∧ (JiR a L).length + (IS.mk (JA 9 (J0 (J0 (J0 a L) L) L) L).toNat (J0 (J0 (J0 (J0 a L) L) L) L) (Zt 2000 a L) (Zu 2000 a L) (QV 2000 a L) []).k ≤ 1000, Int.ofNat (IS.mk (JA 9 (J0 (J0 (J0 a L) L) L) L).toNat (J0 (J0 (J0 (J0 a L) L) L) L) (Zt 2000 a L) (Zu 2000 a L) (QV 2000 a L) []).k = JA 9 (J0 (J0 (J0 a L) L) L) L, Jhu a L = J0 (J0 (J0 (J0 a L) L) L) L, (IS.mk (JA 9 (J0 (J0 (J0 a L) L) L) L).toNat (J0 (J0 (J0 (J0 a L) L) L) L) (Zt 2000 a L) (Zu 2000 a L) (QV 2000 a L) []).x = Zt 2000 a L, (IS.mk (JA 9 (J0 (J0 (J0 a L) L) L) L).toNat (J0 (J0 (J0 (J0 a L) L) L) L) (Zt 2000 a L) (Zu 2000 a L) (QV 2000 a L) []).y = Zu 2000 a L, (IS.mk (JA 9 (J0 (J0 (J0 a L) L) L) L).toNat (J0 (J0 (J0 (J0 a L) L) L) L) (Zt 2000 a L) (Zu 2000 a L) (QV 2000 a L) []).z = QV 2000 a L, JiR a L = []]
end
theorem JjG {a:Int} {L:LL} (hW:∀ q ∈ ([0 ≤ a,L.length ≤ 1000000]:List Prop),q):∀ q ∈ (qq a L),q := by
  simp only [awc,awn,and_true] at hW
  unfold qq
  simp only [awc,awn,and_true]
  obtain ⟨h1,h2⟩ := hW
  have nn:∀ x,0 ≤ x → 0 ≤ J0 x L := fun x h => KM x L h h2
  have r9 := Y1 9 (J0 (J0 (J0 a L) L) L) L (by omega) (by omega)
  refine ⟨h1,h2,by decide,nn _ (nn _ (nn _ h1)),h2,by decide,⟨nn _ (nn _ (nn _ (nn _ h1))),h2,(show 0 + (JA 9 (J0 (J0 (J0 a L) L) L) L).toNat ≤ 1000 by omega)⟩,Int.toNat_of_nonneg r9.1,?_⟩
  repeat' first | exact trivial | rfl | refine And.intro ?_ ?_
theorem Jk0 (a:Int) (L:LL) (hNeeds:∀ pN ∈ (qq a L),pN):Runs (Jm (JC JGv) JqE 11) (WZ.args [.i a]) (WZ.memo [.i a] [L]) WZ.n (SV.one (SC.wh 326))
    ([(0,Obj.blk 57 [(2,SC.wh 1),(322,SC.int IntKind.i64 (SI.v (Jdr a L)))]),(1,Obj.row true 3 1 (RowC.lst 4 [CK.int IntKind.i64] L)),
    (326,
     Obj.row false 40 22
     (RowC.lst 327
     [CK.int IntKind.i64,CK.int IntKind.i64,CK.int IntKind.i64,CK.int IntKind.i64,CK.int IntKind.i64,CK.int IntKind.i64,CK.int IntKind.i64,CK.int IntKind.i64,CK.int IntKind.i64,
     CK.int IntKind.i64,CK.int IntKind.i64,CK.int IntKind.i64,CK.int IntKind.i64,CK.bool,CK.int IntKind.i64,CK.bool,CK.int IntKind.i64,CK.int IntKind.i64,CK.int IntKind.i64,
     CK.int IntKind.i64,CK.int IntKind.i64,CK.bool]
     (JvI a L)))]) :=
  Runs.of1 (ps := (qq a L)) (by kernel_rfl) hNeeds
def JQF:List Pm → Qs → Option CRes
  | [.i a],[L] => some ⟨SV.one (SC.wh 326),
    [(0,Obj.blk 57 [(2,SC.wh 1),(322,SC.int IntKind.i64 (SI.v (Jdr a L)))]),(1,Obj.row true 3 1 (RowC.lst 4 [CK.int IntKind.i64] L)),
    (326,
     Obj.row false 40 22
     (RowC.lst 327
     [CK.int IntKind.i64,CK.int IntKind.i64,CK.int IntKind.i64,CK.int IntKind.i64,CK.int IntKind.i64,CK.int IntKind.i64,CK.int IntKind.i64,CK.int IntKind.i64,CK.int IntKind.i64,
     CK.int IntKind.i64,CK.int IntKind.i64,CK.int IntKind.i64,CK.int IntKind.i64,CK.bool,CK.int IntKind.i64,CK.bool,CK.int IntKind.i64,CK.int IntKind.i64,CK.int IntKind.i64,
     CK.int IntKind.i64,CK.int IntKind.i64,CK.bool]
     ((JFR a L))))],
    [0 ≤ a,L.length ≤ 1000000],[],422⟩
  | _,_ => none
theorem Jdv (a:Int) (L:LL) (hNeeds:∀ pN ∈ (qq a L),pN):Runs (Jm (JC JGv) JqE 11) (WZ.args [.i a]) (WZ.memo [.i a] [L]) WZ.n (SV.one (SC.wh 326))
    ([(0,Obj.blk 57 [(2,SC.wh 1),(322,SC.int IntKind.i64 (SI.v (Jdr a L)))]),(1,Obj.row true 3 1 (RowC.lst 4 [CK.int IntKind.i64] L)),
    (326,
     Obj.row false 40 22
     (RowC.lst 327
     [CK.int IntKind.i64,CK.int IntKind.i64,CK.int IntKind.i64,CK.int IntKind.i64,CK.int IntKind.i64,CK.int IntKind.i64,CK.int IntKind.i64,CK.int IntKind.i64,CK.int IntKind.i64,
     CK.int IntKind.i64,CK.int IntKind.i64,CK.int IntKind.i64,CK.int IntKind.i64,CK.bool,CK.int IntKind.i64,CK.bool,CK.int IntKind.i64,CK.int IntKind.i64,CK.int IntKind.i64,
     CK.int IntKind.i64,CK.int IntKind.i64,CK.bool]
     ((JFR a L))))]) :=
  (Jk0 a L hNeeds).to (by first | rfl | (simp only [])) (by first | rfl | (simp only []))
theorem Ju4:Ql Tryz.prog 11 (JU WZ JQF) := by
  refine JI (JE Jcf 11) fun ps ls r hr hn _ => ?_
  unfold JQF at hr
  split at hr
  · cases hr; exact ⟨_,Jdv _ _ (JjG (by exact hn)),fun _ => rfl⟩
  · cases hr
def Jnp:List (Nat × JY) := (11,JU WZ JQF) :: JGv
theorem JiJ:Known Tryz.prog (JC Jnp) JqE := J7 Jcf Ju4
def Jai:List Pm → Qs → Option CRes
  | [],[] => some ⟨SV.one (SC.bool (SB.c true)),[],[],[],1018⟩
  | _,_ => none
theorem Jw0:Ql Tryz.prog 8 (JU jX Jai) := by
  refine JI (JE JJN 8) fun ps ls r hr hn _ => ?_
  unfold Jai at hr
  split at hr
  · cases hr; exact ⟨_,JWo (fun p hp => JXZ p hp),fun _ => rfl⟩
  · cases hr
def JtZ:List (Nat × JY) := (8,JU jX Jai) :: Jnp
theorem Jji:Known Tryz.prog (JC JtZ) JqE := J7 JiJ Jw0
theorem Jle (L:LL) (s:IS):(JJi L s).R.length ≤ s.R.length + 1 := by
  unfold JJi
  cases !(itV L s)
  · show (s.R ++ [_]).length ≤ _; rw [List.length_append]; exact Nat.le_refl _
  · exact Nat.le_succ _
theorem Jnk (L:LL):∀ (k:Nat) (s:IS),(itN L k s).R.length ≤ s.R.length + k
  | 0,_ => Nat.le_refl _
  | k + 1,s => by
    have h1 := Jnk L k (JJi L s)
    have h2 := Jle L s
    show (itN L k (JJi L s)).R.length ≤ _; omega
theorem JuJ (a:Int) (L:LL):(JFR a L).length ≤ 8 := by
  have h := Jnk L (is0 a L).k (is0 a L)
  have r9 := Y1 9 (J0 (J0 (J0 a L) L) L) L (by omega) (by omega)
  have hk:(is0 a L).k ≤ 8 := by show (JA 9 (J0 (J0 (J0 a L) L) L) L).toNat ≤ 8; omega
  have h0:(is0 a L).R.length = 0 := rfl
  unfold JFR; omega
theorem JnR {X:LL} (h:X.length ≤ 1000):(apO X).length ≤ 1000000 := by
  have hr:(apT X).R.length ≤ 0 + 11 * (X.length - 0) := (JsI X (X.length - 0) ⟨0,YQ,[]⟩ (Nat.zero_le _)).1
  unfold apO
  rw [JMl]
  cases (apT X).bad
  · rw [cond_false]
    cases apC X != 0
    · rw [cond_false,List.append_nil]; omega
    · exact Nat.zero_le _
  · exact Nat.zero_le _
def jc:Tpl := ⟨[.one (.wh 0),.one (.wh 1)],[(0,.row true 3 1 2 [.int .i64]),(1,.row true 3 1 3 [.int .i64])],4⟩
def JfW (L:LL) (R:LL):Bool := !JE8 L || !JE8 R || bif apI (WG 0 L) != raI (WG 0 L) || apE (WG 0 L) != raE (WG 0 L) then false else bif apI (JFR 0 R) != raI (JFR 0 R) || apE (JFR 0 R) != raE (JFR 0 R) then false else true
def JDi (L:LL) (R:LL):List Prop := [(!JE8 L || !JE8 R) = false → Int.ofNat 0 ≤ 0 ∧ L.length ≤ 1000000 ∧ Int.ofNat 0 ≤ 0 ∧ R.length ≤ 1000000 ∧ (WG 0 L).length ≤ 1000 ∧ (WG 0 L).length ≤ 1000 ∧ apO (WG 0 L) = raO (WG 0 L) ∧ (apO (WG 0 L)).length ≤ 1000000 ∧ ((apI (WG 0 L) != raI (WG 0 L) || apE (WG 0 L) != raE (WG 0 L)) = false → (JFR 0 R).length ≤ 1000 ∧ (JFR 0 R).length ≤ 1000 ∧ apO (JFR 0 R) = raO (JFR 0 R) ∧ (apO (JFR 0 R)).length ≤ 1000000 ∧ ((apI (JFR 0 R) != raI (JFR 0 R) || apE (JFR 0 R) != raE (JFR 0 R)) = false → (false = false → 0 ≤ 140737488355328 ∧ 0 ≤ 9223372036854775807) ∧ (bif false then [] else [] ++ W4 false false 0 []) = [] ∧ 0 ≤ 1000000))]
theorem JjO (L R:LL):(JfW L R) = true := by
  unfold JfW
  rw [(jS (WG 0 L)).1,(jS (WG 0 L)).2.1,(jS (JFR 0 R)).1,(jS (JFR 0 R)).2.1,bne_self_eq_false,bne_self_eq_false,bne_self_eq_false,bne_self_eq_false]
  simp
theorem JjC {L:LL} {R:LL}:∀ q ∈ (JDi L R),q := by
  unfold JDi
  simp only [awc,awn,and_true]
  intro hl
  simp only [Bool.or_eq_false_iff,Bool.not_eq_false'] at hl
  have h1 := Jbo hl.1
  have h2 := Jbo hl.2
  have hc := (Jor 0 L).2
  have hi := JuJ 0 R
  have hc':(WG 0 L).length ≤ 1000 := by omega
  have hi':(JFR 0 R).length ≤ 1000 := by omega
  exact ⟨by decide,by omega,by decide,by omega,hc',hc',(jS _).2.2,JnR hc',fun _ => ⟨hi',hi',(jS _).2.2,JnR hi',fun _ => ⟨fun _ => ⟨by decide,by decide⟩,by rw [JMl]; rfl,by decide⟩⟩⟩
theorem JjQ (L R:LL) (hNeeds:∀ pN ∈ (JDi L R),pN):Runs (Jm (JC JtZ) JqE 3) (jc.args []) (jc.memo [] [L,R]) jc.n (SV.one (SC.bool (SB.v (JfW L R))))
    ([(0,Obj.row true 3 1 (RowC.lst 2 [CK.int IntKind.i64] L)),(1,Obj.row true 3 1 (RowC.lst 3 [CK.int IntKind.i64] R))]) :=
  Runs.of1 (ps := (JDi L R)) (by kernel_rfl) hNeeds
end
end Go.Proofs.YtmbfbhimdkjkoaaGreat
namespace Go.SX
noncomputable section
open Go.RowKit Go.WideElems Go.ChangeShapes
def flatFs (P:Program) (rec':TypeId → Option (List CK)):List Field → Nat → Option (List CK)
  | [],_ => some []
  | f :: r,o => match rec' f.type with
    | some ks => bif Nat.beq f.offset o && Nat.beq ks.length (P.cellsOf f.type) then (flatFs P rec' r (o + ks.length)).map (ks ++ ·) else none
    | none => none
def JJC (P:Program):Nat → TypeId → Option (List CK)
  | 0,_ => none
  | d + 1,t => match P.underlying t with
    | some .bool => some [.bool]
    | some (.int k) => some [.int k]
    | some (.struct fs) => match flatFs P (JJC P d) fs.toList 0 with
      | some ks => bif Nat.beq ks.length (P.cellsOf t) then some ks else none
      | none => none
    | _ => none
def okV:CK → Value → Prop
  | .int k,v => ∃ n,v = .int k n
  | .bool,v => ∃ b,v = .bool b
def okL:List CK → List Value → Prop
  | [],[] => True
  | k :: ks,v :: vs => okV k v ∧ okL ks vs
  | _,_ => False
theorem JX8:∀ {ks js:List CK} {vs ws:List Value},okL ks vs → okL js ws → okL (ks ++ js) (vs ++ ws)
  | [],_,[],_,_,h => h
  | [],_,_ :: _,_,h,_ => h.elim
  | _ :: _,_,[],_,h,_ => h.elim
  | _ :: _,_,_ :: _,_,h,k => ⟨h.1,JX8 h.2 k⟩
section
variable {H:Type} {enc:TypeId × Value → H} {P:Program} {w:World} {base:Nat} {spare:Nat → Bool} {held:Bool}
theorem JlS (l:List Value) (o a b:Nat):(l.drop o).take (a + b) = (l.drop o).take a ++ (l.drop (o + a)).take b := by
  rw [List.take_add,List.drop_drop]
theorem Jbs {rec':TypeId → Option (List CK)} {n:Nat} {cs:List Value} (hrec:∀ t ks ds x,rec' t = some ks → DataW.trod enc P w base spare held n t ds = some x → okL ks ds) :
    ∀ {fs:List Field} {o:Nat} {ks:List CK},flatFs P rec' fs o = some ks → (∀ f ∈ fs,∃ x,DataW.trod enc P w base spare held n f.type ((cs.drop f.offset).take (P.cellsOf f.type)) = some x) → okL ks ((cs.drop o).take ks.length)
  | [],o,ks,h,_ => by cases h; simp [okL]
  | f :: r,o,ks,h,hx => by
    simp only [flatFs] at h
    split at h
    · rename_i k1 h1
      cases hb:(Nat.beq f.offset o && Nat.beq k1.length (P.cellsOf f.type))
      · rw [hb] at h; cases h
      rw [hb] at h
      simp only [Bool.and_eq_true] at hb
      have e1 := Nat.eq_of_beq_eq_true hb.1
      have e2 := Nat.eq_of_beq_eq_true hb.2
      simp only [cond_true,Option.map_eq_some_iff] at h
      obtain ⟨k2,h2,rfl⟩ := h
      obtain ⟨x,hx1⟩ := hx f (by simp)
      have q1 := hrec _ _ _ _ h1 hx1
      rw [e1,← e2] at q1
      have q2 := Jbs hrec h2 (fun g hg => hx g (by simp [hg]))
      rw [List.length_append,JlS]
      exact JX8 q1 q2
    · cases h
theorem JKW:∀ {d:Nat} {t:TypeId} {ks:List CK},JJC P d t = some ks → ∀ {n:Nat} {cs:List Value} {x:DataW H × List MemPlace},DataW.trod enc P w base spare held n t cs = some x → okL ks cs
  | 0,_,_,h,_,_,_,_ => by cases h
  | d + 1,t,ks,h,n,cs,x,hx => by
    simp only [JJC] at h
    split at h
    · rename_i hu
      cases h
      obtain ⟨b,rfl,_⟩ := DataW.trod_bool hu hx
      exact ⟨⟨b,rfl⟩,trivial⟩
    · rename_i k hu
      cases h
      obtain ⟨b,rfl,_⟩ := DataW.trod_int hu hx
      exact ⟨⟨b,rfl⟩,trivial⟩
    · rename_i fs hu
      split at h
      · rename_i js hj
        cases hb:Nat.beq js.length (P.cellsOf t)
        · rw [hb] at h; cases h
        rw [hb] at h
        cases h
        have e := Nat.eq_of_beq_eq_true hb
        obtain ⟨xs,m,rfl,_,hlen,hxl,hf⟩ := DataW.trod_struct hu hx
        have := Jbs (P := P) (enc := enc) (w := w) (base := base) (spare := spare) (held := held) (n := m) (cs := cs) (fun t ks ds x h1 h2 => JKW h1 h2) hj (fun f hfm => by
          obtain ⟨i,hi⟩ := List.getElem?_of_mem hfm
          have hi':fs[i]? = some f := by simpa using hi
          have hlt:i < xs.length := by
            rw [hxl]
            exact (Array.getElem?_eq_some_iff.1 hi').1
          exact ⟨xs[i],by rw [hf i f hi',List.getElem?_eq_getElem hlt]⟩)
        simp only [List.drop_zero] at this
        rwa [List.take_of_length_le (by omega)] at this
      · cases h
    · cases h
end
def JuB:CK → PC
  | .int k => .int k
  | .bool => .bool
def JOD:List CK → List Pm → Prop
  | [],[] => True
  | .int _ :: ks,.i _ :: ps => JOD ks ps
  | .bool :: ks,.b _ :: ps => JOD ks ps
  | _,_ => False
theorem JOD.append:∀ {ks js:List CK} {ps qs:List Pm},JOD ks ps → JOD js qs → JOD (ks ++ js) (ps ++ qs)
  | [],_,[],_,_,h => h
  | [],_,_ :: _,_,h,_ => h.elim
  | .int _ :: ks,js,.i _ :: ps,qs,h,k => JOD.append (ks := ks) (js := js) (ps := ps) (qs := qs) h k
  | .bool :: ks,js,.b _ :: ps,qs,h,k => JOD.append (ks := ks) (js := js) (ps := ps) (qs := qs) h k
  | .int _ :: _,_,[],_,h,_ => h.elim
  | .bool :: _,_,[],_,h,_ => h.elim
  | .int _ :: _,_,.b _ :: _,_,h,_ => h.elim
  | .bool :: _,_,.i _ :: _,_,h,_ => h.elim
theorem JxM {ps:List Pm} (h:JOD [] ps):ps = [] := by cases ps with | nil => rfl | cons => exact h.elim
theorem Jf5:∀ {ks:List CK} {vs:List Value},okL ks vs → ∃ ps,JOD ks ps ∧ ∀ rest,∃ xs,JbO (ks.map JuB) (ps ++ rest) = (xs,rest) ∧ (∀ θ,JM θ xs = vs) ∧ Qu xs = []
  | [],[],_ => ⟨[],trivial,fun rest => ⟨[],rfl,fun _ => rfl,rfl⟩⟩
  | [],_ :: _,h => h.elim
  | _ :: _,[],h => h.elim
  | .int k :: ks,v :: vs,h => by
    obtain ⟨⟨n,rfl⟩,h2⟩ := h
    obtain ⟨ps,h3,h4⟩ := Jf5 h2
    refine ⟨.i n :: ps,h3,fun rest => ?_⟩
    obtain ⟨xs,h5,h6,h7⟩ := h4 rest
    refine ⟨.int k (.v n) :: xs,?_,fun θ => ?_,by rw [Jt,h7]; rfl⟩
    · simp only [List.map_cons,JuB,JbO,List.cons_append,PC.mk,h5]
    · have := h6 θ
      simp only [JM,List.map_cons] at this ⊢
      rw [this]; rfl
  | .bool :: ks,v :: vs,h => by
    obtain ⟨⟨n,rfl⟩,h2⟩ := h
    obtain ⟨ps,h3,h4⟩ := Jf5 h2
    refine ⟨.b n :: ps,h3,fun rest => ?_⟩
    obtain ⟨xs,h5,h6,h7⟩ := h4 rest
    refine ⟨.bool (.v n) :: xs,?_,fun θ => ?_,by rw [Jt,h7]; rfl⟩
    · simp only [List.map_cons,JuB,JbO,List.cons_append,PC.mk,h5]
    · have := h6 θ
      simp only [JM,List.map_cons] at this ⊢
      rw [this]; rfl
theorem JY5:∀ {ks:List CK} {vs:List Value},okL ks vs → ∃ xs:List Int,xs.length = ks.length ∧ ∀ (pre:List Int) θ,JM θ (Kz ks (pre ++ xs) pre.length) = vs
  | [],[],_ => ⟨[],rfl,fun _ _ => rfl⟩
  | [],_ :: _,h => h.elim
  | _ :: _,[],h => h.elim
  | .int k :: ks,v :: vs,h => by
    obtain ⟨⟨n,rfl⟩,h2⟩ := h
    obtain ⟨xs,h3,h4⟩ := JY5 h2
    refine ⟨n :: xs,by simp [h3],fun pre θ => ?_⟩
    have := h4 (pre ++ [n]) θ
    simp only [List.append_assoc,List.singleton_append,List.length_append,List.length_cons,List.length_nil,Nat.zero_add] at this
    simp only [Kz,JM,List.map_cons] at this ⊢
    rw [this]
    simp [CK.cell,SC.den,SI.val,List.getD]
  | .bool :: ks,v :: vs,h => by
    obtain ⟨⟨b,rfl⟩,h2⟩ := h
    obtain ⟨xs,h3,h4⟩ := JY5 h2
    refine ⟨(bif b then 1 else 0) :: xs,by simp [h3],fun pre θ => ?_⟩
    have := h4 (pre ++ [bif b then 1 else 0]) θ
    simp only [List.append_assoc,List.singleton_append,List.length_append,List.length_cons,List.length_nil,Nat.zero_add] at this
    simp only [Kz,JM,List.map_cons] at this ⊢
    rw [this]
    cases b <;> simp [CK.cell,SC.den,SB.val,List.getD]
inductive PS where
  | agg (ks:List CK) | one (k:CK) | row (e:TypeId) (ks:List CK)
def JiQ:List PS → Nat → List PV
  | [],_ => []
  | .agg ks :: r,id => .agg (ks.map JuB) :: JiQ r id
  | .one k :: r,id => .one (JuB k) :: JiQ r id
  | .row _ _ :: r,id => .one (.wh id) :: JiQ r (id + 1)
def psK:List PS → List CK
  | [] => []
  | .agg ks :: r => ks ++ psK r
  | .one k :: r => k :: psK r
  | .row _ _ :: r => psK r
def psR:List PS → Nat
  | [] => 0
  | .row _ _ :: r => psR r + 1
  | _ :: r => psR r
def Jby:List PS → Nat → Nat → Qs → Jn
  | [],_,_,_ => []
  | .agg _ :: r,id,t,ls => Jby r id t ls
  | .one _ :: r,id,t,ls => Jby r id t ls
  | .row e ks :: r,id,t,xs :: ls => (id,.row true e ks.length (.lst t ks xs)) :: Jby r (id + 1) (t + 1) ls
  | .row _ _ :: _,_,_,[] => []
def JnA (P:Program):PS → TypeId → Bool
  | .agg ks,t => (match P.underlying t with | some (.struct _) => true | _ => false) && (match JJC P 20 t with | some js => WD ks js | none => false)
  | .one k,t => (match P.underlying t with | some (.int j) => JX6 k (.int j) | some .bool => JX6 k .bool | _ => false)
  | .row e ks,t => (match P.underlying t with | some (.slice u) => Nat.beq e u | _ => false) && ((match JJC P 20 e with | some js => WD ks js | none => false) && (Nat.beq ks.length (P.cellsOf e) && Nat.blt 0 ks.length))
def JxC (P:Program):List PS → List TypeId → Bool
  | [],[] => true
  | s :: r,t :: ts => JnA P s t && JxC P r ts
  | _,_ => false
section
variable {H:Type} {enc:TypeId × Value → H} {P:Program} {w:World}
theorem JcW {v:Value} (h:∀ cs,v ≠ .agg cs):v.cells.toList = [v] := by cases v <;> first | rfl | exact absurd rfl (h _)
theorem JsS {t e:TypeId} {ks:List CK} {n:Nat} {v:Value} {x:DataW H × List MemPlace} (hu:P.underlying t = some (.slice e)) (hf:JJC P 20 e = some ks) (hc:ks.length = P.cellsOf e) (hpos:0 < ks.length)
    (h:DataW.trod enc P w 0 (fun _ => true) true n t v.cells.toList = some x) (hv:∀ cs,v ≠ .agg cs) :
    ∃ (xs:List (List Int)) (l:Loc),v = .slice l.ad l.len l.cap ∧ Z8 ks.length (xs.map (Qz ks)) ∧ ∀ θ:Th,JQn l w xs.length (JM θ (xs.map (Qz ks)).flatten) := by
  rw [JcW hv] at h
  rcases DataW.trod_slice hu h with ⟨h0,_⟩ | ⟨a,len,cap,elems,rest,m,_,h1,_,_,hle,_,hlen,hel,_⟩
  · simp only [List.cons.injEq,and_true] at h0
    subst h0
    exact ⟨[],Loc.none,rfl,⟨hpos,fun _ h => by cases h⟩,fun θ => ⟨rfl,rfl,Nat.le_refl _,.inl ⟨rfl,rfl,rfl⟩⟩⟩
  · simp only [List.cons.injEq,and_true] at h1
    subst h1
    have each:∀ i,i < len → ∃ zs:List Int,zs.length = ks.length ∧ ∀ (θ:Th) (j:Nat) (u:Value),(JM θ (Qz ks zs))[j]? = some u → w.cell? (a.add (i * ks.length + j)) = some u := by
      intro i hi
      have h2 := hel i hi
      rw [List.getElem?_eq_getElem (by omega)] at h2
      obtain ⟨cs,h3,h4⟩ := Option.bind_eq_some_iff.1 h2
      obtain ⟨_,h5,h6⟩ := World.cells?_some h3
      obtain ⟨zs,h7,h8⟩ := JY5 (JKW hf h4)
      refine ⟨zs,h7,fun θ j u hu => ?_⟩
      have h9 := h8 [] θ
      simp only [List.nil_append,List.length_nil] at h9
      rw [Qz,h9] at hu
      have hj:j < cs.length := (List.getElem?_eq_some_iff.1 hu).1
      have := h6 j (by omega)
      rw [hu,← hc] at this
      rw [← this,Addr.add_add]
    obtain ⟨xs,hx1,hx2⟩:∃ xs:List (List Int),xs.length = len ∧ ∀ i zs,xs[i]? = some zs → zs.length = ks.length ∧ ∀ (θ:Th) (j:Nat) (u:Value),(JM θ (Qz ks zs))[j]? = some u → w.cell? (a.add (i * ks.length + j)) = some u := by
      have:∀ m,m ≤ len → ∃ xs:List (List Int),xs.length = m ∧ ∀ i zs,xs[i]? = some zs → zs.length = ks.length ∧ ∀ (θ:Th) (j:Nat) (u:Value),(JM θ (Qz ks zs))[j]? = some u → w.cell? (a.add (i * ks.length + j)) = some u := by
        intro m
        induction m with
        | zero => exact fun _ => ⟨[],rfl,fun i zs h => by simp at h⟩
        | succ m ih =>
          intro hm
          obtain ⟨xs,h2,h3⟩ := ih (by omega)
          obtain ⟨zs,h4,h5⟩ := each m (by omega)
          refine ⟨xs ++ [zs],by simp [h2],fun i ys hi => ?_⟩
          by_cases him:i < m
          · rw [List.getElem?_append_left (by omega)] at hi
            exact h3 i ys hi
          · have hlt := (List.getElem?_eq_some_iff.1 hi).1
            simp at hlt
            have:i = m := by omega
            subst this
            rw [List.getElem?_append_right (by omega)] at hi
            simp [h2] at hi
            subst hi
            exact ⟨h4,h5⟩
      exact this len (Nat.le_refl _)
    have hrow:Z8 ks.length (xs.map (Qz ks)) := ⟨hpos,fun r hr => by
      obtain ⟨zs,_,rfl⟩ := List.mem_map.1 hr
      exact ⟨by rw [Qz,ZZ],WX _ _ _⟩⟩
    have flat:∀ (θ:Th) (ys:List (List Int)) (b:Nat),(∀ i zs,ys[i]? = some zs → ∀ (j:Nat) (u:Value),(JM θ (Qz ks zs))[j]? = some u → w.cell? (a.add ((b + i) * ks.length + j)) = some u) → ∀ (j:Nat) (u:Value),(JM θ (ys.map (Qz ks)).flatten)[j]? = some u → w.cell? (a.add (b * ks.length + j)) = some u := by
      intro θ ys
      induction ys with
      | nil => intro b _ j u h; simp [JM] at h
      | cons z ys ih =>
        intro b hz j u hj
        simp only [List.map_cons,List.flatten_cons,JM,List.map_append] at hj
        have hdl:(List.map (SC.den θ) (Qz ks z)).length = ks.length := by rw [List.length_map,Qz,ZZ]
        by_cases hlt:j < ks.length
        · rw [List.getElem?_append_left (by omega)] at hj
          exact hz 0 z rfl j u hj
        · rw [List.getElem?_append_right (by omega),hdl] at hj
          have := ih (b + 1) (fun i zs hi j u hj => by
            have := hz (i + 1) zs (by simpa using hi) j u hj
            rwa [show b + (i + 1) = b + 1 + i from by omega] at this) (j - ks.length) u hj
          rw [← this]
          congr 2
          rw [Nat.add_mul,Nat.one_mul]; omega
    by_cases hl0:len = 0
    · subst hl0
      have:xs = [] := List.length_eq_zero_iff.1 hx1
      subst this
      exact ⟨[],⟨.none,.none,some a,0,cap,#[]⟩,rfl,hrow,fun θ => ⟨rfl,rfl,Nat.zero_le _,.inl ⟨rfl,rfl,rfl⟩⟩⟩
    · refine ⟨xs,⟨.none,some a.block,some a,len,cap,#[]⟩,rfl,hrow,fun θ => ⟨rfl,hx1.symm,by rw [hx1]; exact hle,.inr ⟨a,rfl,rfl,?_,fun j u hj => ?_⟩⟩⟩
      · intro h0
        have := congrArg List.length h0
        obtain ⟨z,zs,rfl⟩:∃ z zs,xs = z :: zs := by
          cases xs with
          | nil => exact absurd hx1 (fun h => hl0 h.symm)
          | cons z zs => exact ⟨z,zs,rfl⟩
        simp only [JM,List.map_cons,List.flatten_cons,List.map_append,List.length_append,List.length_map,Qz,ZZ,List.length_nil] at this
        omega
      · have := flat θ xs 0 (fun i zs hi j u hj => by
          have := (hx2 i zs hi).2 θ j u hj
          simpa using this) j u hj
        simpa using this
theorem Jd6 {b0:Nat}:∀ {pss:List PS} {ts:List TypeId} {vs:List Value} {ds:List (DataW H)} {p:List MemPlace},JxC P pss ts = true → DataW.TrodAll enc P w 0 (fun _ => true) true ts vs ds p →
    (∀ (j:Nat) t v,ts[j]? = some t → vs[j]? = some v → Value.okWide P w .any b0 t v) →
    ∃ (ps:List Pm) (ls:Qs) (locs:List Loc),JOD (psK pss) ps ∧ ls.length = psR pss ∧ locs.length = psR pss ∧
      ∀ (id:Nat) (θ:Th),(∀ i l,locs[i]? = some l → θ (id + i) = l) → (∀ rest,∃ A,JQg (JiQ pss id) (ps ++ rest) = (A,rest) ∧ A.map (SV.den θ) = vs ∧ (∀ i ∈ Qj A,i < id + psR pss)) ∧
        ∀ t i o,JD (Jby pss id t ls) i = some o → QN θ w i o ∧ (θ i).blk = none ∧ id ≤ i ∧ i < id + psR pss ∧ K6 o = []
  | [],[],vs,ds,p,_,h,_ => by
    obtain ⟨rfl,_,_⟩ := trodAll_nil h
    exact ⟨[],[],[],trivial,rfl,rfl,fun id θ _ => ⟨fun rest => ⟨[],rfl,rfl,fun _ h => by cases h⟩,fun t i o h => by cases h⟩⟩
  | [],_ :: _,_,_,_,h,_,_ => by cases h
  | _ :: _,[],_,_,_,h,_,_ => by cases h
  | s :: r,t :: ts,vs,ds,p,hok,h,hw => by
    obtain ⟨v,vs',d,ds',p1,p2,rfl,rfl,rfl,⟨n,h1⟩,h2⟩ := trodAll_cons h
    simp only [JxC,Bool.and_eq_true] at hok
    obtain ⟨ps,ls,locs,q1,q2,q3,q4⟩ := Jd6 hok.2 h2 (fun j t v hj hv => hw (j + 1) t v (by simpa using hj) (by simpa using hv))
    have hv := hw 0 t v rfl rfl
    have hok1 := hok.1
    cases s with
    | agg ks =>
      simp only [JnA,Bool.and_eq_true] at hok1
      obtain ⟨k1,k2⟩ := hok1
      have hst:∃ fs,P.underlying t = some (.struct fs) := by
        split at k1
        · exact ⟨_,by assumption⟩
        · cases k1
      obtain ⟨fs,hst⟩ := hst
      have hfl:JJC P 20 t = some ks := by
        split at k2
        · rename_i js hj; rw [hj,K8 k2]
        · cases k2
      unfold Value.okWide at hv
      rw [hst] at hv
      obtain ⟨cs,rfl,_⟩ := hv
      obtain ⟨qs,m1,m2⟩ := Jf5 (JKW hfl h1)
      refine ⟨qs ++ ps,ls,locs,JOD.append m1 q1,q2,q3,fun id θ hθ => ?_⟩
      obtain ⟨z1,z2⟩ := q4 id θ hθ
      refine ⟨fun rest => ?_,fun t i o ho => z2 t i o ho⟩
      obtain ⟨xs,e1,e2,e3⟩ := m2 (ps ++ rest)
      obtain ⟨A,e4,e5,e6⟩ := z1 rest
      refine ⟨.agg xs :: A,by simp only [JiQ,JQg,PV.mk,List.append_assoc,e1,e4],?_,fun i hi => ?_⟩
      · simp only [List.map_cons,e5,SV.den,e2 θ]
        simp [Value.cells]
      · simp only [Qj,Zc,e3,List.nil_append] at hi
        exact e6 i hi
    | one k =>
      simp only [JnA] at hok1
      have hone:(∀ cs,v ≠ .agg cs) ∧ JJC P 20 t = some [k] := by
        unfold Value.okWide Cell.okWide Cell.ok at hv
        split at hok1
        · rename_i j hu
          rw [hu] at hv
          refine ⟨fun cs hc => ?_,?_⟩
          · subst hc; exact hv.elim
          · simp only [JJC,hu]; rw [JSp hok1]
        · rename_i hu
          rw [hu] at hv
          refine ⟨fun cs hc => ?_,?_⟩
          · subst hc; exact hv.elim
          · simp only [JJC,hu]; rw [JSp hok1]
        · cases hok1
      obtain ⟨ho1,hfl⟩ := hone
      rw [JcW ho1] at h1
      obtain ⟨qs,m1,m2⟩ := Jf5 (JKW hfl h1)
      refine ⟨qs ++ ps,ls,locs,JOD.append (ks := [k]) m1 q1,q2,q3,fun id θ hθ => ?_⟩
      obtain ⟨z1,z2⟩ := q4 id θ hθ
      refine ⟨fun rest => ?_,fun t i o ho => z2 t i o ho⟩
      obtain ⟨xs,e1,e2,e3⟩ := m2 (ps ++ rest)
      obtain ⟨A,e4,e5,e6⟩ := z1 rest
      have e7 := e2 θ
      have hxl:∃ c,xs = [c] := by
        have := congrArg List.length e7
        simp [JM] at this
        match xs,this with
        | [c],_ => exact ⟨c,rfl⟩
      obtain ⟨c,rfl⟩ := hxl
      simp only [List.map_cons,List.map_nil,JbO,Prod.mk.injEq,List.cons.injEq,and_true] at e1
      refine ⟨.one c :: A,?_,?_,fun i hi => ?_⟩
      · simp only [JiQ,JQg,PV.mk,List.append_assoc,e1.1,e1.2,e4]
      · simp only [JM,List.map_cons,List.map_nil,List.cons.injEq,and_true] at e7
        simp only [List.map_cons,e5,SV.den,e7]
      · simp only [Qj,Zc,List.mem_append] at hi
        rcases hi with hi | hi
        · rw [Jt] at e3
          simp [List.append_eq_nil_iff] at e3
          rw [e3.1] at hi; cases hi
        · exact e6 i hi
    | row e ks =>
      simp only [JnA,Bool.and_eq_true] at hok1
      obtain ⟨k1,k2,k3,k4⟩ := hok1
      have hst:P.underlying t = some (.slice e) := by
        split at k1
        · rename_i u hu; rw [hu,Nat.eq_of_beq_eq_true k1]
        · cases k1
      have hfl:JJC P 20 e = some ks := by
        split at k2
        · rename_i js hj; rw [hj,K8 k2]
        · cases k2
      have hna:∀ cs,v ≠ .agg cs := fun cs hc => by
        unfold Value.okWide Cell.okWide Cell.ok at hv
        rw [hst] at hv
        subst hc; exact hv.elim
      obtain ⟨xs,l,m1,m2,m3⟩ := JsS hst hfl (Nat.eq_of_beq_eq_true k3) (by rwa [Nat.blt_eq] at k4) h1 hna
      refine ⟨ps,xs :: ls,l :: locs,q1,by simp [psR,q2],by simp [psR,q3],fun id θ hθ => ?_⟩
      have hl:θ id = l := hθ 0 l rfl
      obtain ⟨z1,z2⟩ := q4 (id + 1) θ (fun i l hi => by
        have := hθ (i + 1) l (by simpa using hi)
        rwa [show id + (i + 1) = id + 1 + i from by omega] at this)
      refine ⟨fun rest => ?_,fun t i o ho => ?_⟩
      · obtain ⟨A,e4,e5,e6⟩ := z1 rest
        refine ⟨.one (.wh id) :: A,by simp only [JiQ,JQg,PV.mk,PC.mk,e4],?_,fun i hi => ?_⟩
        · simp only [List.map_cons,e5,SV.den,SC.den,hl,m1]
        · simp only [Qj,Zc,Wm,List.singleton_append,List.mem_cons] at hi
          simp only [psR]
          rcases hi with rfl | hi
          · omega
          · have := e6 i hi; omega
      · simp only [Jby,JX] at ho
        cases hb:Nat.beq id i
        · rw [hb] at ho
          obtain ⟨y1,y2,y3,y4,y5⟩ := z2 (t + 1) i o ho
          simp only [psR]
          exact ⟨y1,y2,by omega,by omega,y5⟩
        · rw [hb] at ho
          cases ho
          have := Nat.eq_of_beq_eq_true hb; subst this
          simp only [psR]
          refine ⟨⟨m2,?_⟩,by rw [hl]; exact (m3 θ).1,Nat.le_refl _,by omega,rfl⟩
          rw [hl]
          simpa [RowC.rows] using m3 θ
theorem Jcu (hl:laidOutB P = true) {W W':World} (hb:Below W.heap.size W W'):∀ {ts:List TypeId} {vs:List Value} {ds:List (DataW H)} {ps:List MemPlace},
    (ts.all fun t => P.readableRec t && decide (t < P.types.size)) = true → DataW.TrodAll enc P W 0 (fun _ => true) true ts vs ds ps → (∀ x ∈ ps,x.block < W.heap.size) → DataW.TrodAll enc P W' 0 (fun b => decide (b < W.heap.size)) true ts vs ds ps
  | [],vs,ds,ps,_,h,_ => by
    obtain ⟨rfl,rfl,rfl⟩ := trodAll_nil h
    rfl
  | t :: ts,vs,ds,ps,hr,h,hp => by
    obtain ⟨v,vs',d,ds',p1,p2,rfl,rfl,rfl,⟨n,h1⟩,h2⟩ := trodAll_cons h
    simp only [List.all_cons,Bool.and_eq_true,decide_eq_true_eq] at hr
    exact ⟨p1,p2,⟨n,DataW.trod_stays (kids_book hl hr.1.1) (book_sized hr.1.1) (fun h => by cases h) ⟨hr.1.2,book_self t⟩ h1 (fun x hx => hb.same (hp x (by simp [hx]))) (fun x hx => by simpa using hp x (by simp [hx]))⟩,
      Jcu hl hb (by simpa using hr.2) h2 (fun x hx => hp x (by simp [hx])),rfl⟩
theorem Below.kept {W W':World} (hb:Below W.heap.size W W') (may:MemPlace → Prop):W.keptBut W' may := by
  refine ⟨hb.os,hb.output,fun i hi => ?_⟩
  rw [hb.block i hi]
  cases h:W.heap[i]? with
  | none => rfl
  | some o => cases o <;> simp
theorem Jqz {f:Func} {s:ChangeSpec} {W W':World} {args:Array Value} {bt:TypeId} {ds:List (DataW H)} {before p q:List MemPlace} {gs:List (DataW H)} (hvars:s.vars = []) (hbt:P.underlying bt = some .bool) (hres:f.resultTypes = #[bt])
    (hfn:s.fn H (ds ++ []) = { results := [.lit (.bool true)],args := ds }) (hl:laidOutB P = true) (hr:(f.params.toList.all fun t => P.readableRec t && decide (t < P.types.size)) = true)
    (hW:DataW.Whole enc P f.params.toList s.vars false W args.toList ds gs before) (hA:DataW.TrodAll enc P W 0 (fun _ => true) true f.params.toList args.toList ds p) (hV:DataW.TrodVars enc P W (fun _ => true) s.vars gs q) (hpq:before = p ++ q)
    (hb:Below W.heap.size W W'):s.post enc P f false true false false W args (.bool true) W' := by
  rw [hvars] at hV
  obtain ⟨rfl,rfl⟩ := trodVars_none hV
  refine ⟨ds,[],before,[],p,[],hW,?_,?_,?_,Below.kept hb _,fun h => by cases h⟩
  · rw [hfn,hres]
    exact trodAll_mk1 (shut_bool hbt true)
  · rw [hfn]
    exact Jcu hl hb hr hA (fun x hx => hW.lt x (by rw [hpq]; simp [hx]))
  · rw [hfn,hvars]
    rfl
end
theorem Jp7 {P:Program} {f:FuncId} {g:JY} (hg:Ql P f g) {tpl:Tpl} {ps:List Pm} {ls:Qs} {v:SV} {m:Jn} (h:Runs g (tpl.args ps) (tpl.memo ps ls) tpl.n v m) (hv:∀ θ,v.den θ = .bool true)
    {pss:List PS} {P':Program} {w:World} {vs:List Value} {θ:Th} (hA:(tpl.args ps).map (SV.den θ) = vs) (hi:∀ i ∈ Qj (tpl.args ps),i < tpl.n)
    (hM:∀ i o,JD (tpl.memo ps ls) i = some o → QN θ w i o ∧ (θ i).blk = none ∧ i < tpl.n ∧ K6 o = []) (hf:f < 1000000 := by decide) :
    Calls P f vs.toArray w fun e w' => e = .returned (.bool true) ∧ Below w.heap.size w w' := by
  have := JjA hg h (fun i o ho => ⟨(hM i o ho).2.2.1,fun j hj => by rw [(hM i o ho).2.2.2] at hj; cases hj⟩) hi (θ := θ) (w := w) ⟨fun i o ho => (hM i o ho).1,fun i i' o o' b ho _ _ hb => by rw [(hM i o ho).2.1] at hb; cases hb⟩ hf
  rw [hA] at this
  refine this.mono fun e w' ⟨θ',h1,h2,_⟩ => ⟨by rw [h1,hv],h2.os,h2.tape,h2.output,h2.size,fun b hb => h2.heap b hb fun i o ho he => ?_⟩
  rw [(hM i o ho).2.1] at he; cases he
end
end Go.SX
namespace Go.Proofs.YtmbfbhimdkjkoaaGreat.cutterApplies
noncomputable section
open Go.SX Go.RowKit Go.ChangeShapes Go.WideShapes Go.ChangeAt
theorem own:ownKnob Tryz.prog.godebug = none := by kernel_rfl
theorem Jww:laidOutB Tryz.prog = true := by kernel_rfl
set_option maxRecDepth 100000 in
theorem JxZ (os:Os) (started:os.Started) (H:Type) (enc:TypeId × Value → H) :
    ReturnsInHanded {} Tryz.checked os 3 .any (Rows.cutterAppliesSpec.pre6 enc Tryz.prog Tryz.f3 Rows.cutterAppliesRow.domain false) (Rows.cutterAppliesSpec.post enc Tryz.prog Tryz.f3 false true false false) := by
  refine returnsInHanded_of_change (C := Tryz.checked) own started (by kernel_rfl) Tryz.func3
    (ChangeSpec.witness6 (enc := enc) (C := Tryz.checked) false ⟨#[],#[.slice none 0 0,.slice none 0 0],[]⟩ 8 (by kernel_rfl) (by kernel_rfl) (by kernel_rfl) (by kernel_rfl)) ?_
  intro W base args ds gs before hval0 hW hcnd _
  have hval:∀ (j:Nat) t v,Tryz.f3.params[j]? = some t → args[j]? = some v → Value.okWide Tryz.prog W .any base t v := hval0
  have hW' := hW
  obtain ⟨p,q,hA0,hV,hpq,_,_⟩ := hW
  have hA:DataW.TrodAll enc Tryz.prog W 0 (fun _ => true) true Tryz.f3.params.toList args.toList ds p := hA0
  have hA1 := hA
  rw [Tryz.params3] at hA1 hval
  obtain ⟨ps,ls,locs,z1,z2,z3,z4⟩ := Jd6 (b0 := base) (pss := [.row 3 [.int .i64],.row 3 [.int .i64]]) (by kernel_rfl) hA1 (fun j t v h1 h2 => hval j t v (by simpa using h1) (by simpa using h2))
  obtain ⟨y1,y2⟩ := z4 0 (fun i => locs.getD i Loc.none) (fun i l h => by simp [List.getD,h])
  obtain ⟨A,a1,a2,a3⟩ := y1 []
  rw [List.append_nil] at a1
  have t0:JOD [] ps := z1
  clear z1
  obtain rfl := JxM t0
  obtain ⟨L0,L1,rfl⟩:∃ L0 L1,ls = [L0,L1] := by
    match ls,z2 with
    | [L0,L1],_ => exact ⟨_,_,rfl⟩
  obtain ⟨_,_,d0,_,_,_,_,rfl,_,_,hB0⟩ := trodAll_cons hA1
  obtain ⟨_,_,d1,_,_,_,_,rfl,_,_,hB1⟩ := trodAll_cons hB0
  obtain ⟨_,rfl,_⟩ := trodAll_nil hB1
  have eA:jc.args [] = A := by
    have:jc.args [] = (JQg (JiQ [.row 3 [.int .i64],.row 3 [.int .i64]] 0) []).1 := by kernel_rfl
    rw [this,a1]
  have hr:psR [.row 3 [.int .i64],.row 3 [.int .i64]] = 2 := by kernel_rfl
  rw [hr] at a3 y2
  have hn:jc.n = 4 := by kernel_rfl
  have := Jp7 (JE Jji 3) (JjQ _ _ (fun q hq => (fun p hp => JjC p hp) q hq)) (fun _ => by simp only [SV.den,SC.den,SB.val,JjO]) (P' := Tryz.prog) (w := W) (vs := args.toList) (pss := []) (θ := fun i => locs.getD i Loc.none)
    (by rw [eA]; exact a2) (by rw [eA,hn]; intro i hi; have := a3 i hi; omega) (fun i o ho => by
      have e:jc.memo [] [L0,L1] = Jby [.row 3 [.int .i64],.row 3 [.int .i64]] 0 2 [L0,L1] := by kernel_rfl
      rw [e] at ho
      obtain ⟨w1,w2,_,w4,w5⟩ := y2 2 i o ho
      exact ⟨w1,w2,by rw [hn]; omega,w5⟩)
  rw [Array.toArray_toList] at this
  refine this.mono fun e W' ⟨he,hb⟩ => ?_
  subst he
  exact ⟨_,rfl,Jqz (bt := 4) rfl Tryz.underlying4 (by kernel_rfl) rfl Jww (by kernel_rfl) hW' hA hV hpq hb⟩
theorem holds:Rows.CutterAppliesSaid :=
  OpenClaim.holds_of_wide 3 Tryz.f3 rfl rfl rfl rfl rfl rfl rfl ⟨rfl,rfl,rfl,rfl,rfl⟩ rfl rfl rfl rfl rfl (by kernel_rfl) Tryz.func3 (by kernel_rfl)
    (of_decide_eq_true (by kernel_rfl)) (by unfold Func.isWrapper; first | (rw [if_pos (by decide +kernel)]; kernel_rfl) | (rw [if_neg (by decide +kernel)]; exact ⟨rfl,rfl⟩))
    (fun os started H enc _ => JxZ os started H enc)
#print axioms holds
end
end Go.Proofs.YtmbfbhimdkjkoaaGreat.cutterApplies
