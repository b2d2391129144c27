/-
  Texts of one claim, laid together. Conditions: none.
-/
import Derived.Test.YtmbfbhimdkjkoaaGreatM5b33e5d7
set_option linter.all false
set_option maxRecDepth 1000000
namespace Go.Proofs.YtmbfbhimdkjkoaaGreat
noncomputable section
open Go.SX Go.RowKit
def bs (P:Int → Bool):Nat → Int → Int → Int
  | 0,_,b => b
  | f + 1,a,b => bif decide (b - a > 1) then (bif P ((a + b).tdiv 2) then bs P f a ((a + b).tdiv 2) else bs P f ((a + b).tdiv 2) b) else b
theorem JOj {a b:Int} (h0:0 ≤ a) (h:b - a > 1):a < (a + b).tdiv 2 ∧ (a + b).tdiv 2 < b := by
  rw [Int.tdiv_eq_ediv_of_nonneg (by omega)]
  omega
theorem JJ1 (P:Int → Bool):∀ (f g:Nat) (a b:Int),0 ≤ a → (b - a).toNat ≤ f → (b - a).toNat ≤ g → bs P f a b = bs P g a b
  | 0,0,_,_,_,_,_ => rfl
  | 0,g + 1,a,b,_,h,_ => by
    unfold bs
    rw [decide_eq_false (show ¬ b - a > 1 by omega)]; rfl
  | f + 1,0,a,b,_,_,h => by
    unfold bs
    rw [decide_eq_false (show ¬ b - a > 1 by omega)]; rfl
  | f + 1,g + 1,a,b,h0,h1,h2 => by
    unfold bs
    by_cases h:b - a > 1
    · obtain ⟨m1,m2⟩ := JOj h0 h
      rw [JJ1 P f g a _ h0 (by omega) (by omega),JJ1 P f g _ b (by omega) (by omega) (by omega)]
    · rw [decide_eq_false h]; rfl
def bs0 (n:Int):Int × Int := (0,n)
def bsF (P:Int → Bool) (s:Int × Int):Int := bs P (s.2 - s.1).toNat s.1 s.2
theorem Jfw {P:Int → Bool} {a b:Int} (h:¬ b - a > 1):bsF P (a,b) = b := by
  show bs P (b - a).toNat a b = b
  cases (b - a).toNat with
  | zero => rfl
  | succ f => unfold bs; rw [decide_eq_false h]; rfl
theorem Jcp {P:Int → Bool} {a b:Int} (h0:0 ≤ a) (h:b - a > 1):bsF P (a,b) = bif P ((a + b).tdiv 2) then bsF P (a,(a + b).tdiv 2) else bsF P ((a + b).tdiv 2,b) := by
  obtain ⟨m1,m2⟩ := JOj h0 h
  show bs P (b - a).toNat a b = _
  have e:(b - a).toNat = (b - a - 1).toNat + 1 := by omega
  rw [e]
  unfold bs
  rw [decide_eq_true h,cond_true]
  show (bif P ((a + b).tdiv 2) then bs P (b - a - 1).toNat a ((a + b).tdiv 2) else bs P (b - a - 1).toNat ((a + b).tdiv 2) b) = _
  rw [JJ1 P (b - a - 1).toNat ((a + b).tdiv 2 - a).toNat a _ h0 (by omega) (by omega),JJ1 P (b - a - 1).toNat (b - (a + b).tdiv 2).toNat _ b (by omega) (by omega) (by omega)]
  rfl
def bsN (P:Int → Bool) (s:Int × Int):Int × Int := (bif P ((s.1 + s.2).tdiv 2) then s.1 else (s.1 + s.2).tdiv 2,bif P ((s.1 + s.2).tdiv 2) then (s.1 + s.2).tdiv 2 else s.2)
theorem JhW {P:Int → Bool} {s:Int × Int} (h0:0 ≤ s.1) (h:s.2 - s.1 > 1):0 ≤ (bsN P s).1 ∧ (bsN P s).1 ≤ (bsN P s).2 ∧ (bsN P s).2 ≤ s.2 ∧ ((bsN P s).2 - (bsN P s).1).toNat < (s.2 - s.1).toNat ∧ bsF P (bsN P s) = bsF P s := by
  rcases s with ⟨a,b⟩
  obtain ⟨m1,m2⟩ := JOj h0 h
  have hs := Jcp (P := P) h0 h
  unfold bsN
  simp only at h0 h m1 m2 hs ⊢
  rw [hs]
  cases P ((a + b).tdiv 2)
  · simp only [cond_false]
    exact ⟨by omega,by omega,by omega,by omega,trivial⟩
  · simp only [cond_true]
    exact ⟨by omega,by omega,by omega,by omega,trivial⟩
theorem Jgq {s:Int × Int} (h0:0 ≤ s.1) (h1:s.1 ≤ s.2) (h2:s.2 ≤ 1000000000000):IntKind.i64.wrap (s.2 - s.1) = s.2 - s.1 ∧ IntKind.i64.wrap ((IntKind.i64.wrap (s.1 + s.2)).tdiv 2) = (s.1 + s.2).tdiv 2 ∧ KI ((s.1 + s.2).tdiv 2) := by
  have e:(s.1 + s.2).tdiv 2 = (s.1 + s.2) / 2 := Int.tdiv_eq_ediv_of_nonneg (by omega)
  rw [Wu (x := s.2 - s.1) (by omega) (by omega),Wu (x := s.1 + s.2) (by omega) (by omega),e,Wu (by omega) (by omega)]
  exact ⟨rfl,rfl,by omega,by omega⟩
def JcM (mem:Je) (id:Nat):Option (List Int × Bool) := match SX.J6 mem id with
  | some (.blk _ cs) => (match cs.reverse with
    | (_,.bool b) :: r => (JZE r.reverse).map fun l => (l,b.val)
    | _ => none)
  | _ => none
section
variable (l0 l1 d0 d1 n:Int) (id t:Nat) (x y e0 e1 e2 e3 e4 e5 e6 r k:Int) (e7:Bool)
def Jgx:Nat × SX.Obj:= (id,.blk 91 [(t,I e0),(t + 1,I e1),(t + 2,I e2),(t + 3,I e3),(t + 4,I e4),(t + 5,I e5),(t + 6,I e6),(t + 7,.bool (.v e7))])
def Jhy:Nat × SX.Obj:= (id,.blk 54 [(t,I x),(t + 1,I y)])
def Jhk:Nat × SX.Obj:= (id,.blk 54 [(t,.int .i64 (.c 0)),(t + 1,.int .i64 (.c 0))])
def stP:Bool:= ZA e0 e1 e2 e3 e4 e5 e6 (JD l0 (K3 d0 k n 2)) (JD l1 (K3 d1 k n 2)) r
end
def stM (l0 l1 d0 d1 n e0 e1 e2 e3 e4 e5 e6:Int) (e7:Bool) (r:Int):Je :=
  [(76,.clo [.one (.ptr 53 0),.one (.ptr 71 0),.one (.ptr 12 0)]),(71,.blk 3 [(74,I n)]),Jhy 53 57 d0 d1,Jhk 20 21,Jhy 12 13 l0 l1,(0,.clo [.one (.ptr 1 0),.one (.ptr 2 0)]),Jgx 1 3 e0 e1 e2 e3 e4 e5 e6 e7,(2,.blk 3 [(11,I r)])]
def stF (l0 l1 d0 d1 n e0 e1 e2 e3 e4 e5 e6:Int) (e7:Bool) (r:Int):Fam (Int × Int) Int where
  k := 60
  E s := [(11,ent 1000000000 (.one (I s.2))),(10,ent 1000000001 (.one (I s.1))),(9,ent 78 (.one (.clo 160 76))),(6,ent 23 (.one (.ptr 20 0))),(2,ent 4 (.one (.clo 133 0)))]
  M _ := stM l0 l1 d0 d1 n e0 e1 e2 e3 e4 e5 e6 e7 r
  out b := .leaf (.exit 0) [(11,ent 83 (.one (I b))),(9,ent 78 (.one (.clo 160 76))),(6,ent 23 (.one (.ptr 20 0)))] (stM l0 l1 d0 d1 n e0 e1 e2 e3 e4 e5 e6 e7 r)
  fin s := bsF (stP l0 l1 d0 d1 n e0 e1 e2 e3 e4 e5 e6 r) s
  next s _ := bsN (stP l0 l1 d0 d1 n e0 e1 e2 e3 e4 e5 e6 r) s
  J s := 0 ≤ s.1 ∧ s.1 ≤ s.2 ∧ s.2 ≤ 1000000000000 ∧ KI d0 ∧ KI d1 ∧ KI n
  μ s := (s.2 - s.1).toNat
section
variable (l0 l1 d0 d1 n e0 e1 e2 e3 e4 e5 e6:Int) (e7:Bool) (r:Int) (s:Int × Int)
def Jdc:Prop:=
 decide (IntKind.i64.wrap (s.snd - s.fst) > 1) = true
def JAP:Int:=
 IntKind.i64.wrap ((IntKind.i64.wrap (s.fst + s.snd)).tdiv 2)
def JcO:Prop:=
 -9223372036854775808 ≤ n ∧ n < 9223372036854775808
def Jf4:Int:=
 ((stF l0 l1 d0 d1 n e0 e1 e2 e3 e4 e5 e6 e7 r).next s 0).fst
def Jdr:Int:=
 ((stF l0 l1 d0 d1 n e0 e1 e2 e3 e4 e5 e6 e7 r).next s 0).snd
def Jgb:Int:=
 (stF l0 l1 d0 d1 n e0 e1 e2 e3 e4 e5 e6 e7 r).fin s
def JJM:List Prop:=
 [Jdc s → (-9223372036854775808 ≤ d0 ∧ d0 < 9223372036854775808) ∧ (-9223372036854775808 ≤ JAP s ∧ JAP s < 9223372036854775808) ∧ JcO n ∧ (-9223372036854775808 ≤ d1 ∧ d1 < 9223372036854775808) ∧ (-9223372036854775808 ≤ JAP s ∧ JAP s < 9223372036854775808) ∧ JcO n,Jdc s → (0 ≤ Jf4 l0 l1 d0 d1 n e0 e1 e2 e3 e4 e5 e6 e7 r s ∧ Jf4 l0 l1 d0 d1 n e0 e1 e2 e3 e4 e5 e6 e7 r s ≤ Jdr l0 l1 d0 d1 n e0 e1 e2 e3 e4 e5 e6 e7 r s ∧ Jdr l0 l1 d0 d1 n e0 e1 e2 e3 e4 e5 e6 e7 r s ≤ 1000000000000 ∧ (-9223372036854775808 ≤ d0 ∧ d0 < 9223372036854775808) ∧ (-9223372036854775808 ≤ d1 ∧ d1 < 9223372036854775808) ∧ JcO n) ∧ (stF l0 l1 d0 d1 n e0 e1 e2 e3 e4 e5 e6 e7 r).μ ((stF l0 l1 d0 d1 n e0 e1 e2 e3 e4 e5 e6 e7 r).next s 0) < (stF l0 l1 d0 d1 n e0 e1 e2 e3 e4 e5 e6 e7 r).μ s ∧ (stF l0 l1 d0 d1 n e0 e1 e2 e3 e4 e5 e6 e7 r).fin ((stF l0 l1 d0 d1 n e0 e1 e2 e3 e4 e5 e6 e7 r).next s 0) = Jgb l0 l1 d0 d1 n e0 e1 e2 e3 e4 e5 e6 e7 r s ∧ (Jdr l0 l1 d0 d1 n e0 e1 e2 e3 e4 e5 e6 e7 r s = bif ZA e0 e1 e2 e3 e4 e5 e6 (JD l0 (K3 d0 (JAP s) n 2)) (JD l1 (K3 d1 (JAP s) n 2)) r then JAP s else s.snd) ∧ Jf4 l0 l1 d0 d1 n e0 e1 e2 e3 e4 e5 e6 e7 r s = bif ZA e0 e1 e2 e3 e4 e5 e6 (JD l0 (K3 d0 (JAP s) n 2)) (JD l1 (K3 d1 (JAP s) n 2)) r then s.fst else JAP s,decide (IntKind.i64.wrap (s.snd - s.fst) > 1) = false → Jgb l0 l1 d0 d1 n e0 e1 e2 e3 e4 e5 e6 e7 r s = s.snd]
end
theorem JdU (l0 l1 d0 d1 n e0 e1 e2 e3 e4 e5 e6:Int) (e7:Bool) (r:Int) (s:Int × Int) (hNeeds:∀ pN ∈ (JJM l0 l1 d0 d1 n e0 e1 e2 e3 e4 e5 e6 e7 r s),pN):Q3 (XF (stF l0 l1 d0 d1 n e0 e1 e2 e3 e4 e5 e6 e7 r) (QR Tryz.prog (JE JBQ) Qw 135 0) 82 s) :=
  Q3.of (ps := (JJM l0 l1 d0 d1 n e0 e1 e2 e3 e4 e5 e6 e7 r s)) (by kernel_rfl) (by kernel_rfl) hNeeds
theorem JaL (l0 l1 d0 d1 n e0 e1 e2 e3 e4 e5 e6:Int) (e7:Bool) (r:Int):Z0 (stF l0 l1 d0 d1 n e0 e1 e2 e3 e4 e5 e6 e7 r) (QR Tryz.prog (JE JBQ) Qw 135 0) 82 := by
  intro s hJ
  obtain ⟨h0,h1,h2,h3,h4,h5⟩:0 ≤ s.1 ∧ s.1 ≤ s.2 ∧ s.2 ≤ 1000000000000 ∧ KI d0 ∧ KI d1 ∧ KI n := hJ
  obtain ⟨w1,w2,w3⟩ := Jgq h0 h1 h2
  have hk:JAP s = (s.1 + s.2).tdiv 2 := w2
  refine JdU l0 l1 d0 d1 n e0 e1 e2 e3 e4 e5 e6 e7 r s ?_
  unfold JJM
  rw [hk]
  unfold Jdc
  rw [w1]
  intro p hp
  simp only [List.mem_cons,List.not_mem_nil,or_false] at hp
  rcases hp with rfl | rfl | rfl
  · exact fun _ => ⟨h3,w3,h5,h4,w3,h5⟩
  · intro h
    have h:s.2 - s.1 > 1 := by simpa using h
    obtain ⟨b1,b2,b3,b4,b5⟩ := JhW (P := stP l0 l1 d0 d1 n e0 e1 e2 e3 e4 e5 e6 r) h0 h
    exact ⟨⟨b1,b2,Int.le_trans b3 h2,h3,h4,h5⟩,b4,b5,rfl,rfl⟩
  · intro h
    have h:¬ s.2 - s.1 > 1 := by simpa using h
    show bsF _ (s.1,s.2) = s.2
    exact Jfw h
def stL:Q5 := fun env mem m => match jl env 11,JI3 mem 12,JI3 mem 53,JI3 mem 71,JcM mem 1,JI3 mem 2 with
  | some b,some [l0,l1],some [d0,d1],some [n],some ([e0,e1,e2,e3,e4,e5,e6],e7),some [r] => qS (stF l0 l1 d0 d1 n e0 e1 e2 e3 e4 e5 e6 e7 r) 82 (fun _ _ => some (bs0 b)) env mem m
  | _,_,_,_,_,_ => none
def Jag:FuncId → Nat → Option Q5 := kR Qw 135 5 stL
theorem JNk:Known Tryz.prog (JE JBQ) Jag := by
  refine Qc 0 JIa (by kernel_rfl) (Z5 fun env mem m x h => ?_)
  unfold stL at h
  have hlen:(QC Tryz.prog 135).length = 1 := by kernel_rfl
  split at h
  · exact ⟨_,XX (Qg XB JIa (by omega)) (JaL _ _ _ _ _ _ _ _ _ _ _ _ _ _),h⟩
  · cases h
theorem JXd (P:Int → Bool):∀ (f:Nat) (a b:Int),0 ≤ a → a ≤ b → a ≤ bs P f a b ∧ bs P f a b ≤ b
  | 0,a,b,_,h => ⟨h,Int.le_refl _⟩
  | f + 1,a,b,h0,h => by
    unfold bs
    by_cases g:b - a > 1
    · obtain ⟨m1,m2⟩ := JOj h0 g
      rw [decide_eq_true g,cond_true]
      cases P ((a + b).tdiv 2)
      · have := JXd P f ((a + b).tdiv 2) b (by omega) (by omega)
        rw [cond_false]; omega
      · have := JXd P f a ((a + b).tdiv 2) h0 (by omega)
        rw [cond_true]; omega
    · rw [decide_eq_false g,cond_false]; omega
theorem Jft (P:Int → Bool) {n:Int} (h:0 ≤ n):0 ≤ bsF P (bs0 n) ∧ bsF P (bs0 n) ≤ n := JXd P _ 0 n (by omega) h
def KX:Tpl := ⟨[.agg [.int .i64,.int .i64],.agg [.int .i64,.int .i64],.one (.clo 133 0)],[(0,.clo [.one (.ptr 1 0),.one (.ptr 2 0)]),(1,.blk 91 [(3,.int .i64),(4,.int .i64),(5,.int .i64),(6,.int .i64),(7,.int .i64),(8,.int .i64),(9,.int .i64),(10,.bool)]),(2,.blk 3 [(11,.int .i64)])],12⟩
section
variable (l0 l1 h0 h1 e0 e1 e2 e3 e4 e5 e6:Int) (e7:Bool) (r:Int)
def JA2:Int:=
 if IntKind.i64.wrap (0 - J3 h0 l0) > J3 h0 l0 then IntKind.i64.wrap (0 - J3 h0 l0) else J3 h0 l0
def JAL:Int:=
 if J3 h1 l1 > JA2 l0 h0 then J3 h1 l1 else JA2 l0 h0
def Jo:Int:=
 if IntKind.i64.wrap (0 - J3 h1 l1) > JAL l0 l1 h0 h1 then IntKind.i64.wrap (0 - J3 h1 l1) else JAL l0 l1 h0 h1
def JCS:Int:=
 JD l0 (K3 (J3 h0 l0) ((stF l0 l1 (J3 h0 l0) (J3 h1 l1) (Jo l0 l1 h0 h1) e0 e1 e2 e3 e4 e5 e6 e7 r).fin (bs0 (Jo l0 l1 h0 h1))) (Jo l0 l1 h0 h1) 2)
def JDB:Int:=
 JD l1 (K3 (J3 h1 l1) ((stF l0 l1 (J3 h0 l0) (J3 h1 l1) (Jo l0 l1 h0 h1) e0 e1 e2 e3 e4 e5 e6 e7 r).fin (bs0 (Jo l0 l1 h0 h1))) (Jo l0 l1 h0 h1) 2)
def jF:Prop:=
 -9223372036854775808 ≤ J3 h0 l0 ∧ J3 h0 l0 < 9223372036854775808
def JAH:Prop:=
 -9223372036854775808 ≤ Jo l0 l1 h0 h1 ∧ Jo l0 l1 h0 h1 < 9223372036854775808
def Xc:Int:=
 (stF l0 l1 (J3 h0 l0) (J3 h1 l1) (Jo l0 l1 h0 h1) e0 e1 e2 e3 e4 e5 e6 e7 r).fin (bs0 (Jo l0 l1 h0 h1))
def Kd:List Prop:=
 [0 ≤ (bs0 (Jo l0 l1 h0 h1)).fst ∧ (bs0 (Jo l0 l1 h0 h1)).fst ≤ (bs0 (Jo l0 l1 h0 h1)).snd ∧ (bs0 (Jo l0 l1 h0 h1)).snd ≤ 1000000000000 ∧ jF l0 h0 ∧ jF l1 h1 ∧ JAH l0 l1 h0 h1,(bs0 (Jo l0 l1 h0 h1)).snd = Jo l0 l1 h0 h1,(bs0 (Jo l0 l1 h0 h1)).fst = 0,jF l0 h0,-9223372036854775808 ≤ Xc l0 l1 h0 h1 e0 e1 e2 e3 e4 e5 e6 e7 r ∧ Xc l0 l1 h0 h1 e0 e1 e2 e3 e4 e5 e6 e7 r < 9223372036854775808,JAH l0 l1 h0 h1,jF l1 h1,-9223372036854775808 ≤ Xc l0 l1 h0 h1 e0 e1 e2 e3 e4 e5 e6 e7 r ∧ Xc l0 l1 h0 h1 e0 e1 e2 e3 e4 e5 e6 e7 r < 9223372036854775808,JAH l0 l1 h0 h1]
end
theorem JMU {l0:Int} {l1:Int} {h0:Int} {h1:Int} {e0:Int} {e1:Int} {e2:Int} {e3:Int} {e4:Int} {e5:Int} {e6:Int} {e7:Bool} {r:Int} (hW:∀ q ∈ ([bd 1048576 l0,bd 1048576 l1,bd 1048576 h0,bd 1048576 h1]:List Prop),q):∀ q ∈ (Kd l0 l1 h0 h1 e0 e1 e2 e3 e4 e5 e6 e7 r),q := by
  simp only [awc,awn,and_true] at hW
  unfold Kd
  simp only [awc,awn,and_true]
  obtain ⟨b0,b1,b2,b3⟩ := hW
  have d0:J3 h0 l0 = h0 - l0 := JTq (by omega) (by omega)
  have d1:J3 h1 l1 = h1 - l1 := JTq (by omega) (by omega)
  have hn:0 ≤ Jo l0 l1 h0 h1 ∧ Jo l0 l1 h0 h1 ≤ 2097152 := by
    unfold Jo JAL JA2
    rw [d0,d1,Wu (x := 0 - (h0 - l0)) (by omega) (by omega),Wu (x := 0 - (h1 - l1)) (by omega) (by omega)]
    repeat' split
    all_goals omega
  have hf:0 ≤ Xc l0 l1 h0 h1 e0 e1 e2 e3 e4 e5 e6 e7 r ∧ Xc l0 l1 h0 h1 e0 e1 e2 e3 e4 e5 e6 e7 r ≤ Jo l0 l1 h0 h1 := Jft _ hn.1
  have i6:KI (Xc l0 l1 h0 h1 e0 e1 e2 e3 e4 e5 e6 e7 r) := ⟨by omega,by omega⟩
  have i5:KI (Jo l0 l1 h0 h1) := ⟨by omega,by omega⟩
  have i0:KI (J3 h0 l0) := ZH _
  have i1:KI (J3 h1 l1) := ZH _
  exact ⟨⟨Int.le_refl 0,hn.1,show Jo l0 l1 h0 h1 ≤ _ by omega,i0,i1,i5⟩,rfl,rfl,i0,i6,i5,i1,i6,i5⟩
def JHu (e0 e1 e2 e3 e4 e5 e6:Int) (e7:Bool) (r:Int):Je :=
 [(0,Obj.clo [SV.one (SC.ptr 1 0),SV.one (SC.ptr 2 0)]),(1,Obj.blk 91 [(3,Ci e0),(4,Ci e1),(5,Ci e2),(6,Ci e3),(7,Ci e4),(8,Ci e5),(9,Ci e6),(10,Cb e7)]),(2,Obj.blk 3 [(11,Ci r)])]
theorem JMZ (l0 l1 h0 h1 e0 e1 e2 e3 e4 e5 e6:Int) (e7:Bool) (r:Int) (hNeeds:∀ pN ∈ (Kd l0 l1 h0 h1 e0 e1 e2 e3 e4 e5 e6 e7 r),pN):Runs (Jl (JE JBQ) Jag 135) (KX.args [.i l0,.i l1,.i h0,.i h1,.i e0,.i e1,.i e2,.i e3,.i e4,.i e5,.i e6,.b e7,.i r]) (KX.memo [.i l0,.i l1,.i h0,.i h1,.i e0,.i e1,.i e2,.i e3,.i e4,.i e5,.i e6,.b e7,.i r] []) KX.n (SV.agg [Ci (JCS l0 l1 h0 h1 e0 e1 e2 e3 e4 e5 e6 e7 r),Ci (JDB l0 l1 h0 h1 e0 e1 e2 e3 e4 e5 e6 e7 r)]) (JHu e0 e1 e2 e3 e4 e5 e6 e7 r) :=
  Runs.of1 (ps := (Kd l0 l1 h0 h1 e0 e1 e2 e3 e4 e5 e6 e7 r)) (by kernel_rfl) hNeeds
def zY:List Pm → Qs → Option CRes
  | [.i l0,.i l1,.i h0,.i h1,.i e0,.i e1,.i e2,.i e3,.i e4,.i e5,.i e6,.b e7,.i r],[] => some ⟨SV.agg [Ci (JCS l0 l1 h0 h1 e0 e1 e2 e3 e4 e5 e6 e7 r),Ci (JDB l0 l1 h0 h1 e0 e1 e2 e3 e4 e5 e6 e7 r)],
 JHu e0 e1 e2 e3 e4 e5 e6 e7 r,[bd 1048576 l0,bd 1048576 l1,bd 1048576 h0,bd 1048576 h1],[],1229⟩
  | _,_ => none
theorem JRc:Qf Tryz.prog 135 (JP KX zY) := by
  refine JI (JF JNk 135) fun ps ls r hr hn _ => ?_
  unfold zY at hr
  split at hr
  · cases hr; exact ⟨_,JMZ _ _ _ _ _ _ _ _ _ _ _ _ _ (JMU (by exact hn)),fun _ => rfl⟩
  · cases hr
def Kk:List (Nat × JU) := (135,JP KX zY) :: JBQ
theorem JAg:Known Tryz.prog (JE Kk) Jag := J4 JNk JRc
structure CvS where
  i:Nat
  a0:Int
  a1:Int
  b0:Int
  b1:Int
section
variable (P:Int → Int → Bool) (a0 a1 b0 b1 d z:Int) (full:Bool) (s:CvS)
def JRE:Bool:= Jr (IntKind.i64.wrap (s.b0 - s.a0)) 1 && Jr (IntKind.i64.wrap (s.b1 - s.a1)) 1
def oH0:Int:= KD (Q0 a0 a1 b0 b1 d) z (J7 (Q0 a0 a1 b0 b1 d) (Q1 a0 a1 b0 b1 d) (Q0 a0 a1 b0 b1 d) (Q1 a0 a1 b0 b1 d)) 2
def oH1:Int:= KD (Q1 a0 a1 b0 b1 d) z (J7 (Q0 a0 a1 b0 b1 d) (Q1 a0 a1 b0 b1 d) (Q0 a0 a1 b0 b1 d) (Q1 a0 a1 b0 b1 d)) 2
def JMS:Int:= bif !full || decide (Int.ofNat s.i > 0) then oH0 s.a0 s.a1 s.b0 s.b1 d z else IntKind.i64.wrap (0 - s.a0)
def JMb:Int:= bif !full || decide (Int.ofNat s.i > 0) then oH1 s.a0 s.a1 s.b0 s.b1 d z else IntKind.i64.wrap (0 - s.a1)
def cvN:CvS:=
  ⟨s.i + 1,bif P (JMS d z full s) (JMb d z full s) then s.a0 else JMS d z full s,bif P (JMS d z full s) (JMb d z full s) then s.a1 else JMb d z full s,
    bif P (JMS d z full s) (JMb d z full s) then JMS d z full s else s.b0,bif P (JMS d z full s) (JMb d z full s) then JMb d z full s else s.b1⟩
end
def cv (P:Int → Int → Bool) (d z:Int) (full:Bool):Nat → CvS → Int × Int
  | 0,s => (s.b0,s.b1)
  | f + 1,s => bif (!full || decide (Int.ofNat s.i > 0)) && JRE s then (s.b0,s.b1) else cv P d z full f (cvN P d z full s)
def cv0 (a0 a1 b0 b1:Int):CvS := ⟨0,a0,a1,b0,b1⟩
def JhS (id t u:Nat) (x y:Int):Nat × SX.Obj := (id,.blk 54 [(t,I x),(u,I y)])
def crP (f4 f5 e0 e1 e2 e3 e4 e5 e6 r u w:Int):Bool := ZA e0 e1 e2 e3 e4 e5 e6 (JD f4 u) (JD f5 w) r
def crM (f0 f1 f2 f3 f4 f5 f6:Int) (f7:Bool) (e0 e1 e2 e3 e4 e5 e6:Int) (e7:Bool) (r:Int):Je :=
  [Jhk 30 31,Jgx 12 13 f0 f1 f2 f3 f4 f5 f6 f7,(0,.clo [.one (.ptr 1 0),.one (.ptr 2 0)]),Jgx 1 3 e0 e1 e2 e3 e4 e5 e6 e7,(2,.blk 3 [(11,I r)])]
def crF (z:Int) (f0 f1 f2 f3 f4 f5 f6:Int) (f7:Bool) (e0 e1 e2 e3 e4 e5 e6:Int) (e7:Bool) (r:Int):Fam CvS (Int × Int) where
  k := 60
  E s := [(44,ent 1000000000 (.one (I (Int.ofNat s.i)))),(15,ent 377 (.one (.ptr 374 0))),(14,ent 373 (.one (.ptr 370 0))),(12,ent 309 (.one (I z))),(10,ent 33 (.one (.ptr 30 0))),(5,ent 21 (.one (.ptr 12 0))),(4,ent 8 (.one (.clo 133 0)))]
  M s := JhS 374 1000000001 1000000002 s.b0 s.b1 :: JhS 370 1000000003 1000000004 s.a0 s.a1 :: crM f0 f1 f2 f3 f4 f5 f6 f7 e0 e1 e2 e3 e4 e5 e6 e7 r
  out t := .leaf (.exit 0) [(15,ent 377 (.one (.ptr 374 0))),(10,ent 33 (.one (.ptr 30 0))),(5,ent 21 (.one (.ptr 12 0)))] (JhS 374 386 387 t.1 t.2 :: crM f0 f1 f2 f3 f4 f5 f6 f7 e0 e1 e2 e3 e4 e5 e6 e7 r)
  fin s := cv (crP f4 f5 e0 e1 e2 e3 e4 e5 e6 r) f6 z f7 (24 - s.i) s
  next s _ := cvN (crP f4 f5 e0 e1 e2 e3 e4 e5 e6 r) f6 z f7 s
  J s := s.i ≤ 24 ∧ KI z
  μ s := 24 - s.i
section
variable (z f0 f1 f2 f3 f4 f5 f6:Int) (f7:Bool) (e0 e1 e2 e3 e4 e5 e6:Int) (e7:Bool) (r:Int) (s:CvS)
def JgW:Prop:=
 decide (Int.ofNat s.i < 24) = true
def Jg6:Prop:=
 (!f7 || decide (Int.ofNat s.i > 0)) = true
def Jgc:Prop:=
 (Jr (IntKind.i64.wrap (s.b0 - s.a0)) 1 && Jr (IntKind.i64.wrap (s.b1 - s.a1)) 1) = false
def Jcx:Prop:=
 -9223372036854775808 ≤ z ∧ z < 9223372036854775808
def JZJ:Prop:=
 ((crF z f0 f1 f2 f3 f4 f5 f6 f7 e0 e1 e2 e3 e4 e5 e6 e7 r).fin s).fst = s.b0 ∧ ((crF z f0 f1 f2 f3 f4 f5 f6 f7 e0 e1 e2 e3 e4 e5 e6 e7 r).fin s).snd = s.b1
def Jgg:Int:=
 J7 (Q0 s.a0 s.a1 s.b0 s.b1 f6) (Q1 s.a0 s.a1 s.b0 s.b1 f6) (Q0 s.a0 s.a1 s.b0 s.b1 f6) (Q1 s.a0 s.a1 s.b0 s.b1 f6)
def JJo:Int:=
 KD (Q0 s.a0 s.a1 s.b0 s.b1 f6) z (Jgg f6 s) 2
def JKG:Int:=
 KD (Q1 s.a0 s.a1 s.b0 s.b1 f6) z (Jgg f6 s) 2
def JM9:List Prop:=
 [JgW s → Jg6 f7 s → Jgc s → Jcx z,JgW s → (Jg6 f7 s → ((Jr (IntKind.i64.wrap (s.b0 - s.a0)) 1 && Jr (IntKind.i64.wrap (s.b1 - s.a1)) 1) = true → JZJ z f0 f1 f2 f3 f4 f5 f6 f7 e0 e1 e2 e3 e4 e5 e6 e7 r s) ∧ (Jgc s → (((crF z f0 f1 f2 f3 f4 f5 f6 f7 e0 e1 e2 e3 e4 e5 e6 e7 r).next s 1).i ≤ 24 ∧ Jcx z) ∧ (crF z f0 f1 f2 f3 f4 f5 f6 f7 e0 e1 e2 e3 e4 e5 e6 e7 r).μ ((crF z f0 f1 f2 f3 f4 f5 f6 f7 e0 e1 e2 e3 e4 e5 e6 e7 r).next s 1) < (crF z f0 f1 f2 f3 f4 f5 f6 f7 e0 e1 e2 e3 e4 e5 e6 e7 r).μ s ∧ (crF z f0 f1 f2 f3 f4 f5 f6 f7 e0 e1 e2 e3 e4 e5 e6 e7 r).fin ((crF z f0 f1 f2 f3 f4 f5 f6 f7 e0 e1 e2 e3 e4 e5 e6 e7 r).next s 1) = (crF z f0 f1 f2 f3 f4 f5 f6 f7 e0 e1 e2 e3 e4 e5 e6 e7 r).fin s ∧ Int.ofNat ((crF z f0 f1 f2 f3 f4 f5 f6 f7 e0 e1 e2 e3 e4 e5 e6 e7 r).next s 1).i = IntKind.i64.wrap (Int.ofNat s.i + 1) ∧ (((crF z f0 f1 f2 f3 f4 f5 f6 f7 e0 e1 e2 e3 e4 e5 e6 e7 r).next s 1).b0 = bif ZA e0 e1 e2 e3 e4 e5 e6 (JD f4 (JJo z f6 s)) (JD f5 (JKG z f6 s)) r then JJo z f6 s else s.b0) ∧ (((crF z f0 f1 f2 f3 f4 f5 f6 f7 e0 e1 e2 e3 e4 e5 e6 e7 r).next s 1).b1 = bif ZA e0 e1 e2 e3 e4 e5 e6 (JD f4 (JJo z f6 s)) (JD f5 (JKG z f6 s)) r then JKG z f6 s else s.b1) ∧ (((crF z f0 f1 f2 f3 f4 f5 f6 f7 e0 e1 e2 e3 e4 e5 e6 e7 r).next s 1).a0 = bif ZA e0 e1 e2 e3 e4 e5 e6 (JD f4 (JJo z f6 s)) (JD f5 (JKG z f6 s)) r then s.a0 else JJo z f6 s) ∧ ((crF z f0 f1 f2 f3 f4 f5 f6 f7 e0 e1 e2 e3 e4 e5 e6 e7 r).next s 1).a1 = bif ZA e0 e1 e2 e3 e4 e5 e6 (JD f4 (JJo z f6 s)) (JD f5 (JKG z f6 s)) r then s.a1 else JKG z f6 s)) ∧ ((!f7 || decide (Int.ofNat s.i > 0)) = false → (((crF z f0 f1 f2 f3 f4 f5 f6 f7 e0 e1 e2 e3 e4 e5 e6 e7 r).next s 2).i ≤ 24 ∧ Jcx z) ∧ (crF z f0 f1 f2 f3 f4 f5 f6 f7 e0 e1 e2 e3 e4 e5 e6 e7 r).μ ((crF z f0 f1 f2 f3 f4 f5 f6 f7 e0 e1 e2 e3 e4 e5 e6 e7 r).next s 2) < (crF z f0 f1 f2 f3 f4 f5 f6 f7 e0 e1 e2 e3 e4 e5 e6 e7 r).μ s ∧ (crF z f0 f1 f2 f3 f4 f5 f6 f7 e0 e1 e2 e3 e4 e5 e6 e7 r).fin ((crF z f0 f1 f2 f3 f4 f5 f6 f7 e0 e1 e2 e3 e4 e5 e6 e7 r).next s 2) = (crF z f0 f1 f2 f3 f4 f5 f6 f7 e0 e1 e2 e3 e4 e5 e6 e7 r).fin s ∧ Int.ofNat ((crF z f0 f1 f2 f3 f4 f5 f6 f7 e0 e1 e2 e3 e4 e5 e6 e7 r).next s 2).i = IntKind.i64.wrap (Int.ofNat s.i + 1) ∧ (((crF z f0 f1 f2 f3 f4 f5 f6 f7 e0 e1 e2 e3 e4 e5 e6 e7 r).next s 2).b0 = bif ZA e0 e1 e2 e3 e4 e5 e6 (JD f4 (IntKind.i64.wrap (0 - s.a0))) (JD f5 (IntKind.i64.wrap (0 - s.a1))) r then IntKind.i64.wrap (0 - s.a0) else s.b0) ∧ (((crF z f0 f1 f2 f3 f4 f5 f6 f7 e0 e1 e2 e3 e4 e5 e6 e7 r).next s 2).b1 = bif ZA e0 e1 e2 e3 e4 e5 e6 (JD f4 (IntKind.i64.wrap (0 - s.a0))) (JD f5 (IntKind.i64.wrap (0 - s.a1))) r then IntKind.i64.wrap (0 - s.a1) else s.b1) ∧ (((crF z f0 f1 f2 f3 f4 f5 f6 f7 e0 e1 e2 e3 e4 e5 e6 e7 r).next s 2).a0 = bif ZA e0 e1 e2 e3 e4 e5 e6 (JD f4 (IntKind.i64.wrap (0 - s.a0))) (JD f5 (IntKind.i64.wrap (0 - s.a1))) r then s.a0 else IntKind.i64.wrap (0 - s.a0)) ∧ ((crF z f0 f1 f2 f3 f4 f5 f6 f7 e0 e1 e2 e3 e4 e5 e6 e7 r).next s 2).a1 = bif ZA e0 e1 e2 e3 e4 e5 e6 (JD f4 (IntKind.i64.wrap (0 - s.a0))) (JD f5 (IntKind.i64.wrap (0 - s.a1))) r then s.a1 else IntKind.i64.wrap (0 - s.a1)),decide (Int.ofNat s.i < 24) = false → JZJ z f0 f1 f2 f3 f4 f5 f6 f7 e0 e1 e2 e3 e4 e5 e6 e7 r s]
end
theorem Jf7 (z f0 f1 f2 f3 f4 f5 f6:Int) (f7:Bool) (e0 e1 e2 e3 e4 e5 e6:Int) (e7:Bool) (r:Int) (s:CvS) (hNeeds:∀ pN ∈ (JM9 z f0 f1 f2 f3 f4 f5 f6 f7 e0 e1 e2 e3 e4 e5 e6 e7 r s),pN):Q3 (XF (crF z f0 f1 f2 f3 f4 f5 f6 f7 e0 e1 e2 e3 e4 e5 e6 e7 r) (QR Tryz.prog (JE Kk) Jag 136 0) 385 s) :=
  Q3.of (ps := (JM9 z f0 f1 f2 f3 f4 f5 f6 f7 e0 e1 e2 e3 e4 e5 e6 e7 r s)) (by kernel_rfl) (by kernel_rfl) hNeeds
theorem Jfp (P:Int → Int → Bool) (d z:Int) (full:Bool) (s:CvS) (h:s.i < 24):cv P d z full (24 - s.i) s = bif (!full || decide (Int.ofNat s.i > 0)) && JRE s then (s.b0,s.b1) else cv P d z full (24 - (s.i + 1)) (cvN P d z full s) := by
  have e:24 - s.i = (24 - (s.i + 1)) + 1 := by omega
  rw [e]; rfl
theorem JaI (z f0 f1 f2 f3 f4 f5 f6:Int) (f7:Bool) (e0 e1 e2 e3 e4 e5 e6:Int) (e7:Bool) (r:Int):Z0 (crF z f0 f1 f2 f3 f4 f5 f6 f7 e0 e1 e2 e3 e4 e5 e6 e7 r) (QR Tryz.prog (JE Kk) Jag 136 0) 385 := by
  intro s hJ
  obtain ⟨hi,hz⟩:s.i ≤ 24 ∧ KI z := hJ
  refine Jf7 z f0 f1 f2 f3 f4 f5 f6 f7 e0 e1 e2 e3 e4 e5 e6 e7 r s ?_
  unfold JM9
  intro p hp
  simp only [List.mem_cons,List.not_mem_nil,or_false] at hp
  have hw:IntKind.i64.wrap (Int.ofNat s.i + 1) = Int.ofNat (s.i + 1) := by
    rw [Wu (by simp; omega) (by simp; omega)]; rfl
  rcases hp with rfl | rfl | rfl
  · exact fun _ _ _ => hz
  · intro h0
    have hi':s.i < 24 := by
      have h0:decide (Int.ofNat s.i < 24) = true := h0
      simp at h0; omega
    have E1 := Jfp (crP f4 f5 e0 e1 e2 e3 e4 e5 e6 r) f6 z f7 s hi'
    refine ⟨fun g1 => ⟨fun g2 => ?_,fun g2 => ?_⟩,fun g1 => ?_⟩
    · have g1:(!f7 || decide (Int.ofNat s.i > 0)) = true := g1
      have g2:JRE s = true := g2
      rw [g1,g2] at E1
      have e2:(crF z f0 f1 f2 f3 f4 f5 f6 f7 e0 e1 e2 e3 e4 e5 e6 e7 r).fin s = (s.b0,s.b1) := E1
      unfold JZJ
      rw [e2]
      exact ⟨rfl,rfl⟩
    · have g1:(!f7 || decide (Int.ofNat s.i > 0)) = true := g1
      have g2:JRE s = false := g2
      rw [g1,g2] at E1
      have m0:JMS f6 z f7 s = JJo z f6 s := by unfold JMS; rw [g1]; rfl
      have m1:JMb f6 z f7 s = JKG z f6 s := by unfold JMb; rw [g1]; rfl
      refine ⟨⟨by show s.i + 1 ≤ 24; omega,hz⟩,?_,E1.symm,hw.symm,?_,?_,?_,?_⟩
      · show 24 - (s.i + 1) < 24 - s.i; omega
      all_goals (rw [← m0,← m1]; rfl)
    · have m0:JMS f6 z f7 s = IntKind.i64.wrap (0 - s.a0) := by unfold JMS; rw [g1]; rfl
      have m1:JMb f6 z f7 s = IntKind.i64.wrap (0 - s.a1) := by unfold JMb; rw [g1]; rfl
      rw [g1] at E1
      refine ⟨⟨by show s.i + 1 ≤ 24; omega,hz⟩,?_,E1.symm,hw.symm,?_,?_,?_,?_⟩
      · show 24 - (s.i + 1) < 24 - s.i; omega
      all_goals (rw [← m0,← m1]; rfl)
  · intro h
    have hi':24 - s.i = 0 := by
      simp at h; omega
    have e2:(crF z f0 f1 f2 f3 f4 f5 f6 f7 e0 e1 e2 e3 e4 e5 e6 e7 r).fin s = (s.b0,s.b1) := by
      show cv _ _ _ _ (24 - s.i) s = _
      rw [hi']; rfl
    unfold JZJ
    rw [e2]
    exact ⟨rfl,rfl⟩
def crL:Q5 := fun env mem m => match jl env 12,JI3 mem 374,JI3 mem 370,JcM mem 12,JcM mem 1,JI3 mem 2 with
  | some z,some [b0,b1],some [a0,a1],some ([f0,f1,f2,f3,f4,f5,f6],f7),some ([e0,e1,e2,e3,e4,e5,e6],e7),some [r] => qS (crF z f0 f1 f2 f3 f4 f5 f6 f7 e0 e1 e2 e3 e4 e5 e6 e7 r) 385 (fun _ _ => some (cv0 a0 a1 b0 b1)) env mem m
  | _,_,_,_,_,_ => none
def YY:FuncId → Nat → Option Q5 := kR Jag 136 6 crL
theorem JNo:Known Tryz.prog (JE Kk) YY := by
  refine Qc 0 JAg (by kernel_rfl) (Z5 fun env mem m x h => ?_)
  unfold crL at h
  have hlen:(QC Tryz.prog 136).length = 1 := by kernel_rfl
  split at h
  · exact ⟨_,XX (Qg XB JAg (by omega)) (JaI _ _ _ _ _ _ _ _ _ _ _ _ _ _ _ _ _ _),h⟩
  · cases h
def j4:Tpl := ⟨[.agg [.int .i64,.int .i64,.int .i64,.int .i64,.int .i64,.int .i64,.int .i64,.bool],.agg [.int .i64,.int .i64],.agg [.int .i64,.int .i64],.one (.int .i64),.one (.clo 133 0)],[(0,.clo [.one (.ptr 1 0),.one (.ptr 2 0)]),(1,.blk 91 [(3,.int .i64),(4,.int .i64),(5,.int .i64),(6,.int .i64),(7,.int .i64),(8,.int .i64),(9,.int .i64),(10,.bool)]),(2,.blk 3 [(11,.int .i64)])],12⟩
section
variable (f0 f1 f2 f3 f4 f5 f6:Int) (f7:Bool) (l0 l1 h0 h1 rr e0 e1 e2 e3 e4 e5 e6:Int) (e7:Bool) (r:Int)
def JJg:Int:=
 JD f4 ((crF (IntKind.i64.wrap (JFJ (J7 (J3 f0 f4) (J3 f1 f5) (J3 f0 f4) (J3 f1 f5)) 2 - IntKind.i64.wrap (f6 * rr))) f0 f1 f2 f3 f4 f5 f6 f7 e0 e1 e2 e3 e4 e5 e6 e7 r).fin (cv0 (J3 l0 f4) (J3 l1 f5) (J3 h0 f4) (J3 h1 f5))).fst
def JM4:Int:=
 JD f5 ((crF (IntKind.i64.wrap (JFJ (J7 (J3 f0 f4) (J3 f1 f5) (J3 f0 f4) (J3 f1 f5)) 2 - IntKind.i64.wrap (f6 * rr))) f0 f1 f2 f3 f4 f5 f6 f7 e0 e1 e2 e3 e4 e5 e6 e7 r).fin (cv0 (J3 l0 f4) (J3 l1 f5) (J3 h0 f4) (J3 h1 f5))).snd
def JNH:Int:=
 IntKind.i64.wrap (JFJ (J7 (J3 f0 f4) (J3 f1 f5) (J3 f0 f4) (J3 f1 f5)) 2 - IntKind.i64.wrap (f6 * rr))
def W4:List Prop:=
 [-9223372036854775808 ≤ J7 (J3 f0 f4) (J3 f1 f5) (J3 f0 f4) (J3 f1 f5) ∧ J7 (J3 f0 f4) (J3 f1 f5) (J3 f0 f4) (J3 f1 f5) < 9223372036854775808,(cv0 (J3 l0 f4) (J3 l1 f5) (J3 h0 f4) (J3 h1 f5)).i ≤ 24 ∧ -9223372036854775808 ≤ JNH f0 f1 f4 f5 f6 rr ∧ JNH f0 f1 f4 f5 f6 rr < 9223372036854775808,Int.ofNat (cv0 (J3 l0 f4) (J3 l1 f5) (J3 h0 f4) (J3 h1 f5)).i = 0,(cv0 (J3 l0 f4) (J3 l1 f5) (J3 h0 f4) (J3 h1 f5)).b0 = J3 h0 f4,(cv0 (J3 l0 f4) (J3 l1 f5) (J3 h0 f4) (J3 h1 f5)).b1 = J3 h1 f5,(cv0 (J3 l0 f4) (J3 l1 f5) (J3 h0 f4) (J3 h1 f5)).a0 = J3 l0 f4,(cv0 (J3 l0 f4) (J3 l1 f5) (J3 h0 f4) (J3 h1 f5)).a1 = J3 l1 f5]
end
theorem JUz {f0:Int} {f1:Int} {f4:Int} {f5:Int} {f6:Int} {l0:Int} {l1:Int} {h0:Int} {h1:Int} {rr:Int}:∀ q ∈ (W4 f0 f1 f4 f5 f6 l0 l1 h0 h1 rr),q := by
  unfold W4
  simp only [awc,awn,and_true]
  exact ⟨ZH _,⟨Nat.zero_le _,ZH _⟩,rfl,rfl,rfl,rfl,rfl⟩
def JMw (e0 e1 e2 e3 e4 e5 e6:Int) (e7:Bool) (r:Int):Je :=
 [(0,Obj.clo [SV.one (SC.ptr 1 0),SV.one (SC.ptr 2 0)]),(1,Obj.blk 91 [(3,Ci e0),(4,Ci e1),(5,Ci e2),(6,Ci e3),(7,Ci e4),(8,Ci e5),(9,Ci e6),(10,Cb e7)]),(2,Obj.blk 3 [(11,Ci r)])]
theorem JST (f0 f1 f2 f3 f4 f5 f6:Int) (f7:Bool) (l0 l1 h0 h1 rr e0 e1 e2 e3 e4 e5 e6:Int) (e7:Bool) (r:Int) (hNeeds:∀ pN ∈ (W4 f0 f1 f4 f5 f6 l0 l1 h0 h1 rr),pN):Runs (Jl (JE Kk) YY 136) (j4.args [.i f0,.i f1,.i f2,.i f3,.i f4,.i f5,.i f6,.b f7,.i l0,.i l1,.i h0,.i h1,.i rr,.i e0,.i e1,.i e2,.i e3,.i e4,.i e5,.i e6,.b e7,.i r]) (j4.memo [.i f0,.i f1,.i f2,.i f3,.i f4,.i f5,.i f6,.b f7,.i l0,.i l1,.i h0,.i h1,.i rr,.i e0,.i e1,.i e2,.i e3,.i e4,.i e5,.i e6,.b e7,.i r] []) j4.n (SV.agg [Ci (JJg f0 f1 f2 f3 f4 f5 f6 f7 l0 l1 h0 h1 rr e0 e1 e2 e3 e4 e5 e6 e7 r),Ci (JM4 f0 f1 f2 f3 f4 f5 f6 f7 l0 l1 h0 h1 rr e0 e1 e2 e3 e4 e5 e6 e7 r)]) (JMw e0 e1 e2 e3 e4 e5 e6 e7 r) :=
  Runs.of1 (ps := (W4 f0 f1 f4 f5 f6 l0 l1 h0 h1 rr)) (by kernel_rfl) hNeeds
def JD6:List Pm → Qs → Option CRes
  | [.i f0,.i f1,.i f2,.i f3,.i f4,.i f5,.i f6,.b f7,.i l0,.i l1,.i h0,.i h1,.i rr,.i e0,.i e1,.i e2,.i e3,.i e4,.i e5,.i e6,.b e7,.i r],[] => some ⟨SV.agg [Ci (JJg f0 f1 f2 f3 f4 f5 f6 f7 l0 l1 h0 h1 rr e0 e1 e2 e3 e4 e5 e6 e7 r),Ci (JM4 f0 f1 f2 f3 f4 f5 f6 f7 l0 l1 h0 h1 rr e0 e1 e2 e3 e4 e5 e6 e7 r)],
 JMw e0 e1 e2 e3 e4 e5 e6 e7 r,[],[],478⟩
  | _,_ => none
theorem JbP:Qf Tryz.prog 136 (JP j4 JD6) := by
  refine JI (JF JNo 136) fun ps ls r hr hn _ => ?_
  unfold JD6 at hr
  split at hr
  · cases hr; exact ⟨_,JST _ _ _ _ _ _ _ _ _ _ _ _ _ _ _ _ _ _ _ _ _ _ (fun p hp => JUz p hp),fun _ => rfl⟩
  · cases hr
def JLg:List (Nat × JU) := (136,JP j4 JD6) :: Kk
theorem JFL:Known Tryz.prog (JE JLg) YY := J4 JNo JbP
theorem JJ3 (A B C D X:Int) (hX:X = A ∨ X = B ∨ X = C ∨ X = D):bd 1048576 (bif !Jr A 1048576 then 0 else bif !Jr B 1048576 then 0 else bif !Jr C 1048576 then 0 else bif !Jr D 1048576 then 0 else X) := by
  have z:bd 1048576 0 := by decide
  cases hA:Jr A 1048576
  · exact z
  cases hB:Jr B 1048576
  · exact z
  cases hC:Jr C 1048576
  · exact z
  cases hD:Jr D 1048576
  · exact z
  have q:∀ {x},Jr x 1048576 = true → bd 1048576 x := fun h => (JBC (by omega) (by omega)).1 h
  rcases hX with rfl | rfl | rfl | rfl
  · exact q hA
  · exact q hB
  · exact q hC
  · exact q hD
theorem JeF (e0 e1 e2 e3 e4 e5 e6 r:Int):bd 1048576 (ZX e0 e1 e2 e3 e4 e5 e6 r) ∧ bd 1048576 (ZV e0 e1 e2 e3 e4 e5 e6 r) ∧ bd 1048576 (Zk e0 e1 e2 e3 e4 e5 e6 r) ∧ bd 1048576 (Zi e0 e1 e2 e3 e4 e5 e6 r) := by
  have z:bd 1048576 0 := by decide
  have key:∀ (p q s:Bool) (x:Int),bd 1048576 x → bd 1048576 (bif p then bif q then 0 else bif s then 0 else x else x) := fun p q s x h => by
    cases p <;> cases q <;> cases s <;> first | exact h | exact z
  refine ⟨key _ _ _ _ ?_,key _ _ _ _ ?_,key _ _ _ _ ?_,key _ _ _ _ ?_⟩
  · exact JJ3 _ _ _ _ _ (.inl rfl)
  · exact JJ3 _ _ _ _ _ (.inr (.inl rfl))
  · exact JJ3 _ _ _ _ _ (.inr (.inr (.inl rfl)))
  · exact JJ3 _ _ _ _ _ (.inr (.inr (.inr rfl)))
def kw:Tpl := ⟨[.agg [.int .i64,.int .i64,.int .i64,.int .i64,.int .i64,.int .i64,.int .i64,.bool],.agg [.int .i64,.int .i64,.int .i64,.int .i64,.int .i64,.int .i64,.int .i64,.bool],.one (.int .i64)],[],0⟩
section
variable (e0 e1 e2 e3 e4 e5 e6:Int) (e7:Bool) (f0 f1 f2 f3 f4 f5 f6:Int) (f7:Bool) (r:Int)
def zM:Int:=
 bif f6 == 0 then JCS (ZX f0 f1 f2 f3 f4 f5 f6 r) (ZV f0 f1 f2 f3 f4 f5 f6 r) (Zk f0 f1 f2 f3 f4 f5 f6 r) (Zi f0 f1 f2 f3 f4 f5 f6 r) e0 e1 e2 e3 e4 e5 e6 e7 r else JJg f0 f1 f2 f3 f4 f5 f6 f7 (ZX f0 f1 f2 f3 f4 f5 f6 r) (ZV f0 f1 f2 f3 f4 f5 f6 r) (Zk f0 f1 f2 f3 f4 f5 f6 r) (Zi f0 f1 f2 f3 f4 f5 f6 r) r e0 e1 e2 e3 e4 e5 e6 e7 r
def zc:Int:=
 bif f6 == 0 then JDB (ZX f0 f1 f2 f3 f4 f5 f6 r) (ZV f0 f1 f2 f3 f4 f5 f6 r) (Zk f0 f1 f2 f3 f4 f5 f6 r) (Zi f0 f1 f2 f3 f4 f5 f6 r) e0 e1 e2 e3 e4 e5 e6 e7 r else JM4 f0 f1 f2 f3 f4 f5 f6 f7 (ZX f0 f1 f2 f3 f4 f5 f6 r) (ZV f0 f1 f2 f3 f4 f5 f6 r) (Zk f0 f1 f2 f3 f4 f5 f6 r) (Zi f0 f1 f2 f3 f4 f5 f6 r) r e0 e1 e2 e3 e4 e5 e6 e7 r
def JMH:Int:=
 bif QB e0 e1 e2 e3 e4 e5 e6 r != 0 then 0 else bif QB f0 f1 f2 f3 f4 f5 f6 r != 0 then 0 else bif !ZA e0 e1 e2 e3 e4 e5 e6 (Zk f0 f1 f2 f3 f4 f5 f6 r) (Zi f0 f1 f2 f3 f4 f5 f6 r) r then 0 else bif !Jr (zM e0 e1 e2 e3 e4 e5 e6 e7 f0 f1 f2 f3 f4 f5 f6 f7 r) 1048576 || !Jr (zc e0 e1 e2 e3 e4 e5 e6 e7 f0 f1 f2 f3 f4 f5 f6 f7 r) 1048576 then 0 else bif !JF9 e0 e1 e2 e3 e4 e5 e6 e7 (zM e0 e1 e2 e3 e4 e5 e6 e7 f0 f1 f2 f3 f4 f5 f6 f7 r) (zc e0 e1 e2 e3 e4 e5 e6 e7 f0 f1 f2 f3 f4 f5 f6 f7 r) (ZX e0 e1 e2 e3 e4 e5 e6 r) (ZV e0 e1 e2 e3 e4 e5 e6 r) then 0 else zM e0 e1 e2 e3 e4 e5 e6 e7 f0 f1 f2 f3 f4 f5 f6 f7 r
def JJR:Int:=
 bif QB e0 e1 e2 e3 e4 e5 e6 r != 0 then 0 else bif QB f0 f1 f2 f3 f4 f5 f6 r != 0 then 0 else bif !ZA e0 e1 e2 e3 e4 e5 e6 (Zk f0 f1 f2 f3 f4 f5 f6 r) (Zi f0 f1 f2 f3 f4 f5 f6 r) r then 0 else bif !Jr (zM e0 e1 e2 e3 e4 e5 e6 e7 f0 f1 f2 f3 f4 f5 f6 f7 r) 1048576 || !Jr (zc e0 e1 e2 e3 e4 e5 e6 e7 f0 f1 f2 f3 f4 f5 f6 f7 r) 1048576 then 0 else bif !JF9 e0 e1 e2 e3 e4 e5 e6 e7 (zM e0 e1 e2 e3 e4 e5 e6 e7 f0 f1 f2 f3 f4 f5 f6 f7 r) (zc e0 e1 e2 e3 e4 e5 e6 e7 f0 f1 f2 f3 f4 f5 f6 f7 r) (ZX e0 e1 e2 e3 e4 e5 e6 r) (ZV e0 e1 e2 e3 e4 e5 e6 r) then 0 else zc e0 e1 e2 e3 e4 e5 e6 e7 f0 f1 f2 f3 f4 f5 f6 f7 r
def JPL:Int:=
 bif QB e0 e1 e2 e3 e4 e5 e6 r != 0 then QB e0 e1 e2 e3 e4 e5 e6 r else bif QB f0 f1 f2 f3 f4 f5 f6 r != 0 then QB f0 f1 f2 f3 f4 f5 f6 r else bif !ZA e0 e1 e2 e3 e4 e5 e6 (Zk f0 f1 f2 f3 f4 f5 f6 r) (Zi f0 f1 f2 f3 f4 f5 f6 r) r then 16 else bif !Jr (zM e0 e1 e2 e3 e4 e5 e6 e7 f0 f1 f2 f3 f4 f5 f6 f7 r) 1048576 || !Jr (zc e0 e1 e2 e3 e4 e5 e6 e7 f0 f1 f2 f3 f4 f5 f6 f7 r) 1048576 then 3 else bif !JF9 e0 e1 e2 e3 e4 e5 e6 e7 (zM e0 e1 e2 e3 e4 e5 e6 e7 f0 f1 f2 f3 f4 f5 f6 f7 r) (zc e0 e1 e2 e3 e4 e5 e6 e7 f0 f1 f2 f3 f4 f5 f6 f7 r) (ZX e0 e1 e2 e3 e4 e5 e6 r) (ZV e0 e1 e2 e3 e4 e5 e6 r) then 16 else 0
def zb:List Prop:=
 [(QB e0 e1 e2 e3 e4 e5 e6 r != 0) = false → (QB f0 f1 f2 f3 f4 f5 f6 r != 0) = false → (!ZA e0 e1 e2 e3 e4 e5 e6 (Zk f0 f1 f2 f3 f4 f5 f6 r) (Zi f0 f1 f2 f3 f4 f5 f6 r) r) = false → (f6 == 0) = true → (-1048576 ≤ ZX f0 f1 f2 f3 f4 f5 f6 r ∧ ZX f0 f1 f2 f3 f4 f5 f6 r ≤ 1048576) ∧ (-1048576 ≤ ZV f0 f1 f2 f3 f4 f5 f6 r ∧ ZV f0 f1 f2 f3 f4 f5 f6 r ≤ 1048576) ∧ (-1048576 ≤ Zk f0 f1 f2 f3 f4 f5 f6 r ∧ Zk f0 f1 f2 f3 f4 f5 f6 r ≤ 1048576) ∧ -1048576 ≤ Zi f0 f1 f2 f3 f4 f5 f6 r ∧ Zi f0 f1 f2 f3 f4 f5 f6 r ≤ 1048576]
end
theorem Jb6 {e0:Int} {e1:Int} {e2:Int} {e3:Int} {e4:Int} {e5:Int} {e6:Int} {f0:Int} {f1:Int} {f2:Int} {f3:Int} {f4:Int} {f5:Int} {f6:Int} {r:Int}:∀ q ∈ (zb e0 e1 e2 e3 e4 e5 e6 f0 f1 f2 f3 f4 f5 f6 r),q := by
  unfold zb
  simp only [awc,awn,and_true]
  intro _ _ _ _
  exact JeF _ _ _ _ _ _ _ _
theorem Jae (e0 e1 e2 e3 e4 e5 e6:Int) (e7:Bool) (f0 f1 f2 f3 f4 f5 f6:Int) (f7:Bool) (r:Int) (hNeeds:∀ pN ∈ (zb e0 e1 e2 e3 e4 e5 e6 f0 f1 f2 f3 f4 f5 f6 r),pN):Runs (Jl (JE JLg) YY 108) (kw.args [.i e0,.i e1,.i e2,.i e3,.i e4,.i e5,.i e6,.b e7,.i f0,.i f1,.i f2,.i f3,.i f4,.i f5,.i f6,.b f7,.i r]) (kw.memo [.i e0,.i e1,.i e2,.i e3,.i e4,.i e5,.i e6,.b e7,.i f0,.i f1,.i f2,.i f3,.i f4,.i f5,.i f6,.b f7,.i r] []) kw.n (SV.tup [(true,[Ci (JMH e0 e1 e2 e3 e4 e5 e6 e7 f0 f1 f2 f3 f4 f5 f6 f7 r),Ci (JJR e0 e1 e2 e3 e4 e5 e6 e7 f0 f1 f2 f3 f4 f5 f6 f7 r)]),(false,[Ci (JPL e0 e1 e2 e3 e4 e5 e6 e7 f0 f1 f2 f3 f4 f5 f6 f7 r)])]) ([]) :=
  Runs.of1 (ps := (zb e0 e1 e2 e3 e4 e5 e6 f0 f1 f2 f3 f4 f5 f6 r)) (by kernel_rfl) hNeeds
def JLi:List Pm → Qs → Option CRes
  | [.i e0,.i e1,.i e2,.i e3,.i e4,.i e5,.i e6,.b e7,.i f0,.i f1,.i f2,.i f3,.i f4,.i f5,.i f6,.b f7,.i r],[] => some ⟨SV.tup [(true,[Ci (JMH e0 e1 e2 e3 e4 e5 e6 e7 f0 f1 f2 f3 f4 f5 f6 f7 r),Ci (JJR e0 e1 e2 e3 e4 e5 e6 e7 f0 f1 f2 f3 f4 f5 f6 f7 r)]),(false,[Ci (JPL e0 e1 e2 e3 e4 e5 e6 e7 f0 f1 f2 f3 f4 f5 f6 f7 r)])],
 [],[],[],25762⟩
  | _,_ => none
theorem Jfs:Qf Tryz.prog 108 (JP kw JLi) := by
  refine JI (JF JFL 108) fun ps ls r hr hn _ => ?_
  unfold JLi at hr
  split at hr
  · cases hr; exact ⟨_,Jae _ _ _ _ _ _ _ _ _ _ _ _ _ _ _ _ _ (fun p hp => Jb6 p hp),fun _ => rfl⟩
  · cases hr
def JW1:List (Nat × JU) := (108,JP kw JLi) :: JLg
theorem JJY:Known Tryz.prog (JE JW1) YY := J4 JFL Jfs
def Wc:Tpl := ⟨[.agg pI],[],0⟩
def Xk (k f0 f1 f2 t0 t1 t2 p c0 c1 c2 d:Int) (fu:Bool):Int :=
 bif k != 3 || !zy p || !Za f0 f1 f2 || !Za t0 t1 t2 || !Za c0 c1 c2 || d != 1 && d != -1 || JY p f0 f1 f2 != JY p c0 c1 c2 then 1 else bif decide (J7 (QE f0 f1 f2 p c0 c1 c2) (QF f0 f1 f2 p c0 c1 c2) (QE f0 f1 f2 p c0 c1 c2) (QF f0 f1 f2 p c0 c1 c2) < 64) || decide (J7 (QE t0 t1 t2 p c0 c1 c2) (QF t0 t1 t2 p c0 c1 c2) (QE t0 t1 t2 p c0 c1 c2) (QF t0 t1 t2 p c0 c1 c2) < 64) || !Kh (J7 (QE f0 f1 f2 p c0 c1 c2) (QF f0 f1 f2 p c0 c1 c2) (QE f0 f1 f2 p c0 c1 c2) (QF f0 f1 f2 p c0 c1 c2)) (J7 (QE t0 t1 t2 p c0 c1 c2) (QF t0 t1 t2 p c0 c1 c2) (QE t0 t1 t2 p c0 c1 c2) (QF t0 t1 t2 p c0 c1 c2)) || fu && !(QE f0 f1 f2 p c0 c1 c2 == QE t0 t1 t2 p c0 c1 c2 && QF f0 f1 f2 p c0 c1 c2 == QF t0 t1 t2 p c0 c1 c2) || !fu && jv (QE f0 f1 f2 p c0 c1 c2) (QF f0 f1 f2 p c0 c1 c2) (QE t0 t1 t2 p c0 c1 c2) (QF t0 t1 t2 p c0 c1 c2) then 12 else 0
theorem JUk (k bl f0 f1 f2 t0 t1 t2 p c0 c1 c2 d:Int) (fu:Bool) (fe:Int) (pr:Bool) (si ra be n sp:Int) (on:Bool):Runs (Jl (JE JW1) YY 95) (Wc.args [.i k,.i bl,.i f0,.i f1,.i f2,.i t0,.i t1,.i t2,.i p,.i c0,.i c1,.i c2,.i d,.b fu,.i fe,.b pr,.i si,.i ra,.i be,.i n,.i sp,.b on]) (Wc.memo [.i k,.i bl,.i f0,.i f1,.i f2,.i t0,.i t1,.i t2,.i p,.i c0,.i c1,.i c2,.i d,.b fu,.i fe,.b pr,.i si,.i ra,.i be,.i n,.i sp,.b on] []) Wc.n (SV.one (Ci (Xk k f0 f1 f2 t0 t1 t2 p c0 c1 c2 d fu))) ([]) :=
  Runs.of1 (ps := []) (by kernel_rfl) (by simp)
def JDE:List Pm → Qs → Option CRes
  | [.i k,.i bl,.i f0,.i f1,.i f2,.i t0,.i t1,.i t2,.i p,.i c0,.i c1,.i c2,.i d,.b fu,.i fe,.b pr,.i si,.i ra,.i be,.i n,.i sp,.b on],[] => some ⟨SV.one (Ci (Xk k f0 f1 f2 t0 t1 t2 p c0 c1 c2 d fu)),
 [],[],[],1152⟩
  | _,_ => none
theorem Jbg:Qf Tryz.prog 95 (JP Wc JDE) := by
  refine JI (JF JJY 95) fun ps ls r hr hn _ => ?_
  unfold JDE at hr
  split at hr
  · cases hr; exact ⟨_,JUk _ _ _ _ _ _ _ _ _ _ _ _ _ _ _ _ _ _ _ _ _ _,fun _ => rfl⟩
  · cases hr
def JKV:List (Nat × JU) := (95,JP Wc JDE) :: JW1
theorem JDO:Known Tryz.prog (JE JKV) YY := J4 JJY Jbg
def Yl:Tpl := ⟨[.one (.int .i64)],[],0⟩
def J5 (k:Int):Bool :=
 decide (k ≥ 1) && decide (k ≤ 6)
theorem JRB (k:Int):Runs (Jl (JE JKV) YY 46) (Yl.args [.i k]) (Yl.memo [.i k] []) Yl.n (SV.one (Cb (J5 k))) ([]) :=
  Runs.of1 (ps := []) (by kernel_rfl) (by simp)
def kg:List Pm → Qs → Option CRes
  | [.i k],[] => some ⟨SV.one (Cb (J5 k)),
 [],[],[],8⟩
  | _,_ => none
theorem JWL:Qf Tryz.prog 46 (JP Yl kg) := by
  refine JI (JF JDO 46) fun ps ls r hr hn _ => ?_
  unfold kg at hr
  split at hr
  · cases hr; exact ⟨_,JRB _,fun _ => rfl⟩
  · cases hr
def JGm:List (Nat × JU) := (46,JP Yl kg) :: JKV
theorem JBi:Known Tryz.prog (JE JGm) YY := J4 JDO JWL
def WZ:Tpl := ⟨[.agg pI],[],0⟩
def JBZ:List GK := [.v QV]
section
variable (x:List GC)
def JNO:Bool:=
 bif xi x 0 == 1 then xi x 14 == 0 && !xb x 15 && xi x 18 == 0 else bif decide (xi x 14 < 1) || decide (xi x 14 > 60000000) then false else bif bif xi x 0 == 2 then xi x 0 == 2 else xi x 0 == 3 then decide (xi x 18 ≥ 0) && decide (xi x 18 ≤ 1000) else bif bif xi x 0 == 5 then xi x 0 == 5 else xi x 0 == 6 then xi x 18 == 0 && xb x 15 else xi x 18 == 0
def JMz:Bool:=
 bif xi x 0 == 6 then bif xi x 19 != 3 && xi x 19 != 4 then false else JNO x else bif xi x 19 != 0 then false else JNO x
def JGv:Bool:=
 decide (xi x 19 ≥ 0)
def QP:Bool:=
 bif decide (xi x 1 < 0) || decide (xi x 1 ≥ 2000) then false else bif J5 (xi x 0) then bif !Za (xi x 2) (xi x 3) (xi x 4) || !Za (xi x 5) (xi x 6) (xi x 7) || xi x 20 != 0 || xb x 21 || !bif xi x 16 == 0 then xi x 17 == 0 && (xi x 8 == 0 || xi x 0 == 3) else (xi x 0 == 1 || xi x 0 == 2 || xi x 0 == 3) && zy (xi x 8) && (xi x 16 == 1 || xi x 16 == -1) && decide (xi x 17 ≥ 0) && decide (xi x 17 ≤ 32768) then false else bif xi x 0 == 3 then bif Xk (xi x 0) (xi x 2) (xi x 3) (xi x 4) (xi x 5) (xi x 6) (xi x 7) (xi x 8) (xi x 9) (xi x 10) (xi x 11) (xi x 12) (xb x 13) != 0 then false else JMz x else bif !(xi x 9 == 0 && (xi x 10 == 0 && xi x 11 == 0)) || xi x 12 != 0 || xb x 13 then false else JMz x else bif !(xi x 0 == xi x 0 && (xi x 1 == xi x 1 && (xi x 2 == 0 && (xi x 3 == 0 && (xi x 4 == 0 && (xi x 5 == 0 && (xi x 6 == 0 && (xi x 7 == 0 && (xi x 8 == 0 && (xi x 9 == 0 && (xi x 10 == 0 && (xi x 11 == 0 && (xi x 12 == 0 && (xb x 13 == false && (xi x 14 == 0 && (xb x 15 == false && (xi x 16 == 0 && (xi x 17 == 0 && (xi x 18 == 0 && (xi x 19 == xi x 19 && (xi x 20 == xi x 20 && xb x 21 == xb x 21))))))))))))))))))))) then false else bif xi x 0 == 8 then !xb x 21 && decide (xi x 19 ≥ 3) && decide (xi x 19 ≤ 5) && decide (xi x 20 ≥ 0) && decide (xi x 20 ≤ 30000) && (xi x 19 != 5 || xi x 20 == 0) else bif xi x 0 == 9 then xi x 20 == 0 && (xi x 19 == 7 || xi x 19 == 8) else bif xi x 0 == 10 then xi x 20 == 0 && JGv x && decide (xi x 19 < 16) else bif xi x 0 == 7 then !xb x 21 && xi x 20 == 0 && JGv x && decide (xi x 19 ≤ 60000) else bif xi x 0 == 11 then !xb x 21 && xi x 20 == 0 && JGv x && decide (xi x 19 ≤ 32) else (bif xi x 0 == 12 then xi x 0 == 12 else bif xi x 0 == 13 then xi x 0 == 13 else xi x 0 == 14) && (!xb x 21 && xi x 20 == 0 && xi x 19 == 0)
end
theorem JUi (x:List GC):Runs (Jl (JE JGm) YY 47) (WZ.args (Jp JBZ [.v x])) (WZ.memo (Jp JBZ [.v x]) []) WZ.n (SV.one (Cb (QP x))) ([]) :=
  Runs.of1 (ps := []) (by kernel_rfl) (by simp)
def JD2:List Gm → Qs → Option CRes
  | [.v x],[] => some ⟨SV.one (Cb (QP x)),
 [],[],[],1925⟩
  | _,_ => none
theorem Jb4:Qf Tryz.prog 47 (X5 JBZ WZ JD2) := by
  refine ZN (JF JBi 47) fun ps ls r hr hn _ => ?_
  unfold JD2 at hr
  split at hr
  · cases hr; exact ⟨_,JUi _,fun _ => rfl⟩
  · cases hr
def JM7:List (Nat × JU) := (47,X5 JBZ WZ JD2) :: JGm
theorem JFA:Known Tryz.prog (JE JM7) YY := J4 JBi Jb4
def zD:Tpl := ⟨[.agg pI,.one (.int .i64),.one (.int .i64)],[],0⟩
def JFX:List GK := [.v QV,.i,.i]
section
variable (x:List GC) (pl ra:Int)
def JFM:Int:=
 IntKind.i64.wrap (J9 pl (xi x 5) (xi x 6) (xi x 7) - J9 pl (xi x 2) (xi x 3) (xi x 4))
def JDu:Int:=
 IntKind.i64.wrap (J8 pl (xi x 5) (xi x 6) (xi x 7) - J8 pl (xi x 2) (xi x 3) (xi x 4))
def JR:Bool:=
 xi x 0 == 2 && JY pl (xi x 2) (xi x 3) (xi x 4) == JY pl (xi x 5) (xi x 6) (xi x 7) && decide (J7 (JFM x pl) (JDu x pl) (JFM x pl) (JDu x pl) > 0) && decide (J7 (JFM x pl) (JDu x pl) (JFM x pl) (JDu x pl) ≥ IntKind.i64.wrap (ra * ra))
end
theorem JV8 (x:List GC) (pl ra:Int):Runs (Jl (JE JM7) YY 65) (zD.args (Jp JFX [.v x,.i pl,.i ra])) (zD.memo (Jp JFX [.v x,.i pl,.i ra]) []) zD.n (SV.one (Cb (JR x pl ra))) ([]) :=
  Runs.of1 (ps := []) (by kernel_rfl) (by simp)
def JGL:List Gm → Qs → Option CRes
  | [.v x,.i pl,.i ra],[] => some ⟨SV.one (Cb (JR x pl ra)),
 [],[],[],254⟩
  | _,_ => none
theorem Jes:Qf Tryz.prog 65 (X5 JFX zD JGL) := by
  refine ZN (JF JFA 65) fun ps ls r hr hn _ => ?_
  unfold JGL at hr
  split at hr
  · cases hr; exact ⟨_,JV8 _ _ _,fun _ => rfl⟩
  · cases hr
def JIy:List (Nat × JU) := (65,X5 JFX zD JGL) :: JM7
theorem JHa:Known Tryz.prog (JE JIy) YY := J4 JFA Jes
def XH:List (Nat × PO) := [(0,.blk 66 [(3,.int .i64),(4,.int .i64),(5,.int .i64),(6,.int .i64),(7,.int .i64),(8,.int .i64),(9,.int .i64),(10,.int .i64),(11,.int .i64),(12,.int .i64),(13,.int .i64),(14,.int .i64),(15,.int .i64),(16,.bool),(17,.int .i64),(18,.bool),(19,.int .i64),(20,.int .i64),(21,.int .i64),(22,.int .i64),(23,.int .i64),(24,.bool),(25,.int .i64),(26,.int .i64),(27,.int .i64),(28,.int .i64),(29,.int .i64),(30,.int .i64),(31,.int .i64),(32,.int .i64),(33,.int .i64),(34,.int .i64),(35,.int .i64),(36,.int .i64),(37,.int .i64),(38,.bool),(39,.int .i64),(40,.bool),(41,.int .i64),(42,.int .i64),(43,.int .i64),(44,.int .i64),(45,.int .i64),(46,.bool),(47,.int .i64),(48,.int .i64),(49,.bool),(50,.wh 1),(51,.bool),(52,.bool),(53,.bool),(54,.bool),(55,.int .i64),(56,.int .i64),(57,.int .i64),(58,.wh 2),(59,.int .i64)]),(1,.row false 40 22 60 ckI),(2,.row false 40 22 61 ckI)]
def YE:Tpl := ⟨[.one (.ptr 0 0),.agg pI,.agg [.int .i64,.int .i64],.one (.int .i64),.one (.int .i64),.one (.bool)],XH,62⟩
def JBF:List GK := [.v QV,.i,.i,.i,.i,.b,.v QV,.v QV,.i,.i,.b,.b,.b,.b,.b,.i,.i,.i,.i]
section
variable (x:List GC) (u w lo hi:Int) (al:Bool) (l:List GC) (a0 a1:Int) (O:LL)
def JYQ:Int:=
 bif al || !(QS (xi l 8) a0 a1 lo == QS (xi l 8) u w hi && (QT (xi l 8) a0 a1 lo == QT (xi l 8) u w hi && QU (xi l 8) a0 a1 lo == QU (xi l 8) u w hi)) then u else u
def JYk:Int:=
 bif al || !(QS (xi l 8) a0 a1 lo == QS (xi l 8) u w hi && (QT (xi l 8) a0 a1 lo == QT (xi l 8) u w hi && QU (xi l 8) a0 a1 lo == QU (xi l 8) u w hi)) then w else w
def XG:LL:=
 bif al || !(QS (xi l 8) a0 a1 lo == QS (xi l 8) u w hi && (QT (xi l 8) a0 a1 lo == QT (xi l 8) u w hi && QU (xi l 8) a0 a1 lo == QU (xi l 8) u w hi)) then O ++ [[xi x 0,xi x 1,QS (xi l 8) a0 a1 lo,QT (xi l 8) a0 a1 lo,QU (xi l 8) a0 a1 lo,QS (xi l 8) u w hi,QT (xi l 8) u w hi,QU (xi l 8) u w hi,bif xi x 0 != 3 then 0 else xi x 8,xi x 9,xi x 10,xi x 11,xi x 12,bif xb x 13 then 1 else 0,xi x 14,bif xb x 15 then 1 else 0,0,0,xi x 18,xi x 19,xi x 20,bif xb x 21 then 1 else 0]] else O
def Wr:List Prop:=
 [(al || !(QS (xi l 8) a0 a1 lo == QS (xi l 8) u w hi && (QT (xi l 8) a0 a1 lo == QT (xi l 8) u w hi && QU (xi l 8) a0 a1 lo == QU (xi l 8) u w hi))) = true → (O.length + 1) * 176 ≤ 140737488355328 ∧ O.length + 1 ≤ 9223372036854775807]
end
theorem JaE {u:Int} {w:Int} {lo:Int} {hi:Int} {al:Bool} {l:List GC} {a0:Int} {a1:Int} {O:LL} (hW:∀ q ∈ ([O.length ≤ 1000000]:List Prop),q):∀ q ∈ (Wr u w lo hi al l a0 a1 O),q := by
  simp only [awc,awn,and_true] at hW
  unfold Wr
  simp only [awc,awn,and_true]
  exact fun _ => ⟨by omega,by omega⟩
def JYh (x:List GC) (u w lo hi:Int) (al:Bool) (l y:List GC) (a0 a1:Int) (tr op cl en mo:Bool) (la0 la1 la2 er:Int) (C O:LL):Je :=
 [(0,Obj.blk 66 [(3,Ci (xi l 0)),(4,Ci (xi l 1)),(5,Ci (xi l 2)),(6,Ci (xi l 3)),(7,Ci (xi l 4)),(8,Ci (xi l 5)),(9,Ci (xi l 6)),(10,Ci (xi l 7)),(11,Ci (xi l 8)),(12,Ci (xi l 9)),(13,Ci (xi l 10)),(14,Ci (xi l 11)),(15,Ci (xi l 12)),(16,Cb (xb l 13)),(17,Ci (xi l 14)),(18,Cb (xb l 15)),(19,Ci (xi l 16)),(20,Ci (xi l 17)),(21,Ci (xi l 18)),(22,Ci (xi l 19)),(23,Ci (xi l 20)),(24,Cb (xb l 21)),(25,Ci (xi y 0)),(26,Ci (xi y 1)),(27,Ci (xi y 2)),(28,Ci (xi y 3)),(29,Ci (xi y 4)),(30,Ci (xi y 5)),(31,Ci (xi y 6)),(32,Ci (xi y 7)),(33,Ci (xi y 8)),(34,Ci (xi y 9)),(35,Ci (xi y 10)),(36,Ci (xi y 11)),(37,Ci (xi y 12)),(38,Cb (xb y 13)),(39,Ci (xi y 14)),(40,Cb (xb y 15)),(41,Ci (xi y 16)),(42,Ci (xi y 17)),(43,Ci (xi y 18)),(44,Ci (xi y 19)),(45,Ci (xi y 20)),(46,Cb (xb y 21)),(593,Ci (JYQ u w lo hi al l a0 a1)),(594,Ci (JYk u w lo hi al l a0 a1)),(49,Cb tr),(50,SC.wh 1),(51,Cb op),(52,Cb cl),(53,Cb en),(54,Cb mo),(55,Ci la0),(56,Ci la1),(57,Ci la2),(591,SC.wh 589),(59,Ci er)]),(589,Obj.row false 40 22 (RowC.lst 592 ckI (XG x u w lo hi al l a0 a1 O))),(1,Obj.row false 40 22 (RowC.lst 60 ckI C))]
theorem Jb9 (x:List GC) (u w lo hi:Int) (al:Bool) (l y:List GC) (a0 a1:Int) (tr op cl en mo:Bool) (la0 la1 la2 er:Int) (C O:LL) (hNeeds:∀ pN ∈ (Wr u w lo hi al l a0 a1 O),pN):Runs (Jl (JE JIy) YY 72) (YE.args (Jp JBF [.v x,.i u,.i w,.i lo,.i hi,.b al,.v l,.v y,.i a0,.i a1,.b tr,.b op,.b cl,.b en,.b mo,.i la0,.i la1,.i la2,.i er])) (YE.memo (Jp JBF [.v x,.i u,.i w,.i lo,.i hi,.b al,.v l,.v y,.i a0,.i a1,.b tr,.b op,.b cl,.b en,.b mo,.i la0,.i la1,.i la2,.i er]) [C,O]) YE.n (SV.tup []) (JYh x u w lo hi al l y a0 a1 tr op cl en mo la0 la1 la2 er C O) :=
  Runs.of1 (ps := (Wr u w lo hi al l a0 a1 O)) (by kernel_rfl) hNeeds
def JKQ:List Gm → Qs → Option CRes
  | [.v x,.i u,.i w,.i lo,.i hi,.b al,.v l,.v y,.i a0,.i a1,.b tr,.b op,.b cl,.b en,.b mo,.i la0,.i la1,.i la2,.i er],[C,O] => some ⟨SV.tup [],[(0,Obj.blk 66 [(3,Ci (xi l 0)),(4,Ci (xi l 1)),(5,Ci (xi l 2)),(6,Ci (xi l 3)),(7,Ci (xi l 4)),(8,Ci (xi l 5)),(9,Ci (xi l 6)),(10,Ci (xi l 7)),(11,Ci (xi l 8)),(12,Ci (xi l 9)),(13,Ci (xi l 10)),(14,Ci (xi l 11)),(15,Ci (xi l 12)),(16,Cb (xb l 13)),(17,Ci (xi l 14)),(18,Cb (xb l 15)),(19,Ci (xi l 16)),(20,Ci (xi l 17)),(21,Ci (xi l 18)),(22,Ci (xi l 19)),(23,Ci (xi l 20)),(24,Cb (xb l 21)),(25,Ci (xi y 0)),(26,Ci (xi y 1)),(27,Ci (xi y 2)),(28,Ci (xi y 3)),(29,Ci (xi y 4)),(30,Ci (xi y 5)),(31,Ci (xi y 6)),(32,Ci (xi y 7)),(33,Ci (xi y 8)),(34,Ci (xi y 9)),(35,Ci (xi y 10)),(36,Ci (xi y 11)),(37,Ci (xi y 12)),(38,Cb (xb y 13)),(39,Ci (xi y 14)),(40,Cb (xb y 15)),(41,Ci (xi y 16)),(42,Ci (xi y 17)),(43,Ci (xi y 18)),(44,Ci (xi y 19)),(45,Ci (xi y 20)),(46,Cb (xb y 21)),(593,Ci (u)),(594,Ci (w)),(49,Cb tr),(50,SC.wh 1),(51,Cb op),(52,Cb cl),(53,Cb en),(54,Cb mo),(55,Ci la0),(56,Ci la1),(57,Ci la2),(591,SC.wh 589),(59,Ci er)]),(589,Obj.row false 40 22 (RowC.lst 592 ckI (XG x u w lo hi al l a0 a1 O))),(1,Obj.row false 40 22 (RowC.lst 60 ckI C))],[O.length ≤ 1000000],[],595⟩
  | _,_ => none
theorem JRk (x:List GC) (u w lo hi:Int) (al:Bool) (l y:List GC) (a0 a1:Int) (tr op cl en mo:Bool) (la0 la1 la2 er:Int) (C O:LL) (hNeeds:∀ pN ∈ (Wr u w lo hi al l a0 a1 O),pN):Runs (Jl (JE JIy) YY 72) (YE.args (Jp JBF [.v x,.i u,.i w,.i lo,.i hi,.b al,.v l,.v y,.i a0,.i a1,.b tr,.b op,.b cl,.b en,.b mo,.i la0,.i la1,.i la2,.i er])) (YE.memo (Jp JBF [.v x,.i u,.i w,.i lo,.i hi,.b al,.v l,.v y,.i a0,.i a1,.b tr,.b op,.b cl,.b en,.b mo,.i la0,.i la1,.i la2,.i er]) [C,O]) YE.n (SV.tup [])
    ([(0,
     Obj.blk 66
     [(3,SC.int IntKind.i64 (SI.v (xi l 0))),(4,SC.int IntKind.i64 (SI.v (xi l 1))),(5,SC.int IntKind.i64 (SI.v (xi l 2))),(6,SC.int IntKind.i64 (SI.v (xi l 3))),
     (7,SC.int IntKind.i64 (SI.v (xi l 4))),(8,SC.int IntKind.i64 (SI.v (xi l 5))),(9,SC.int IntKind.i64 (SI.v (xi l 6))),(10,SC.int IntKind.i64 (SI.v (xi l 7))),
     (11,SC.int IntKind.i64 (SI.v (xi l 8))),(12,SC.int IntKind.i64 (SI.v (xi l 9))),(13,SC.int IntKind.i64 (SI.v (xi l 10))),(14,SC.int IntKind.i64 (SI.v (xi l 11))),
     (15,SC.int IntKind.i64 (SI.v (xi l 12))),(16,SC.bool (SB.v (xb l 13))),(17,SC.int IntKind.i64 (SI.v (xi l 14))),(18,SC.bool (SB.v (xb l 15))),(19,SC.int IntKind.i64 (SI.v (xi l 16))),
     (20,SC.int IntKind.i64 (SI.v (xi l 17))),(21,SC.int IntKind.i64 (SI.v (xi l 18))),(22,SC.int IntKind.i64 (SI.v (xi l 19))),(23,SC.int IntKind.i64 (SI.v (xi l 20))),
     (24,SC.bool (SB.v (xb l 21))),(25,SC.int IntKind.i64 (SI.v (xi y 0))),(26,SC.int IntKind.i64 (SI.v (xi y 1))),(27,SC.int IntKind.i64 (SI.v (xi y 2))),
     (28,SC.int IntKind.i64 (SI.v (xi y 3))),(29,SC.int IntKind.i64 (SI.v (xi y 4))),(30,SC.int IntKind.i64 (SI.v (xi y 5))),(31,SC.int IntKind.i64 (SI.v (xi y 6))),
     (32,SC.int IntKind.i64 (SI.v (xi y 7))),(33,SC.int IntKind.i64 (SI.v (xi y 8))),(34,SC.int IntKind.i64 (SI.v (xi y 9))),(35,SC.int IntKind.i64 (SI.v (xi y 10))),
     (36,SC.int IntKind.i64 (SI.v (xi y 11))),(37,SC.int IntKind.i64 (SI.v (xi y 12))),(38,SC.bool (SB.v (xb y 13))),(39,SC.int IntKind.i64 (SI.v (xi y 14))),(40,SC.bool (SB.v (xb y 15))),
     (41,SC.int IntKind.i64 (SI.v (xi y 16))),(42,SC.int IntKind.i64 (SI.v (xi y 17))),(43,SC.int IntKind.i64 (SI.v (xi y 18))),(44,SC.int IntKind.i64 (SI.v (xi y 19))),
     (45,SC.int IntKind.i64 (SI.v (xi y 20))),(46,SC.bool (SB.v (xb y 21))),(593,SC.int IntKind.i64 (SI.v (u))),
     (594,SC.int IntKind.i64 (SI.v (w))),(49,SC.bool (SB.v tr)),(50,SC.wh 1),(51,SC.bool (SB.v op)),(52,SC.bool (SB.v cl)),(53,SC.bool (SB.v en)),
     (54,SC.bool (SB.v mo)),(55,SC.int IntKind.i64 (SI.v la0)),(56,SC.int IntKind.i64 (SI.v la1)),(57,SC.int IntKind.i64 (SI.v la2)),(591,SC.wh 589),(59,SC.int IntKind.i64 (SI.v er))]),
    (589,
     Obj.row false 40 22
     (RowC.lst 592
     [CK.int IntKind.i64,CK.int IntKind.i64,CK.int IntKind.i64,CK.int IntKind.i64,CK.int IntKind.i64,CK.int IntKind.i64,CK.int IntKind.i64,CK.int IntKind.i64,CK.int IntKind.i64,
     CK.int IntKind.i64,CK.int IntKind.i64,CK.int IntKind.i64,CK.int IntKind.i64,CK.bool,CK.int IntKind.i64,CK.bool,CK.int IntKind.i64,CK.int IntKind.i64,CK.int IntKind.i64,
     CK.int IntKind.i64,CK.int IntKind.i64,CK.bool]
     (XG x u w lo hi al l a0 a1 O))),
    (1,
     Obj.row false 40 22
     (RowC.lst 60
     [CK.int IntKind.i64,CK.int IntKind.i64,CK.int IntKind.i64,CK.int IntKind.i64,CK.int IntKind.i64,CK.int IntKind.i64,CK.int IntKind.i64,CK.int IntKind.i64,CK.int IntKind.i64,
     CK.int IntKind.i64,CK.int IntKind.i64,CK.int IntKind.i64,CK.int IntKind.i64,CK.bool,CK.int IntKind.i64,CK.bool,CK.int IntKind.i64,CK.int IntKind.i64,CK.int IntKind.i64,
     CK.int IntKind.i64,CK.int IntKind.i64,CK.bool]
     C))]) :=
  (Jb9 x u w lo hi al l y a0 a1 tr op cl en mo la0 la1 la2 er C O hNeeds).to (by first | rfl | (simp only [])) ((by simp only [JYh,Ci,Cb,ckI,JYQ,JYk,Bool.cond_self]))
theorem JfR:Qf Tryz.prog 72 (X5 JBF YE JKQ) := by
  refine ZN (JF JHa 72) fun ps ls r hr hn _ => ?_
  unfold JKQ at hr
  split at hr
  · cases hr; exact ⟨_,JRk _ _ _ _ _ _ _ _ _ _ _ _ _ _ _ _ _ _ _ _ _ (JaE (by exact hn)),fun _ => rfl⟩
  · cases hr
def JWe:List (Nat × JU) := (72,X5 JBF YE JKQ) :: JIy
theorem JLy:Known Tryz.prog (JE JWe) YY := J4 JHa JfR
theorem KO (x:List GC) (u w lo hi:Int) (al:Bool) (l:List GC) (a0 a1:Int) (O:LL):O.length ≤ (XG x u w lo hi al l a0 a1 O).length ∧ (XG x u w lo hi al l a0 a1 O).length ≤ O.length + 1 := by
  unfold XG
  generalize (al || _:Bool) = c
  cases c
  · exact ⟨Nat.le_refl _,Nat.le_succ _⟩
  · simp only [cond_true,List.length_append,List.length_cons,List.length_nil]; omega
def Wg:Tpl := ⟨[.one (.ptr 0 0),.agg [.int .i64,.int .i64],.one (.bool)],XH,62⟩
def JBT:List GK := [.i,.i,.b,.v QV,.v QV,.i,.i,.b,.b,.b,.b,.b,.i,.i,.i,.i]
def JMo (u:Int) (l y:List GC):Int :=
 IntKind.i64.wrap (u - J9 (xi l 8) (xi y 9) (xi y 10) (xi y 11))
def JNM (w:Int) (l y:List GC):Int :=
 IntKind.i64.wrap (w - J8 (xi l 8) (xi y 9) (xi y 10) (xi y 11))
def WL (u w:Int) (tm:Bool) (l y:List GC) (a0 a1:Int) (tr:Bool):Bool :=
 bif tr then bif !WJ (xi y 2) (xi y 3) (xi y 4) (xi y 5) (xi y 6) (xi y 7) (xi y 8) (xi y 9) (xi y 10) (xi y 11) (xi y 12) (xb y 13) (IntKind.i64.wrap (a0 - J9 (xi l 8) (xi y 9) (xi y 10) (xi y 11))) (IntKind.i64.wrap (a1 - J8 (xi l 8) (xi y 9) (xi y 10) (xi y 11))) then false else !tm || WJ (QS (xi l 8) a0 a1 (JY (xi l 8) (xi y 2) (xi y 3) (xi y 4))) (QT (xi l 8) a0 a1 (JY (xi l 8) (xi y 2) (xi y 3) (xi y 4))) (QU (xi l 8) a0 a1 (JY (xi l 8) (xi y 2) (xi y 3) (xi y 4))) (xi y 5) (xi y 6) (xi y 7) (xi y 8) (xi y 9) (xi y 10) (xi y 11) (xi y 12) (xb y 13) (JMo u l y) (JNM w l y) else !tm || WJ (xi y 2) (xi y 3) (xi y 4) (xi y 5) (xi y 6) (xi y 7) (xi y 8) (xi y 9) (xi y 10) (xi y 11) (xi y 12) (xb y 13) (JMo u l y) (JNM w l y)
def JOH (l y:List GC) (a0 a1:Int) (tr op cl en mo:Bool) (la0 la1 la2 er:Int) (C O:LL):Je :=
 [(0,Obj.blk 66 [(3,Ci (xi l 0)),(4,Ci (xi l 1)),(5,Ci (xi l 2)),(6,Ci (xi l 3)),(7,Ci (xi l 4)),(8,Ci (xi l 5)),(9,Ci (xi l 6)),(10,Ci (xi l 7)),(11,Ci (xi l 8)),(12,Ci (xi l 9)),(13,Ci (xi l 10)),(14,Ci (xi l 11)),(15,Ci (xi l 12)),(16,Cb (xb l 13)),(17,Ci (xi l 14)),(18,Cb (xb l 15)),(19,Ci (xi l 16)),(20,Ci (xi l 17)),(21,Ci (xi l 18)),(22,Ci (xi l 19)),(23,Ci (xi l 20)),(24,Cb (xb l 21)),(25,Ci (xi y 0)),(26,Ci (xi y 1)),(27,Ci (xi y 2)),(28,Ci (xi y 3)),(29,Ci (xi y 4)),(30,Ci (xi y 5)),(31,Ci (xi y 6)),(32,Ci (xi y 7)),(33,Ci (xi y 8)),(34,Ci (xi y 9)),(35,Ci (xi y 10)),(36,Ci (xi y 11)),(37,Ci (xi y 12)),(38,Cb (xb y 13)),(39,Ci (xi y 14)),(40,Cb (xb y 15)),(41,Ci (xi y 16)),(42,Ci (xi y 17)),(43,Ci (xi y 18)),(44,Ci (xi y 19)),(45,Ci (xi y 20)),(46,Cb (xb y 21)),(47,Ci a0),(48,Ci a1),(49,Cb tr),(50,SC.wh 1),(51,Cb op),(52,Cb cl),(53,Cb en),(54,Cb mo),(55,Ci la0),(56,Ci la1),(57,Ci la2),(58,SC.wh 2),(59,Ci er)]),(1,Obj.row false 40 22 (RowC.lst 60 ckI C)),(2,Obj.row false 40 22 (RowC.lst 61 ckI O))]
theorem JUX (u w:Int) (tm:Bool) (l y:List GC) (a0 a1:Int) (tr op cl en mo:Bool) (la0 la1 la2 er:Int) (C O:LL):Runs (Jl (JE JWe) YY 104) (Wg.args (Jp JBT [.i u,.i w,.b tm,.v l,.v y,.i a0,.i a1,.b tr,.b op,.b cl,.b en,.b mo,.i la0,.i la1,.i la2,.i er])) (Wg.memo (Jp JBT [.i u,.i w,.b tm,.v l,.v y,.i a0,.i a1,.b tr,.b op,.b cl,.b en,.b mo,.i la0,.i la1,.i la2,.i er]) [C,O]) Wg.n (SV.one (Cb (WL u w tm l y a0 a1 tr))) (JOH l y a0 a1 tr op cl en mo la0 la1 la2 er C O) :=
  Runs.of1 (ps := []) (by kernel_rfl) (by simp)
def JCU:List Gm → Qs → Option CRes
  | [.i u,.i w,.b tm,.v l,.v y,.i a0,.i a1,.b tr,.b op,.b cl,.b en,.b mo,.i la0,.i la1,.i la2,.i er],[C,O] => some ⟨SV.one (Cb (WL u w tm l y a0 a1 tr)),
 JOH l y a0 a1 tr op cl en mo la0 la1 la2 er C O,[],[],2498⟩
  | _,_ => none
theorem Ja2:Qf Tryz.prog 104 (X5 JBT Wg JCU) := by
  refine ZN (JF JLy 104) fun ps ls r hr hn _ => ?_
  unfold JCU at hr
  split at hr
  · cases hr; exact ⟨_,JUX _ _ _ _ _ _ _ _ _ _ _ _ _ _ _ _ _ _,fun _ => rfl⟩
  · cases hr
def JMM:List (Nat × JU) := (104,X5 JBT Wg JCU) :: JWe
theorem JFS:Known Tryz.prog (JE JMM) YY := J4 JLy Ja2
def zA:Tpl := ⟨[.one (.ptr 0 0),.agg [.int .i64,.int .i64],.one (.bool)],XH,62⟩
def JDp:List GK := [.i,.i,.b,.v QV,.v QV,.i,.i,.b,.b,.b,.b,.b,.i,.i,.i,.i]
section
variable (u w:Int) (tm:Bool) (l y:List GC) (a0 a1:Int) (tr:Bool) (O:LL)
def kv:Int:=
 J7 (IntKind.i64.wrap (u - a0)) (IntKind.i64.wrap (w - a1)) (IntKind.i64.wrap (J9 (xi l 8) (xi y 5) (xi y 6) (xi y 7) - J9 (xi l 8) (xi y 2) (xi y 3) (xi y 4))) (IntKind.i64.wrap (J8 (xi l 8) (xi y 5) (xi y 6) (xi y 7) - J8 (xi l 8) (xi y 2) (xi y 3) (xi y 4)))
def Q7:Int:=
 bif xi y 0 == 2 then bif (tm || tr) && decide (kv u w l y a0 a1 ≤ 0) then 16 else 0 else bif (tm || tr) && !xb y 13 && !WL u w tm (J1 l) (J1 y) a0 a1 tr then 16 else bif Xk (xi y 0) (QS (xi l 8) a0 a1 (JY (xi l 8) (xi y 2) (xi y 3) (xi y 4))) (QT (xi l 8) a0 a1 (JY (xi l 8) (xi y 2) (xi y 3) (xi y 4))) (QU (xi l 8) a0 a1 (JY (xi l 8) (xi y 2) (xi y 3) (xi y 4))) (QS (xi l 8) u w (JY (xi l 8) (xi y 5) (xi y 6) (xi y 7))) (QT (xi l 8) u w (JY (xi l 8) (xi y 5) (xi y 6) (xi y 7))) (QU (xi l 8) u w (JY (xi l 8) (xi y 5) (xi y 6) (xi y 7))) (bif xi y 0 != 3 then 0 else xi y 8) (xi y 9) (xi y 10) (xi y 11) (xi y 12) (xb y 13 && !tm && !tr) != 0 then 16 else 0
def XM:Int:=
 bif xi y 0 == 2 then bif (tm || tr) && decide (kv u w l y a0 a1 ≤ 0) then a0 else u else bif (tm || tr) && !xb y 13 && !WL u w tm (J1 l) (J1 y) a0 a1 tr then a0 else bif Xk (xi y 0) (QS (xi l 8) a0 a1 (JY (xi l 8) (xi y 2) (xi y 3) (xi y 4))) (QT (xi l 8) a0 a1 (JY (xi l 8) (xi y 2) (xi y 3) (xi y 4))) (QU (xi l 8) a0 a1 (JY (xi l 8) (xi y 2) (xi y 3) (xi y 4))) (QS (xi l 8) u w (JY (xi l 8) (xi y 5) (xi y 6) (xi y 7))) (QT (xi l 8) u w (JY (xi l 8) (xi y 5) (xi y 6) (xi y 7))) (QU (xi l 8) u w (JY (xi l 8) (xi y 5) (xi y 6) (xi y 7))) (bif xi y 0 != 3 then 0 else xi y 8) (xi y 9) (xi y 10) (xi y 11) (xi y 12) (xb y 13 && !tm && !tr) != 0 then a0 else u
def XO:Int:=
 bif xi y 0 == 2 then bif (tm || tr) && decide (kv u w l y a0 a1 ≤ 0) then a1 else w else bif (tm || tr) && !xb y 13 && !WL u w tm (J1 l) (J1 y) a0 a1 tr then a1 else bif Xk (xi y 0) (QS (xi l 8) a0 a1 (JY (xi l 8) (xi y 2) (xi y 3) (xi y 4))) (QT (xi l 8) a0 a1 (JY (xi l 8) (xi y 2) (xi y 3) (xi y 4))) (QU (xi l 8) a0 a1 (JY (xi l 8) (xi y 2) (xi y 3) (xi y 4))) (QS (xi l 8) u w (JY (xi l 8) (xi y 5) (xi y 6) (xi y 7))) (QT (xi l 8) u w (JY (xi l 8) (xi y 5) (xi y 6) (xi y 7))) (QU (xi l 8) u w (JY (xi l 8) (xi y 5) (xi y 6) (xi y 7))) (bif xi y 0 != 3 then 0 else xi y 8) (xi y 9) (xi y 10) (xi y 11) (xi y 12) (xb y 13 && !tm && !tr) != 0 then a1 else w
def JU9:Int:=
 bif xi y 0 != 3 then 0 else xi y 8
def Zr:LL:=
 bif xi y 0 == 2 then bif (tm || tr) && decide (kv u w l y a0 a1 ≤ 0) then O else XG (J1 y) u w (JY (xi l 8) (xi y 2) (xi y 3) (xi y 4)) (JY (xi l 8) (xi y 5) (xi y 6) (xi y 7)) false (J1 l) a0 a1 O else bif (tm || tr) && !xb y 13 && !WL u w tm (J1 l) (J1 y) a0 a1 tr then O else bif Xk (xi y 0) (QS (xi l 8) a0 a1 (JY (xi l 8) (xi y 2) (xi y 3) (xi y 4))) (QT (xi l 8) a0 a1 (JY (xi l 8) (xi y 2) (xi y 3) (xi y 4))) (QU (xi l 8) a0 a1 (JY (xi l 8) (xi y 2) (xi y 3) (xi y 4))) (QS (xi l 8) u w (JY (xi l 8) (xi y 5) (xi y 6) (xi y 7))) (QT (xi l 8) u w (JY (xi l 8) (xi y 5) (xi y 6) (xi y 7))) (QU (xi l 8) u w (JY (xi l 8) (xi y 5) (xi y 6) (xi y 7))) (JU9 y) (xi y 9) (xi y 10) (xi y 11) (xi y 12) (xb y 13 && !tm && !tr) != 0 then O else O ++ [[xi y 0,xi y 1,QS (xi l 8) a0 a1 (JY (xi l 8) (xi y 2) (xi y 3) (xi y 4)),QT (xi l 8) a0 a1 (JY (xi l 8) (xi y 2) (xi y 3) (xi y 4)),QU (xi l 8) a0 a1 (JY (xi l 8) (xi y 2) (xi y 3) (xi y 4)),QS (xi l 8) u w (JY (xi l 8) (xi y 5) (xi y 6) (xi y 7)),QT (xi l 8) u w (JY (xi l 8) (xi y 5) (xi y 6) (xi y 7)),QU (xi l 8) u w (JY (xi l 8) (xi y 5) (xi y 6) (xi y 7)),JU9 y,xi y 9,xi y 10,xi y 11,xi y 12,bif xb y 13 && !tm && !tr then 1 else 0,xi y 14,bif xb y 15 then 1 else 0,0,0,xi y 18,xi y 19,xi y 20,bif xb y 21 then 1 else 0]]
def j8:List Prop:=
 [(xi y 0 == 2) = true → ((tm || tr) && decide (kv u w l y a0 a1 ≤ 0)) = false → O.length ≤ 1000000,(xi y 0 == 2) = false → ((tm || tr) && !xb y 13 && !WL u w tm (J1 l) (J1 y) a0 a1 tr) = false → (Xk (xi y 0) (QS (xi l 8) a0 a1 (JY (xi l 8) (xi y 2) (xi y 3) (xi y 4))) (QT (xi l 8) a0 a1 (JY (xi l 8) (xi y 2) (xi y 3) (xi y 4))) (QU (xi l 8) a0 a1 (JY (xi l 8) (xi y 2) (xi y 3) (xi y 4))) (QS (xi l 8) u w (JY (xi l 8) (xi y 5) (xi y 6) (xi y 7))) (QT (xi l 8) u w (JY (xi l 8) (xi y 5) (xi y 6) (xi y 7))) (QU (xi l 8) u w (JY (xi l 8) (xi y 5) (xi y 6) (xi y 7))) (bif xi y 0 != 3 then 0 else xi y 8) (xi y 9) (xi y 10) (xi y 11) (xi y 12) (xb y 13 && !tm && !tr) != 0) = false → (O.length + 1) * 176 ≤ 140737488355328 ∧ O.length + 1 ≤ 9223372036854775807]
end
theorem JVa {u:Int} {w:Int} {tm:Bool} {l:List GC} {y:List GC} {a0:Int} {a1:Int} {tr:Bool} {O:LL} (hW:∀ q ∈ ([O.length ≤ 1000000]:List Prop),q):∀ q ∈ (j8 u w tm l y a0 a1 tr O),q := by
  simp only [awc,awn,and_true] at hW
  unfold j8
  simp only [awc,awn,and_true]
  exact ⟨fun _ _ => hW,fun _ _ _ => ⟨by omega,by omega⟩⟩
def JTW (u w:Int) (tm:Bool) (l y:List GC) (a0 a1:Int) (tr op cl en mo:Bool) (la0 la1 la2 er:Int) (C O:LL):Je :=
 [(0,Obj.blk 66 [(3,Ci (xi l 0)),(4,Ci (xi l 1)),(5,Ci (xi l 2)),(6,Ci (xi l 3)),(7,Ci (xi l 4)),(8,Ci (xi l 5)),(9,Ci (xi l 6)),(10,Ci (xi l 7)),(11,Ci (xi l 8)),(12,Ci (xi l 9)),(13,Ci (xi l 10)),(14,Ci (xi l 11)),(15,Ci (xi l 12)),(16,Cb (xb l 13)),(17,Ci (xi l 14)),(18,Cb (xb l 15)),(19,Ci (xi l 16)),(20,Ci (xi l 17)),(21,Ci (xi l 18)),(22,Ci (xi l 19)),(23,Ci (xi l 20)),(24,Cb (xb l 21)),(25,Ci (xi y 0)),(26,Ci (xi y 1)),(27,Ci (xi y 2)),(28,Ci (xi y 3)),(29,Ci (xi y 4)),(30,Ci (xi y 5)),(31,Ci (xi y 6)),(32,Ci (xi y 7)),(33,Ci (xi y 8)),(34,Ci (xi y 9)),(35,Ci (xi y 10)),(36,Ci (xi y 11)),(37,Ci (xi y 12)),(38,Cb (xb y 13)),(39,Ci (xi y 14)),(40,Cb (xb y 15)),(41,Ci (xi y 16)),(42,Ci (xi y 17)),(43,Ci (xi y 18)),(44,Ci (xi y 19)),(45,Ci (xi y 20)),(46,Cb (xb y 21)),(5758,Ci (XM u w tm l y a0 a1 tr)),(5759,Ci (XO u w tm l y a0 a1 tr)),(49,Cb tr),(50,SC.wh 1),(51,Cb op),(52,Cb cl),(53,Cb en),(54,Cb mo),(55,Ci la0),(56,Ci la1),(57,Ci la2),(5734,SC.wh 5732),(59,Ci er)]),(5732,Obj.row false 40 22 (RowC.lst 5757 ckI (Zr u w tm l y a0 a1 tr O))),(1,Obj.row false 40 22 (RowC.lst 60 ckI C))]
theorem JVs (u w:Int) (tm:Bool) (l y:List GC) (a0 a1:Int) (tr op cl en mo:Bool) (la0 la1 la2 er:Int) (C O:LL) (hNeeds:∀ pN ∈ (j8 u w tm l y a0 a1 tr O),pN):Runs (Jl (JE JMM) YY 69) (zA.args (Jp JDp [.i u,.i w,.b tm,.v l,.v y,.i a0,.i a1,.b tr,.b op,.b cl,.b en,.b mo,.i la0,.i la1,.i la2,.i er])) (zA.memo (Jp JDp [.i u,.i w,.b tm,.v l,.v y,.i a0,.i a1,.b tr,.b op,.b cl,.b en,.b mo,.i la0,.i la1,.i la2,.i er]) [C,O]) zA.n (SV.one (Ci (Q7 u w tm l y a0 a1 tr))) (JTW u w tm l y a0 a1 tr op cl en mo la0 la1 la2 er C O) :=
  Runs.of1 (ps := (j8 u w tm l y a0 a1 tr O)) (by kernel_rfl) hNeeds
def JHP:List Gm → Qs → Option CRes
  | [.i u,.i w,.b tm,.v l,.v y,.i a0,.i a1,.b tr,.b op,.b cl,.b en,.b mo,.i la0,.i la1,.i la2,.i er],[C,O] => some ⟨SV.one (Ci (Q7 u w tm l y a0 a1 tr)),
 JTW u w tm l y a0 a1 tr op cl en mo la0 la1 la2 er C O,[O.length ≤ 1000000],[],5760⟩
  | _,_ => none
theorem Je6:Qf Tryz.prog 69 (X5 JDp zA JHP) := by
  refine ZN (JF JFS 69) fun ps ls r hr hn _ => ?_
  unfold JHP at hr
  split at hr
  · cases hr; exact ⟨_,JVs _ _ _ _ _ _ _ _ _ _ _ _ _ _ _ _ _ _ (JVa (by exact hn)),fun _ => rfl⟩
  · cases hr
def JJ7:List (Nat × JU) := (69,X5 JDp zA JHP) :: JMM
theorem JHp:Known Tryz.prog (JE JJ7) YY := J4 JFS Je6
def qy (O A:LL):Prop := O.length ≤ A.length ∧ A.length ≤ O.length + 1
theorem qy.self (O:LL):qy O O := ⟨Nat.le_refl _,Nat.le_succ _⟩
theorem qy.one (O:LL) (r:List Int):qy O (O ++ [r]) := by
  unfold qy; simp only [List.length_append,List.length_cons,List.length_nil]; omega
theorem qy.ite {c:Bool} {O A B:LL} (h:qy O A) (k:qy O B):qy O (bif c then A else B) := by cases c <;> assumption
theorem Xp (u w:Int) (tm:Bool) (l y:List GC) (a0 a1:Int) (tr:Bool) (O:LL):qy O (Zr u w tm l y a0 a1 tr O) := by
  unfold Zr
  exact .ite (.ite (.self O) (KO ..)) (.ite (.self O) (.ite (.self O) (.one O _)))
def YL:Tpl := ⟨[.one (.ptr 0 0),.agg pI,.agg [.int .i64,.int .i64],.one (.bool)],XH,62⟩
def JB9:List GK := [.v QV,.i,.i,.b,.v QV,.v QV,.i,.i,.b,.b,.b,.b,.b,.i,.i,.i,.i]
section
variable (x:List GC) (w u:Int) (l:List GC) (a1 a0:Int)
def X1:Int:=
 IntKind.i64.wrap (a0 - J9 (xi l 8) (xi x 2) (xi x 3) (xi x 4))
def X0:Int:=
 IntKind.i64.wrap (a1 - J8 (xi l 8) (xi x 2) (xi x 3) (xi x 4))
def X2:Int:=
 IntKind.i64.wrap (u - J9 (xi l 8) (xi x 2) (xi x 3) (xi x 4))
def X3:Int:=
 IntKind.i64.wrap (w - J8 (xi l 8) (xi x 2) (xi x 3) (xi x 4))
end
section
variable (x:List GC) (u w:Int) (ou:Bool) (l:List GC) (a0 a1:Int) (O:LL)
def Y6:Int:=
 IntKind.i64.wrap (QQ (X1 x l a0) (X0 x l a1) (X2 x u l) (X3 x w l) * IntKind.i64.wrap (0 - xi l 16))
def JYJ:Int:=
 bif ou && (decide (Y6 x u w l a0 a1 > 0) || Y6 x u w l a0 a1 == 0 && decide (J7 (X1 x l a0) (X0 x l a1) (X2 x u l) (X3 x w l) < 0)) && decide (J7 (X1 x l a0) (X0 x l a1) (X1 x l a0) (X0 x l a1) ≥ 64) && decide (J7 (X2 x u l) (X3 x w l) (X2 x u l) (X3 x w l) ≥ 64) then u else u
def JZg:Int:=
 bif ou && (decide (Y6 x u w l a0 a1 > 0) || Y6 x u w l a0 a1 == 0 && decide (J7 (X1 x l a0) (X0 x l a1) (X2 x u l) (X3 x w l) < 0)) && decide (J7 (X1 x l a0) (X0 x l a1) (X1 x l a0) (X0 x l a1) ≥ 64) && decide (J7 (X2 x u l) (X3 x w l) (X2 x u l) (X3 x w l) ≥ 64) then w else w
def jH:LL:=
 bif ou && (decide (Y6 x u w l a0 a1 > 0) || Y6 x u w l a0 a1 == 0 && decide (J7 (X1 x l a0) (X0 x l a1) (X2 x u l) (X3 x w l) < 0)) && decide (J7 (X1 x l a0) (X0 x l a1) (X1 x l a0) (X0 x l a1) ≥ 64) && decide (J7 (X2 x u l) (X3 x w l) (X2 x u l) (X3 x w l) ≥ 64) then O ++ [[3,xi x 1,QS (xi l 8) a0 a1 (JY (xi l 8) (xi x 2) (xi x 3) (xi x 4)),QT (xi l 8) a0 a1 (JY (xi l 8) (xi x 2) (xi x 3) (xi x 4)),QU (xi l 8) a0 a1 (JY (xi l 8) (xi x 2) (xi x 3) (xi x 4)),QS (xi l 8) u w (JY (xi l 8) (xi x 2) (xi x 3) (xi x 4)),QT (xi l 8) u w (JY (xi l 8) (xi x 2) (xi x 3) (xi x 4)),QU (xi l 8) u w (JY (xi l 8) (xi x 2) (xi x 3) (xi x 4)),xi l 8,QS (xi l 8) (J9 (xi l 8) (xi x 2) (xi x 3) (xi x 4)) (J8 (xi l 8) (xi x 2) (xi x 3) (xi x 4)) (JY (xi l 8) (xi x 2) (xi x 3) (xi x 4)),QT (xi l 8) (J9 (xi l 8) (xi x 2) (xi x 3) (xi x 4)) (J8 (xi l 8) (xi x 2) (xi x 3) (xi x 4)) (JY (xi l 8) (xi x 2) (xi x 3) (xi x 4)),QU (xi l 8) (J9 (xi l 8) (xi x 2) (xi x 3) (xi x 4)) (J8 (xi l 8) (xi x 2) (xi x 3) (xi x 4)) (JY (xi l 8) (xi x 2) (xi x 3) (xi x 4)),IntKind.i64.wrap (0 - xi l 16),0,xi x 14,bif xb x 15 then 1 else 0,0,0,0,0,0,0]] else XG [GC.i 2,GC.i (xi x 1),GC.i 0,GC.i 0,GC.i 0,GC.i 0,GC.i 0,GC.i 0,GC.i 0,GC.i 0,GC.i 0,GC.i 0,GC.i 0,GC.b false,GC.i (xi x 14),GC.b (xb x 15),GC.i 0,GC.i 0,GC.i 0,GC.i 0,GC.i 0,GC.b false] u w (JY (xi l 8) (xi x 2) (xi x 3) (xi x 4)) (JY (xi l 8) (xi x 2) (xi x 3) (xi x 4)) false (J1 l) a0 a1 O
def Wq:List Prop:=
 [(ou && (decide (Y6 x u w l a0 a1 > 0) || Y6 x u w l a0 a1 == 0 && decide (J7 (X1 x l a0) (X0 x l a1) (X2 x u l) (X3 x w l) < 0)) && decide (J7 (X1 x l a0) (X0 x l a1) (X1 x l a0) (X0 x l a1) ≥ 64) && decide (J7 (X2 x u l) (X3 x w l) (X2 x u l) (X3 x w l) ≥ 64)) = true → (O.length + 1) * 176 ≤ 140737488355328 ∧ O.length + 1 ≤ 9223372036854775807,(ou && (decide (Y6 x u w l a0 a1 > 0) || Y6 x u w l a0 a1 == 0 && decide (J7 (X1 x l a0) (X0 x l a1) (X2 x u l) (X3 x w l) < 0)) && decide (J7 (X1 x l a0) (X0 x l a1) (X1 x l a0) (X0 x l a1) ≥ 64) && decide (J7 (X2 x u l) (X3 x w l) (X2 x u l) (X3 x w l) ≥ 64)) = false → O.length ≤ 1000000]
end
theorem Jbd {x:List GC} {u:Int} {w:Int} {ou:Bool} {l:List GC} {a0:Int} {a1:Int} {O:LL} (hW:∀ q ∈ ([O.length ≤ 1000000]:List Prop),q):∀ q ∈ (Wq x u w ou l a0 a1 O),q := by
  simp only [awc,awn,and_true] at hW
  unfold Wq
  simp only [awc,awn,and_true]
  exact ⟨fun _ => ⟨by omega,by omega⟩,fun _ => hW⟩
def JYp (x:List GC) (u w:Int) (ou:Bool) (l y:List GC) (a0 a1:Int) (tr op cl en mo:Bool) (la0 la1 la2 er:Int) (C O:LL):Je :=
 [(0,Obj.blk 66 [(3,Ci (xi l 0)),(4,Ci (xi l 1)),(5,Ci (xi l 2)),(6,Ci (xi l 3)),(7,Ci (xi l 4)),(8,Ci (xi l 5)),(9,Ci (xi l 6)),(10,Ci (xi l 7)),(11,Ci (xi l 8)),(12,Ci (xi l 9)),(13,Ci (xi l 10)),(14,Ci (xi l 11)),(15,Ci (xi l 12)),(16,Cb (xb l 13)),(17,Ci (xi l 14)),(18,Cb (xb l 15)),(19,Ci (xi l 16)),(20,Ci (xi l 17)),(21,Ci (xi l 18)),(22,Ci (xi l 19)),(23,Ci (xi l 20)),(24,Cb (xb l 21)),(25,Ci (xi y 0)),(26,Ci (xi y 1)),(27,Ci (xi y 2)),(28,Ci (xi y 3)),(29,Ci (xi y 4)),(30,Ci (xi y 5)),(31,Ci (xi y 6)),(32,Ci (xi y 7)),(33,Ci (xi y 8)),(34,Ci (xi y 9)),(35,Ci (xi y 10)),(36,Ci (xi y 11)),(37,Ci (xi y 12)),(38,Cb (xb y 13)),(39,Ci (xi y 14)),(40,Cb (xb y 15)),(41,Ci (xi y 16)),(42,Ci (xi y 17)),(43,Ci (xi y 18)),(44,Ci (xi y 19)),(45,Ci (xi y 20)),(46,Cb (xb y 21)),(1678,Ci (JYJ x u w ou l a0 a1)),(1679,Ci (JZg x u w ou l a0 a1)),(49,Cb tr),(50,SC.wh 1),(51,Cb op),(52,Cb cl),(53,Cb en),(54,Cb mo),(55,Ci la0),(56,Ci la1),(57,Ci la2),(1664,SC.wh 1662),(59,Ci er)]),(1662,Obj.row false 40 22 (RowC.lst 1677 ckI (jH x u w ou l a0 a1 O))),(1,Obj.row false 40 22 (RowC.lst 60 ckI C))]
theorem JbG (x:List GC) (u w:Int) (ou:Bool) (l y:List GC) (a0 a1:Int) (tr op cl en mo:Bool) (la0 la1 la2 er:Int) (C O:LL) (hNeeds:∀ pN ∈ (Wq x u w ou l a0 a1 O),pN):Runs (Jl (JE JJ7) YY 109) (YL.args (Jp JB9 [.v x,.i u,.i w,.b ou,.v l,.v y,.i a0,.i a1,.b tr,.b op,.b cl,.b en,.b mo,.i la0,.i la1,.i la2,.i er])) (YL.memo (Jp JB9 [.v x,.i u,.i w,.b ou,.v l,.v y,.i a0,.i a1,.b tr,.b op,.b cl,.b en,.b mo,.i la0,.i la1,.i la2,.i er]) [C,O]) YL.n (SV.tup []) (JYp x u w ou l y a0 a1 tr op cl en mo la0 la1 la2 er C O) :=
  Runs.of1 (ps := (Wq x u w ou l a0 a1 O)) (by kernel_rfl) hNeeds
def JJQ:List Gm → Qs → Option CRes
  | [.v x,.i u,.i w,.b ou,.v l,.v y,.i a0,.i a1,.b tr,.b op,.b cl,.b en,.b mo,.i la0,.i la1,.i la2,.i er],[C,O] => some ⟨SV.tup [],[(0,Obj.blk 66 [(3,Ci (xi l 0)),(4,Ci (xi l 1)),(5,Ci (xi l 2)),(6,Ci (xi l 3)),(7,Ci (xi l 4)),(8,Ci (xi l 5)),(9,Ci (xi l 6)),(10,Ci (xi l 7)),(11,Ci (xi l 8)),(12,Ci (xi l 9)),(13,Ci (xi l 10)),(14,Ci (xi l 11)),(15,Ci (xi l 12)),(16,Cb (xb l 13)),(17,Ci (xi l 14)),(18,Cb (xb l 15)),(19,Ci (xi l 16)),(20,Ci (xi l 17)),(21,Ci (xi l 18)),(22,Ci (xi l 19)),(23,Ci (xi l 20)),(24,Cb (xb l 21)),(25,Ci (xi y 0)),(26,Ci (xi y 1)),(27,Ci (xi y 2)),(28,Ci (xi y 3)),(29,Ci (xi y 4)),(30,Ci (xi y 5)),(31,Ci (xi y 6)),(32,Ci (xi y 7)),(33,Ci (xi y 8)),(34,Ci (xi y 9)),(35,Ci (xi y 10)),(36,Ci (xi y 11)),(37,Ci (xi y 12)),(38,Cb (xb y 13)),(39,Ci (xi y 14)),(40,Cb (xb y 15)),(41,Ci (xi y 16)),(42,Ci (xi y 17)),(43,Ci (xi y 18)),(44,Ci (xi y 19)),(45,Ci (xi y 20)),(46,Cb (xb y 21)),(1678,Ci (u)),(1679,Ci (w)),(49,Cb tr),(50,SC.wh 1),(51,Cb op),(52,Cb cl),(53,Cb en),(54,Cb mo),(55,Ci la0),(56,Ci la1),(57,Ci la2),(1664,SC.wh 1662),(59,Ci er)]),(1662,Obj.row false 40 22 (RowC.lst 1677 ckI (jH x u w ou l a0 a1 O))),(1,Obj.row false 40 22 (RowC.lst 60 ckI C))],[O.length ≤ 1000000],[],1680⟩
  | _,_ => none
theorem JTt (x:List GC) (u w:Int) (ou:Bool) (l y:List GC) (a0 a1:Int) (tr op cl en mo:Bool) (la0 la1 la2 er:Int) (C O:LL) (hNeeds:∀ pN ∈ (Wq x u w ou l a0 a1 O),pN):Runs (Jl (JE JJ7) YY 109) (YL.args (Jp JB9 [.v x,.i u,.i w,.b ou,.v l,.v y,.i a0,.i a1,.b tr,.b op,.b cl,.b en,.b mo,.i la0,.i la1,.i la2,.i er])) (YL.memo (Jp JB9 [.v x,.i u,.i w,.b ou,.v l,.v y,.i a0,.i a1,.b tr,.b op,.b cl,.b en,.b mo,.i la0,.i la1,.i la2,.i er]) [C,O]) YL.n (SV.tup [])
    ([(0,
     Obj.blk 66
     [(3,SC.int IntKind.i64 (SI.v (xi l 0))),(4,SC.int IntKind.i64 (SI.v (xi l 1))),(5,SC.int IntKind.i64 (SI.v (xi l 2))),(6,SC.int IntKind.i64 (SI.v (xi l 3))),
     (7,SC.int IntKind.i64 (SI.v (xi l 4))),(8,SC.int IntKind.i64 (SI.v (xi l 5))),(9,SC.int IntKind.i64 (SI.v (xi l 6))),(10,SC.int IntKind.i64 (SI.v (xi l 7))),
     (11,SC.int IntKind.i64 (SI.v (xi l 8))),(12,SC.int IntKind.i64 (SI.v (xi l 9))),(13,SC.int IntKind.i64 (SI.v (xi l 10))),(14,SC.int IntKind.i64 (SI.v (xi l 11))),
     (15,SC.int IntKind.i64 (SI.v (xi l 12))),(16,SC.bool (SB.v (xb l 13))),(17,SC.int IntKind.i64 (SI.v (xi l 14))),(18,SC.bool (SB.v (xb l 15))),(19,SC.int IntKind.i64 (SI.v (xi l 16))),
     (20,SC.int IntKind.i64 (SI.v (xi l 17))),(21,SC.int IntKind.i64 (SI.v (xi l 18))),(22,SC.int IntKind.i64 (SI.v (xi l 19))),(23,SC.int IntKind.i64 (SI.v (xi l 20))),
     (24,SC.bool (SB.v (xb l 21))),(25,SC.int IntKind.i64 (SI.v (xi y 0))),(26,SC.int IntKind.i64 (SI.v (xi y 1))),(27,SC.int IntKind.i64 (SI.v (xi y 2))),
     (28,SC.int IntKind.i64 (SI.v (xi y 3))),(29,SC.int IntKind.i64 (SI.v (xi y 4))),(30,SC.int IntKind.i64 (SI.v (xi y 5))),(31,SC.int IntKind.i64 (SI.v (xi y 6))),
     (32,SC.int IntKind.i64 (SI.v (xi y 7))),(33,SC.int IntKind.i64 (SI.v (xi y 8))),(34,SC.int IntKind.i64 (SI.v (xi y 9))),(35,SC.int IntKind.i64 (SI.v (xi y 10))),
     (36,SC.int IntKind.i64 (SI.v (xi y 11))),(37,SC.int IntKind.i64 (SI.v (xi y 12))),(38,SC.bool (SB.v (xb y 13))),(39,SC.int IntKind.i64 (SI.v (xi y 14))),(40,SC.bool (SB.v (xb y 15))),
     (41,SC.int IntKind.i64 (SI.v (xi y 16))),(42,SC.int IntKind.i64 (SI.v (xi y 17))),(43,SC.int IntKind.i64 (SI.v (xi y 18))),(44,SC.int IntKind.i64 (SI.v (xi y 19))),
     (45,SC.int IntKind.i64 (SI.v (xi y 20))),(46,SC.bool (SB.v (xb y 21))),(1678,SC.int IntKind.i64 (SI.v (u))),
     (1679,SC.int IntKind.i64 (SI.v (w))),(49,SC.bool (SB.v tr)),(50,SC.wh 1),(51,SC.bool (SB.v op)),(52,SC.bool (SB.v cl)),(53,SC.bool (SB.v en)),
     (54,SC.bool (SB.v mo)),(55,SC.int IntKind.i64 (SI.v la0)),(56,SC.int IntKind.i64 (SI.v la1)),(57,SC.int IntKind.i64 (SI.v la2)),(1664,SC.wh 1662),
     (59,SC.int IntKind.i64 (SI.v er))]),
    (1662,
     Obj.row false 40 22
     (RowC.lst 1677
     [CK.int IntKind.i64,CK.int IntKind.i64,CK.int IntKind.i64,CK.int IntKind.i64,CK.int IntKind.i64,CK.int IntKind.i64,CK.int IntKind.i64,CK.int IntKind.i64,CK.int IntKind.i64,
     CK.int IntKind.i64,CK.int IntKind.i64,CK.int IntKind.i64,CK.int IntKind.i64,CK.bool,CK.int IntKind.i64,CK.bool,CK.int IntKind.i64,CK.int IntKind.i64,CK.int IntKind.i64,
     CK.int IntKind.i64,CK.int IntKind.i64,CK.bool]
     (jH x u w ou l a0 a1 O))),
    (1,
     Obj.row false 40 22
     (RowC.lst 60
     [CK.int IntKind.i64,CK.int IntKind.i64,CK.int IntKind.i64,CK.int IntKind.i64,CK.int IntKind.i64,CK.int IntKind.i64,CK.int IntKind.i64,CK.int IntKind.i64,CK.int IntKind.i64,
     CK.int IntKind.i64,CK.int IntKind.i64,CK.int IntKind.i64,CK.int IntKind.i64,CK.bool,CK.int IntKind.i64,CK.bool,CK.int IntKind.i64,CK.int IntKind.i64,CK.int IntKind.i64,
     CK.int IntKind.i64,CK.int IntKind.i64,CK.bool]
     C))]) :=
  (JbG x u w ou l y a0 a1 tr op cl en mo la0 la1 la2 er C O hNeeds).to (by first | rfl | (simp only [])) ((by simp only [JYp,Ci,Cb,ckI,JYJ,JZg,Bool.cond_self]))
theorem Jfj:Qf Tryz.prog 109 (X5 JB9 YL JJQ) := by
  refine ZN (JF JHp 109) fun ps ls r hr hn _ => ?_
  unfold JJQ at hr
  split at hr
  · cases hr; exact ⟨_,JTt _ _ _ _ _ _ _ _ _ _ _ _ _ _ _ _ _ _ _ (Jbd (by exact hn)),fun _ => rfl⟩
  · cases hr
def JFl:List (Nat × JU) := (109,X5 JB9 YL JJQ) :: JJ7
theorem JM8:Known Tryz.prog (JE JFl) YY := J4 JHp Jfj
theorem JTl (x:List GC) (u w:Int) (ou:Bool) (l:List GC) (a0 a1:Int) (O:LL):qy O (jH x u w ou l a0 a1 O) := by
  unfold jH
  exact .ite (.one O _) (KO ..)
def B (x:Bool):SC := .bool (.v x)
def CKi:List CK := [.int .i64,.int .i64,.int .i64,.int .i64,.int .i64,.int .i64,.int .i64,.int .i64,.int .i64,.int .i64,.int .i64,.int .i64,.int .i64,.bool,.int .i64,.bool,.int .i64,.int .i64,.int .i64,.int .i64,.int .i64,.bool]
def XS (id tag:Nat) (xs:LL):Nat × SX.Obj := (id,.row false 40 22 (.lst tag CKi xs))
def JW2 (g:Nat → Nat) (l y:List GC) (a0 a1:Int) (tr:Bool) (c:Nat) (op cl en mo:Bool) (la0 la1 la2:Int) (o:Nat) (er:Int):List (Nat × SC) :=
  [(g 0,I (xi l 0)),(g 1,I (xi l 1)),(g 2,I (xi l 2)),(g 3,I (xi l 3)),(g 4,I (xi l 4)),(g 5,I (xi l 5)),(g 6,I (xi l 6)),(g 7,I (xi l 7)),(g 8,I (xi l 8)),(g 9,I (xi l 9)),(g 10,I (xi l 10)),(g 11,I (xi l 11)),(g 12,I (xi l 12)),(g 13,B (xb l 13)),(g 14,I (xi l 14)),(g 15,B (xb l 15)),(g 16,I (xi l 16)),(g 17,I (xi l 17)),(g 18,I (xi l 18)),(g 19,I (xi l 19)),(g 20,I (xi l 20)),(g 21,B (xb l 21)),(g 22,I (xi y 0)),(g 23,I (xi y 1)),(g 24,I (xi y 2)),(g 25,I (xi y 3)),(g 26,I (xi y 4)),(g 27,I (xi y 5)),(g 28,I (xi y 6)),(g 29,I (xi y 7)),(g 30,I (xi y 8)),(g 31,I (xi y 9)),(g 32,I (xi y 10)),(g 33,I (xi y 11)),(g 34,I (xi y 12)),(g 35,B (xb y 13)),(g 36,I (xi y 14)),(g 37,B (xb y 15)),(g 38,I (xi y 16)),(g 39,I (xi y 17)),(g 40,I (xi y 18)),(g 41,I (xi y 19)),(g 42,I (xi y 20)),(g 43,B (xb y 21)),(g 44,I a0),(g 45,I a1),(g 46,B tr),(g 47,.wh c),(g 48,B op),(g 49,B cl),(g 50,B en),(g 51,B mo),(g 52,I la0),(g 53,I la1),(g 54,I la2),(g 55,.wh o),(g 56,I er)]
def JZC:List Bool → List (Nat × SC) → Option (List GC × List (Nat × SC))
  | [],r => some ([],r)
  | false :: ks,(_,.int _ x) :: r => match JZC ks r with
    | some (l,q) => some (.i x.val :: l,q)
    | none => none
  | true :: ks,(_,.bool x) :: r => match JZC ks r with
    | some (l,q) => some (.b x.val :: l,q)
    | none => none
  | _,_ => none
section
variable (l:List GC) (a0 a1:Int) (O C:LL) (j:Nat) (r:List Int)
def JPu:LL:=
  bif J5 (r.getD 0 0) then XG (JC r) a0 a1 (JY (xi l 8) (r.getD 2 0) (r.getD 3 0) (r.getD 4 0)) (JY (xi l 8) (r.getD 5 0) (r.getD 6 0) (r.getD 7 0)) false (J1 l) a0 a1 O else O ++ [JgQ r]
def zr:LL:= (C.take j).foldl (JPu l a0 a1) O
def JR1:LL:= C.foldl (JPu l a0 a1) O
end
theorem JbN (l:List GC) (a0 a1:Int) (O C:LL) (j:Nat) (h:j < C.length):zr l a0 a1 O C (j + 1) = JPu l a0 a1 (zr l a0 a1 O C j) (C.getD j []) := by
  have e:C.getD j [] = C[j] := by simp [List.getD,List.getElem?_eq_getElem h]
  unfold zr
  rw [List.take_succ_eq_append_getElem h,List.foldl_append,e]
  rfl
theorem JeK (l:List GC) (a0 a1:Int) (O C:LL):zr l a0 a1 O C C.length = JR1 l a0 a1 O C := by
  unfold zr; rw [List.take_length]; rfl
theorem JdF (l:List GC) (a0 a1:Int) (O:LL) (r:List Int):qy O (JPu l a0 a1 O r) := by
  unfold JPu
  exact .ite (KO ..) (.one O _)
theorem JJN (l:List GC) (a0 a1:Int):∀ (C O:LL),O.length ≤ (JR1 l a0 a1 O C).length ∧ (JR1 l a0 a1 O C).length ≤ O.length + C.length
  | [],O => ⟨Nat.le_refl _,Nat.le_refl _⟩
  | r :: C,O => by
    have h := JdF l a0 a1 O r
    have k := JJN l a0 a1 C (JPu l a0 a1 O r)
    unfold qy at h
    have e:JR1 l a0 a1 O (r :: C) = JR1 l a0 a1 (JPu l a0 a1 O r) C := rfl
    rw [e,List.length_cons]; omega
theorem Jdk (l:List GC) (a0 a1:Int) (O C:LL) (j:Nat):(zr l a0 a1 O C j).length ≤ O.length + C.length := by
  have h := JJN l a0 a1 (C.take j) O
  have k:(C.take j).length ≤ C.length := by rw [List.length_take]; omega
  have e:zr l a0 a1 O C j = JR1 l a0 a1 O (C.take j) := rfl
  rw [e]; omega
def JiN (k:Nat):Nat := bif Nat.beq k 44 || Nat.beq k 45 || Nat.beq k 55 then 1000000000 + k else k + 3
def JiX (k:Nat):Nat := bif Nat.beq k 44 || Nat.beq k 45 || Nat.beq k 55 then 69 + k else k + 3
def jk (l y:List GC) (a0 a1:Int) (tr op cl en mo:Bool) (la0 la1 la2 er:Int) (C O:LL):Fam Nat Unit where
  k := 120
  E j := [(14,ent 1000000060 (.one (I (Int.ofNat j)))),(13,ent 1000000061 (.one (I (Int.ofNat C.length)))),(12,ent 1000000062 (.one (.wh 1))),(0,ent 0 (.one (.ptr 0 0)))]
  M j := [(0,.blk 66 (JW2 JiN l y a0 a1 tr 1 op cl en mo la0 la1 la2 71 er)),XS 1 60 C,XS 71 1000000070 (zr l a0 a1 O C j)]
  out _ := .leaf (.exit 0) [(0,ent 0 (.one (.ptr 0 0)))] [(0,.blk 66 (JW2 JiX l y a0 a1 tr 1 op cl en mo la0 la1 la2 71 er)),XS 1 60 C,XS 71 130 (JR1 l a0 a1 O C)]
  fin _ := ()
  next j _ := j + 1
  J j := j ≤ C.length ∧ C.length ≤ 1000 ∧ O.length ≤ 900000
  μ j := C.length - j
section
variable (l y:List GC) (a0 a1:Int) (tr op cl en mo:Bool) (la0 la1 la2 er:Int) (C O:LL) (j:Nat)
def JPG:Prop:=
 decide (Int.ofNat j < Int.ofNat C.length) = true
def JXK:Prop:=
 (!J5 ((C.getD (Int.ofNat j).toNat []).getD 0 0)) = true
def JXy:Prop:=
 (!J5 ((C.getD (Int.ofNat j).toNat []).getD 0 0)) = false
def JcK:Prop:=
 C.length ≤ 1000 ∧ O.length ≤ 900000
def JG4:List Prop:=
 [JPG C j → 0 ≤ Int.ofNat j ∧ (Int.ofNat j).toNat < C.length ∧ (Int.ofNat j).toNat < C.length ∧ (JXK C j → ((zr l a0 a1 O C j).length + 1) * 176 ≤ 140737488355328 ∧ (zr l a0 a1 O C j).length + 1 ≤ 9223372036854775807) ∧ (JXy C j → (zr l a0 a1 O C j).length ≤ 1000000),JPG C j → (JXK C j → ((jk l y a0 a1 tr op cl en mo la0 la1 la2 er C O).next j 0 ≤ C.length ∧ JcK C O) ∧ (jk l y a0 a1 tr op cl en mo la0 la1 la2 er C O).μ ((jk l y a0 a1 tr op cl en mo la0 la1 la2 er C O).next j 0) < (jk l y a0 a1 tr op cl en mo la0 la1 la2 er C O).μ j ∧ (jk l y a0 a1 tr op cl en mo la0 la1 la2 er C O).fin ((jk l y a0 a1 tr op cl en mo la0 la1 la2 er C O).next j 0) = (jk l y a0 a1 tr op cl en mo la0 la1 la2 er C O).fin j ∧ Int.ofNat ((jk l y a0 a1 tr op cl en mo la0 la1 la2 er C O).next j 0) = IntKind.i64.wrap (Int.ofNat j + 1) ∧ Int.ofNat C.length = Int.ofNat C.length ∧ a0 = a0 ∧ a1 = a1 ∧ zr l a0 a1 O C ((jk l y a0 a1 tr op cl en mo la0 la1 la2 er C O).next j 0) = zr l a0 a1 O C j ++ [JgQ (C.getD (Int.ofNat j).toNat [])]) ∧ (JXy C j → ((jk l y a0 a1 tr op cl en mo la0 la1 la2 er C O).next j 1 ≤ C.length ∧ JcK C O) ∧ (jk l y a0 a1 tr op cl en mo la0 la1 la2 er C O).μ ((jk l y a0 a1 tr op cl en mo la0 la1 la2 er C O).next j 1) < (jk l y a0 a1 tr op cl en mo la0 la1 la2 er C O).μ j ∧ (jk l y a0 a1 tr op cl en mo la0 la1 la2 er C O).fin ((jk l y a0 a1 tr op cl en mo la0 la1 la2 er C O).next j 1) = (jk l y a0 a1 tr op cl en mo la0 la1 la2 er C O).fin j ∧ Int.ofNat ((jk l y a0 a1 tr op cl en mo la0 la1 la2 er C O).next j 1) = IntKind.i64.wrap (Int.ofNat j + 1) ∧ Int.ofNat C.length = Int.ofNat C.length ∧ a0 = a0 ∧ a1 = a1 ∧ zr l a0 a1 O C ((jk l y a0 a1 tr op cl en mo la0 la1 la2 er C O).next j 1) = XG (JC (C.getD (Int.ofNat j).toNat [])) a0 a1 (JY (xi l 8) ((C.getD (Int.ofNat j).toNat []).getD 2 0) ((C.getD (Int.ofNat j).toNat []).getD 3 0) ((C.getD (Int.ofNat j).toNat []).getD 4 0)) (JY (xi l 8) ((C.getD (Int.ofNat j).toNat []).getD 5 0) ((C.getD (Int.ofNat j).toNat []).getD 6 0) ((C.getD (Int.ofNat j).toNat []).getD 7 0)) false (J1 l) a0 a1 (zr l a0 a1 O C j)),decide (Int.ofNat j < Int.ofNat C.length) = false → a0 = a0 ∧ a1 = a1 ∧ JR1 l a0 a1 O C = zr l a0 a1 O C j]
end
theorem Ja5 (l y:List GC) (a0 a1:Int) (tr op cl en mo:Bool) (la0 la1 la2 er:Int) (C O:LL) (j:Nat) (hNeeds:∀ pN ∈ (JG4 l y a0 a1 tr op cl en mo la0 la1 la2 er C O j),pN):Q3 (XF (jk l y a0 a1 tr op cl en mo la0 la1 la2 er C O) (QR Tryz.prog (JE JFl) YY 70 0) 69 j) :=
  Q3.of (ps := (JG4 l y a0 a1 tr op cl en mo la0 la1 la2 er C O j)) (by kernel_rfl) (by kernel_rfl) hNeeds
theorem JW5 (l y:List GC) (a0 a1:Int) (tr op cl en mo:Bool) (la0 la1 la2 er:Int) (C O:LL):Z0 (jk l y a0 a1 tr op cl en mo la0 la1 la2 er C O) (QR Tryz.prog (JE JFl) YY 70 0) 69 := by
  intro j hJ
  obtain ⟨h1,h2,h3⟩:j ≤ C.length ∧ C.length ≤ 1000 ∧ O.length ≤ 900000 := hJ
  refine Ja5 l y a0 a1 tr op cl en mo la0 la1 la2 er C O j ?_
  unfold JG4
  have hl := Jdk l a0 a1 O C j
  have lt:JPG C j → j < C.length := by unfold JPG; simp
  simp only [awc,awn,and_true]
  refine ⟨fun h => ⟨by simp,lt h,lt h,fun _ => ⟨by omega,by omega⟩,fun _ => by omega⟩,fun h => ?_,fun h => ?_⟩
  · have hj := lt h
    have hs := JbN l a0 a1 O C j hj
    have e6:IntKind.i64.wrap (Int.ofNat j + 1) = Int.ofNat (j + 1) := Wu (by simp; omega) (by simp; omega)
    refine ⟨fun h1 => ⟨⟨hj,h2,h3⟩,by show C.length - (j + 1) < C.length - j; omega,trivial,e6.symm,trivial,trivial,trivial,?_⟩,fun h1 => ⟨⟨hj,h2,h3⟩,by show C.length - (j + 1) < C.length - j; omega,trivial,e6.symm,trivial,trivial,trivial,?_⟩⟩
    · show zr l a0 a1 O C (j + 1) = _
      rw [hs]; unfold JPu
      unfold JXK at h1
      rw [show J5 ((C.getD j []).getD 0 0) = false by simpa using h1]; rfl
    · show zr l a0 a1 O C (j + 1) = _
      rw [hs]; unfold JPu
      unfold JXy at h1
      rw [show J5 ((C.getD j []).getD 0 0) = true by simpa using h1]; rfl
  · have:j = C.length := by simp at h; omega
    rw [this]; exact ⟨trivial,trivial,(JeK ..).symm⟩
def JgO:Q5 := fun env mem m => match SX.J6 mem 0,SX.J6 mem 1,SX.J6 mem 2 with
  | some (.blk _ cs),some (.row _ _ _ (.lst _ _ C)),some (.row _ _ _ (.lst _ _ O)) => (match JZC QV cs with
    | some (l,r) => (match JZC QV r with
      | some (y,[(_,.int _ a0),(_,.int _ a1),(_,.bool tr),_,(_,.bool op),(_,.bool cl),(_,.bool en),(_,.bool mo),(_,.int _ la0),(_,.int _ la1),(_,.int _ la2),_,(_,.int _ er)]) => qS (jk l y a0.val a1.val tr.val op.val cl.val en.val mo.val la0.val la1.val la2.val er.val C O) 69 (fun _ _ => some 0) env mem m
      | _ => none)
    | none => none)
  | _,_,_ => none
def Qm:FuncId → Nat → Option Q5 := kR YY 70 1 JgO
theorem JLf:Known Tryz.prog (JE JFl) Qm := by
  refine Qc 0 JM8 (by kernel_rfl) (Z5 fun env mem m x h => ?_)
  unfold JgO at h
  have hlen:(QC Tryz.prog 70).length = 1 := by kernel_rfl
  split at h
  · split at h
    · split at h
      · exact ⟨_,XX (Qg XB JM8 (by omega)) (JW5 _ _ _ _ _ _ _ _ _ _ _ _ _ _ _),h⟩
      · cases h
    · cases h
  · cases h
def YU:Tpl := ⟨[.one (.ptr 0 0)],XH,62⟩
def zQ:List GK := [.v QV,.v QV,.i,.i,.b,.b,.b,.b,.b,.i,.i,.i,.i]
def QO (l:List GC) (a0 a1:Int) (C O:LL):LL :=
 JR1 (J1 l) a0 a1 O C
def Y9 (l:List GC) (a0 a1:Int) (C O:LL):List Prop :=
 [0 ≤ C.length ∧ C.length ≤ 1000 ∧ O.length ≤ 900000,Int.ofNat 0 = 0,Int.ofNat C.length = Int.ofNat C.length,a0 = a0,a1 = a1,zr (J1 l) a0 a1 O C 0 = O]
theorem JPj {l:List GC} {a0:Int} {a1:Int} {C:LL} {O:LL} (hW:∀ q ∈ ([C.length ≤ 1000,O.length ≤ 900000]:List Prop),q):∀ q ∈ (Y9 l a0 a1 C O),q := by
  simp only [awc,awn,and_true] at hW
  unfold Y9
  simp only [awc,awn,and_true]
  exact ⟨⟨Nat.zero_le _,hW⟩,rfl,trivial,trivial,trivial,rfl⟩
def JKB (l y:List GC) (a0 a1:Int) (tr op cl en mo:Bool) (la0 la1 la2 er:Int) (C O:LL):Je :=
 [(0,Obj.blk 66 [(3,Ci (xi l 0)),(4,Ci (xi l 1)),(5,Ci (xi l 2)),(6,Ci (xi l 3)),(7,Ci (xi l 4)),(8,Ci (xi l 5)),(9,Ci (xi l 6)),(10,Ci (xi l 7)),(11,Ci (xi l 8)),(12,Ci (xi l 9)),(13,Ci (xi l 10)),(14,Ci (xi l 11)),(15,Ci (xi l 12)),(16,Cb (xb l 13)),(17,Ci (xi l 14)),(18,Cb (xb l 15)),(19,Ci (xi l 16)),(20,Ci (xi l 17)),(21,Ci (xi l 18)),(22,Ci (xi l 19)),(23,Ci (xi l 20)),(24,Cb (xb l 21)),(25,Ci (xi y 0)),(26,Ci (xi y 1)),(27,Ci (xi y 2)),(28,Ci (xi y 3)),(29,Ci (xi y 4)),(30,Ci (xi y 5)),(31,Ci (xi y 6)),(32,Ci (xi y 7)),(33,Ci (xi y 8)),(34,Ci (xi y 9)),(35,Ci (xi y 10)),(36,Ci (xi y 11)),(37,Ci (xi y 12)),(38,Cb (xb y 13)),(39,Ci (xi y 14)),(40,Cb (xb y 15)),(41,Ci (xi y 16)),(42,Ci (xi y 17)),(43,Ci (xi y 18)),(44,Ci (xi y 19)),(45,Ci (xi y 20)),(46,Cb (xb y 21)),(113,Ci a0),(114,Ci a1),(49,Cb tr),(197,SC.wh 195),(51,Cb op),(52,Cb cl),(53,Cb en),(54,Cb mo),(55,Ci la0),(56,Ci la1),(57,Ci la2),(124,SC.wh 71),(59,Ci er)]),(195,Obj.row false 40 22 (RowC.lit 196 [])),(1,Obj.row false 40 22 (RowC.lst 60 ckI C)),(71,Obj.row false 40 22 (RowC.lst 130 ckI (QO l a0 a1 C O)))]
theorem JQ0 (l y:List GC) (a0 a1:Int) (tr op cl en mo:Bool) (la0 la1 la2 er:Int) (C O:LL) (hNeeds:∀ pN ∈ (Y9 l a0 a1 C O),pN):Runs (Jl (JE JFl) Qm 70) (YU.args (Jp zQ [.v l,.v y,.i a0,.i a1,.b tr,.b op,.b cl,.b en,.b mo,.i la0,.i la1,.i la2,.i er])) (YU.memo (Jp zQ [.v l,.v y,.i a0,.i a1,.b tr,.b op,.b cl,.b en,.b mo,.i la0,.i la1,.i la2,.i er]) [C,O]) YU.n (SV.tup []) (JKB l y a0 a1 tr op cl en mo la0 la1 la2 er C O) :=
  Runs.of1 (ps := (Y9 l a0 a1 C O)) (by kernel_rfl) hNeeds
def km:List Gm → Qs → Option CRes
  | [.v l,.v y,.i a0,.i a1,.b tr,.b op,.b cl,.b en,.b mo,.i la0,.i la1,.i la2,.i er],[C,O] => some ⟨SV.tup [],
 JKB l y a0 a1 tr op cl en mo la0 la1 la2 er C O,[C.length ≤ 1000,O.length ≤ 900000],[],198⟩
  | _,_ => none
theorem JYA:Qf Tryz.prog 70 (X5 zQ YU km) := by
  refine ZN (JF JLf 70) fun ps ls r hr hn _ => ?_
  unfold km at hr
  split at hr
  · cases hr; exact ⟨_,JQ0 _ _ _ _ _ _ _ _ _ _ _ _ _ _ _ (JPj (by exact hn)),fun _ => rfl⟩
  · cases hr
def JG0:List (Nat × JU) := (70,X5 zQ YU km) :: JFl
theorem JBe:Known Tryz.prog (JE JG0) Qm := J4 JLf JYA
theorem Yd (l:List GC) (a0 a1:Int) (C O:LL):(QO l a0 a1 C O).length ≤ O.length + C.length := (JJN l a0 a1 C O).2
theorem KS {c:Bool} {a b:LL} {k:Nat} (h:a.length ≤ k) (h':b.length ≤ k):(bif c then a else b).length ≤ k := by cases c <;> assumption
def qB:Tpl := ⟨[.one (.ptr 0 0),.agg pI],XH,62⟩
def JDR:List GK := [.v QV,.v QV,.v QV,.i,.i,.b,.b,.b,.b,.b,.i,.i,.i,.i]
section
variable (x:List GC) (C:LL) (op tr:Bool) (a0:Int) (y l:List GC)
def JPl:Int:=
 bif !JR (J1 x) (xi x 8) (xi x 17) then 14 else 0
def JZR:Int:=
 bif !JR (J1 x) (xi x 8) (xi x 17) then xi l 0 else xi x 0
def JYo:Int:=
 bif !JR (J1 x) (xi x 8) (xi x 17) then xi l 1 else xi x 1
def JYe:Int:=
 bif !JR (J1 x) (xi x 8) (xi x 17) then xi l 2 else xi x 2
def JYq:Int:=
 bif !JR (J1 x) (xi x 8) (xi x 17) then xi l 3 else xi x 3
def JYy:Int:=
 bif !JR (J1 x) (xi x 8) (xi x 17) then xi l 4 else xi x 4
def JZp:Int:=
 bif !JR (J1 x) (xi x 8) (xi x 17) then xi l 5 else xi x 5
def JZD:Int:=
 bif !JR (J1 x) (xi x 8) (xi x 17) then xi l 6 else xi x 6
def JZK:Int:=
 bif !JR (J1 x) (xi x 8) (xi x 17) then xi l 7 else xi x 7
def JYZ:Int:=
 bif !JR (J1 x) (xi x 8) (xi x 17) then xi l 8 else xi x 8
def JTF:Int:=
 bif !JR (J1 x) (xi x 8) (xi x 17) then xi l 9 else xi x 9
def JU2:Int:=
 bif !JR (J1 x) (xi x 8) (xi x 17) then xi l 10 else xi x 10
def JTM:Int:=
 bif !JR (J1 x) (xi x 8) (xi x 17) then xi l 11 else xi x 11
def JSV:Int:=
 bif !JR (J1 x) (xi x 8) (xi x 17) then xi l 12 else xi x 12
def JTV:Bool:=
 bif !JR (J1 x) (xi x 8) (xi x 17) then xb l 13 else xb x 13
def JUd:Int:=
 bif !JR (J1 x) (xi x 8) (xi x 17) then xi l 14 else xi x 14
def JRm:Bool:=
 bif !JR (J1 x) (xi x 8) (xi x 17) then xb l 15 else xb x 15
def JRn:Int:=
 bif !JR (J1 x) (xi x 8) (xi x 17) then xi l 16 else xi x 16
def JSI:Int:=
 bif !JR (J1 x) (xi x 8) (xi x 17) then xi l 17 else xi x 17
def JTK:Int:=
 bif !JR (J1 x) (xi x 8) (xi x 17) then xi l 18 else xi x 18
def JSU:Int:=
 bif !JR (J1 x) (xi x 8) (xi x 17) then xi l 19 else xi x 19
def JTz:Int:=
 bif !JR (J1 x) (xi x 8) (xi x 17) then xi l 20 else xi x 20
def JUp:Bool:=
 bif !JR (J1 x) (xi x 8) (xi x 17) then xb l 21 else xb x 21
def JUB:Int:=
 bif !JR (J1 x) (xi x 8) (xi x 17) then xi y 0 else 0
def JTQ:Int:=
 bif !JR (J1 x) (xi x 8) (xi x 17) then xi y 1 else 0
def JS4:Int:=
 bif !JR (J1 x) (xi x 8) (xi x 17) then xi y 2 else 0
def JUf:Int:=
 bif !JR (J1 x) (xi x 8) (xi x 17) then xi y 3 else 0
def JUI:Int:=
 bif !JR (J1 x) (xi x 8) (xi x 17) then xi y 4 else 0
def JUy:Int:=
 bif !JR (J1 x) (xi x 8) (xi x 17) then xi y 5 else 0
def JSk:Int:=
 bif !JR (J1 x) (xi x 8) (xi x 17) then xi y 6 else 0
def JSR:Int:=
 bif !JR (J1 x) (xi x 8) (xi x 17) then xi y 7 else 0
def JSP:Int:=
 bif !JR (J1 x) (xi x 8) (xi x 17) then xi y 8 else 0
def JSp:Int:=
 bif !JR (J1 x) (xi x 8) (xi x 17) then xi y 9 else 0
def JRy:Int:=
 bif !JR (J1 x) (xi x 8) (xi x 17) then xi y 10 else 0
def JRS:Int:=
 bif !JR (J1 x) (xi x 8) (xi x 17) then xi y 11 else 0
def JSB:Int:=
 bif !JR (J1 x) (xi x 8) (xi x 17) then xi y 12 else 0
def JSo:Bool:=
 !JR (J1 x) (xi x 8) (xi x 17) && xb y 13
def JSY:Int:=
 bif !JR (J1 x) (xi x 8) (xi x 17) then xi y 14 else 0
def JT1:Bool:=
 !JR (J1 x) (xi x 8) (xi x 17) && xb y 15
def JRz:Int:=
 bif !JR (J1 x) (xi x 8) (xi x 17) then xi y 16 else 0
def JUD:Int:=
 bif !JR (J1 x) (xi x 8) (xi x 17) then xi y 17 else 0
def JRb:Int:=
 bif !JR (J1 x) (xi x 8) (xi x 17) then xi y 18 else 0
def JT2:Int:=
 bif !JR (J1 x) (xi x 8) (xi x 17) then xi y 19 else 0
def JTy:Int:=
 bif !JR (J1 x) (xi x 8) (xi x 17) then xi y 20 else 0
def JTH:Bool:=
 !JR (J1 x) (xi x 8) (xi x 17) && xb y 21
def JDH:Int:=
 bif !JR (J1 x) (xi x 8) (xi x 17) then a0 else 0
def JTO:Bool:=
 !JR (J1 x) (xi x 8) (xi x 17) && tr
def JS7:Bool:=
 bif !JR (J1 x) (xi x 8) (xi x 17) then op else true
def JFf:LL:=
 bif !JR (J1 x) (xi x 8) (xi x 17) then C else []
end
def JIE := ckI
def Jez (x l y:List GC) (a0 a1:Int) (tr op cl en mo:Bool) (la0 la1 la2 er:Int) (C O:LL) := [(0,Obj.blk 66 [(413,Ci (JZR x l)),(414,Ci (JYo x l)),(415,Ci (JYe x l)),(416,Ci (JYq x l)),(417,Ci (JYy x l)),(418,Ci (JZp x l)),(419,Ci (JZD x l)),(420,Ci (JZK x l)),(421,Ci (JYZ x l)),(422,Ci (JTF x l)),(423,Ci (JU2 x l)),(424,Ci (JTM x l)),(425,Ci (JSV x l)),(426,Cb (JTV x l)),(427,Ci (JUd x l)),(428,Cb (JRm x l)),(429,Ci (JRn x l)),(430,Ci (JSI x l)),(431,Ci (JTK x l)),(432,Ci (JSU x l)),(433,Ci (JTz x l)),(434,Cb (JUp x l)),(435,Ci (JUB x y)),(436,Ci (JTQ x y)),(437,Ci (JS4 x y)),(438,Ci (JUf x y)),(439,Ci (JUI x y)),(440,Ci (JUy x y)),(441,Ci (JSk x y)),(442,Ci (JSR x y)),(443,Ci (JSP x y)),(444,Ci (JSp x y)),(445,Ci (JRy x y)),(446,Ci (JRS x y)),(447,Ci (JSB x y)),(448,Cb (JSo x y)),(449,Ci (JSY x y)),(450,Cb (JT1 x y)),(451,Ci (JRz x y)),(452,Ci (JUD x y)),(453,Ci (JRb x y)),(454,Ci (JT2 x y)),(455,Ci (JTy x y)),(456,Cb (JTH x y)),(457,Ci (JDH x a0)),(458,Ci (JDH x a1)),(459,Cb (JTO x tr)),(411,SC.wh 409),(460,Cb (JS7 x op)),(52,Cb cl),(53,Cb en),(54,Cb mo),(55,Ci la0),(56,Ci la1),(57,Ci la2),(58,SC.wh 2),(59,Ci er)]),(409,Obj.row false 40 22 (RowC.lst 412 JIE (JFf x C))),(2,Obj.row false 40 22 (RowC.lst 61 JIE O))]
theorem JVI (x l y:List GC) (a0 a1:Int) (tr op cl en mo:Bool) (la0 la1 la2 er:Int) (C O:LL):Runs (Jl (JE JG0) Qm 48) (qB.args (Jp JDR [.v x,.v l,.v y,.i a0,.i a1,.b tr,.b op,.b cl,.b en,.b mo,.i la0,.i la1,.i la2,.i er])) (qB.memo (Jp JDR [.v x,.v l,.v y,.i a0,.i a1,.b tr,.b op,.b cl,.b en,.b mo,.i la0,.i la1,.i la2,.i er]) [C,O]) qB.n (SV.one (Ci (JPl x))) ((Jez x l y a0 a1 tr op cl en mo la0 la1 la2 er C O)) :=
  Runs.of1 (ps := []) (by kernel_rfl) (by simp)
def JGx:List Gm → Qs → Option CRes
  | [.v x,.v l,.v y,.i a0,.i a1,.b tr,.b op,.b cl,.b en,.b mo,.i la0,.i la1,.i la2,.i er],[C,O] => some ⟨SV.one (Ci (JPl x)),
 (Jez x l y a0 a1 tr op cl en mo la0 la1 la2 er C O),[],[],461⟩
  | _,_ => none
theorem Jeu:Qf Tryz.prog 48 (X5 JDR qB JGx) := by
  refine ZN (JF JBe 48) fun ps ls r hr hn _ => ?_
  unfold JGx at hr
  split at hr
  · cases hr; exact ⟨_,JVI _ _ _ _ _ _ _ _ _ _ _ _ _ _ _ _,fun _ => rfl⟩
  · cases hr
def JQH:List (Nat × JU) := (48,X5 JDR qB JGx) :: JG0
theorem JIb:Known Tryz.prog (JE JQH) Qm := J4 JBe Jeu
def qN:Tpl := ⟨[.one (.ptr 0 0),.agg pI],XH,62⟩
def JFO:List GK := [.v QV,.v QV,.v QV,.i,.i,.b,.b,.b,.b,.b,.i,.i,.i,.i]
section
variable (x l:List GC) (C O:LL) (a1 a0:Int) (y:List GC) (q0:Nat)
def JTi:Int:=
 QB (J9 (xi l 8) (xi x 2) (xi x 3) (xi x 4)) (J8 (xi l 8) (xi x 2) (xi x 3) (xi x 4)) (J9 (xi l 8) (xi x 5) (xi x 6) (xi x 7)) (J8 (xi l 8) (xi x 5) (xi x 6) (xi x 7)) (bif xi x 0 == 3 then J9 (xi l 8) (xi x 9) (xi x 10) (xi x 11) else 0) (bif xi x 0 == 3 then J8 (xi l 8) (xi x 9) (xi x 10) (xi x 11) else 0) (bif xi x 0 == 3 then xi x 12 else 0) (IntKind.i64.wrap (xi l 16 * xi l 17))
def JPW:Int:=
 bif JTi x l != 0 then JTi x l else 0
def Z2:Int:=
 bif QB (J9 (xi l 8) (xi x 2) (xi x 3) (xi x 4)) (J8 (xi l 8) (xi x 2) (xi x 3) (xi x 4)) (J9 (xi l 8) (xi x 5) (xi x 6) (xi x 7)) (J8 (xi l 8) (xi x 5) (xi x 6) (xi x 7)) (bif xi x 0 == 3 then J9 (xi l 8) (xi x 9) (xi x 10) (xi x 11) else 0) (bif xi x 0 == 3 then J8 (xi l 8) (xi x 9) (xi x 10) (xi x 11) else 0) (bif xi x 0 == 3 then xi x 12 else 0) (IntKind.i64.wrap (xi l 16 * xi l 17)) != 0 then xi y q0 else xi x q0
def JUl:Int:= Z2 x l y 0
def JS9:Int:= Z2 x l y 1
def JUW:Int:= Z2 x l y 2
def JUH:Int:= Z2 x l y 3
def JSe:Int:= Z2 x l y 4
def JUZ:Int:= Z2 x l y 5
def JTw:Int:= Z2 x l y 6
def JTI:Int:= Z2 x l y 7
def JTG:Int:= Z2 x l y 8
def JU6:Int:= Z2 x l y 9
def JTp:Int:= Z2 x l y 10
def JSa:Int:= Z2 x l y 11
def JRR:Int:= Z2 x l y 12
def JKr:Bool:=
 bif QB (J9 (xi l 8) (xi x 2) (xi x 3) (xi x 4)) (J8 (xi l 8) (xi x 2) (xi x 3) (xi x 4)) (J9 (xi l 8) (xi x 5) (xi x 6) (xi x 7)) (J8 (xi l 8) (xi x 5) (xi x 6) (xi x 7)) (bif xi x 0 == 3 then J9 (xi l 8) (xi x 9) (xi x 10) (xi x 11) else 0) (bif xi x 0 == 3 then J8 (xi l 8) (xi x 9) (xi x 10) (xi x 11) else 0) (bif xi x 0 == 3 then xi x 12 else 0) (IntKind.i64.wrap (xi l 16 * xi l 17)) != 0 then xb y q0 else xb x q0
def JUK:Bool:= JKr x l y 13
def JRs:Int:= Z2 x l y 14
def JRd:Bool:= JKr x l y 15
def JTg:Int:= Z2 x l y 16
def JSM:Int:= Z2 x l y 17
def JUt:Int:= Z2 x l y 18
def JSr:Int:= Z2 x l y 19
def JTv:Int:= Z2 x l y 20
def JT8:Bool:= JKr x l y 21
def Xw:Int:=
 bif xi x 0 == 3 then J9 (xi l 8) (xi x 9) (xi x 10) (xi x 11) else 0
def Xv:Int:=
 bif xi x 0 == 3 then J8 (xi l 8) (xi x 9) (xi x 10) (xi x 11) else 0
def K2:Int:=
 bif xi x 0 == 3 then xi x 12 else 0
def JSO:Int:=
 bif QB (J9 (xi l 8) (xi x 2) (xi x 3) (xi x 4)) (J8 (xi l 8) (xi x 2) (xi x 3) (xi x 4)) (J9 (xi l 8) (xi x 5) (xi x 6) (xi x 7)) (J8 (xi l 8) (xi x 5) (xi x 6) (xi x 7)) (Xw x l) (Xv x l) (K2 x) (IntKind.i64.wrap (xi l 16 * xi l 17)) != 0 then a0 else ZX (J9 (xi l 8) (xi x 2) (xi x 3) (xi x 4)) (J8 (xi l 8) (xi x 2) (xi x 3) (xi x 4)) (J9 (xi l 8) (xi x 5) (xi x 6) (xi x 7)) (J8 (xi l 8) (xi x 5) (xi x 6) (xi x 7)) (Xw x l) (Xv x l) (K2 x) (IntKind.i64.wrap (xi l 16 * xi l 17))
def JSf:Int:=
 bif QB (J9 (xi l 8) (xi x 2) (xi x 3) (xi x 4)) (J8 (xi l 8) (xi x 2) (xi x 3) (xi x 4)) (J9 (xi l 8) (xi x 5) (xi x 6) (xi x 7)) (J8 (xi l 8) (xi x 5) (xi x 6) (xi x 7)) (Xw x l) (Xv x l) (K2 x) (IntKind.i64.wrap (xi l 16 * xi l 17)) != 0 then a1 else ZV (J9 (xi l 8) (xi x 2) (xi x 3) (xi x 4)) (J8 (xi l 8) (xi x 2) (xi x 3) (xi x 4)) (J9 (xi l 8) (xi x 5) (xi x 6) (xi x 7)) (J8 (xi l 8) (xi x 5) (xi x 6) (xi x 7)) (Xw x l) (Xv x l) (K2 x) (IntKind.i64.wrap (xi l 16 * xi l 17))
def JS0:Int:=
 ZX (J9 (xi l 8) (xi x 2) (xi x 3) (xi x 4)) (J8 (xi l 8) (xi x 2) (xi x 3) (xi x 4)) (J9 (xi l 8) (xi x 5) (xi x 6) (xi x 7)) (J8 (xi l 8) (xi x 5) (xi x 6) (xi x 7)) (Xw x l) (Xv x l) (K2 x) (IntKind.i64.wrap (xi l 16 * xi l 17))
def JU7:Int:=
 ZV (J9 (xi l 8) (xi x 2) (xi x 3) (xi x 4)) (J8 (xi l 8) (xi x 2) (xi x 3) (xi x 4)) (J9 (xi l 8) (xi x 5) (xi x 6) (xi x 7)) (J8 (xi l 8) (xi x 5) (xi x 6) (xi x 7)) (Xw x l) (Xv x l) (K2 x) (IntKind.i64.wrap (xi l 16 * xi l 17))
def JDh:LL:=
 bif QB (J9 (xi l 8) (xi x 2) (xi x 3) (xi x 4)) (J8 (xi l 8) (xi x 2) (xi x 3) (xi x 4)) (J9 (xi l 8) (xi x 5) (xi x 6) (xi x 7)) (J8 (xi l 8) (xi x 5) (xi x 6) (xi x 7)) (Xw x l) (Xv x l) (K2 x) (IntKind.i64.wrap (xi l 16 * xi l 17)) != 0 then O else QO (J1 l) (JS0 x l) (JU7 x l) C (XG (J1 l) (JS0 x l) (JU7 x l) (JY (xi l 8) (xi l 2) (xi l 3) (xi l 4)) (JY (xi l 8) (xi l 2) (xi l 3) (xi l 4)) true (J1 l) (J9 (xi l 8) (xi l 2) (xi l 3) (xi l 4)) (J8 (xi l 8) (xi l 2) (xi l 3) (xi l 4)) O)
def JDK:LL:=
 bif QB (J9 (xi l 8) (xi x 2) (xi x 3) (xi x 4)) (J8 (xi l 8) (xi x 2) (xi x 3) (xi x 4)) (J9 (xi l 8) (xi x 5) (xi x 6) (xi x 7)) (J8 (xi l 8) (xi x 5) (xi x 6) (xi x 7)) (bif xi x 0 == 3 then J9 (xi l 8) (xi x 9) (xi x 10) (xi x 11) else 0) (bif xi x 0 == 3 then J8 (xi l 8) (xi x 9) (xi x 10) (xi x 11) else 0) (bif xi x 0 == 3 then xi x 12 else 0) (IntKind.i64.wrap (xi l 16 * xi l 17)) != 0 then C else []
def jW:List Prop:=
 [(QB (J9 (xi l 8) (xi x 2) (xi x 3) (xi x 4)) (J8 (xi l 8) (xi x 2) (xi x 3) (xi x 4)) (J9 (xi l 8) (xi x 5) (xi x 6) (xi x 7)) (J8 (xi l 8) (xi x 5) (xi x 6) (xi x 7)) (Xw x l) (Xv x l) (K2 x) (IntKind.i64.wrap (xi l 16 * xi l 17)) != 0) = false → O.length ≤ 1000000 ∧ C.length ≤ 1000 ∧ (XG (J1 l) (ZX (J9 (xi l 8) (xi x 2) (xi x 3) (xi x 4)) (J8 (xi l 8) (xi x 2) (xi x 3) (xi x 4)) (J9 (xi l 8) (xi x 5) (xi x 6) (xi x 7)) (J8 (xi l 8) (xi x 5) (xi x 6) (xi x 7)) (Xw x l) (Xv x l) (K2 x) (IntKind.i64.wrap (xi l 16 * xi l 17))) (ZV (J9 (xi l 8) (xi x 2) (xi x 3) (xi x 4)) (J8 (xi l 8) (xi x 2) (xi x 3) (xi x 4)) (J9 (xi l 8) (xi x 5) (xi x 6) (xi x 7)) (J8 (xi l 8) (xi x 5) (xi x 6) (xi x 7)) (Xw x l) (Xv x l) (K2 x) (IntKind.i64.wrap (xi l 16 * xi l 17))) (JY (xi l 8) (xi l 2) (xi l 3) (xi l 4)) (JY (xi l 8) (xi l 2) (xi l 3) (xi l 4)) true (J1 l) (J9 (xi l 8) (xi l 2) (xi l 3) (xi l 4)) (J8 (xi l 8) (xi l 2) (xi l 3) (xi l 4)) O).length ≤ 900000]
end
theorem JWV {x:List GC} {l:List GC} {C:LL} {O:LL} (hW:∀ q ∈ ([C.length ≤ 1000,O.length ≤ 800000]:List Prop),q):∀ q ∈ (jW x l C O),q := by
  simp only [awc,awn,and_true] at hW
  unfold jW
  simp only [awc,awn,and_true]
  obtain ⟨h1,h2⟩ := hW
  refine fun _ => ⟨by omega,h1,?_⟩
  refine Nat.le_trans (KO ..).2 (by omega)
def Jd4 (l x y:List GC) (a0 a1:Int) (tr op cl en mo:Bool) (la0 la1 la2 er:Int) (C O:LL) := [(0,Obj.blk 66 [(3,Ci (xi l 0)),(4,Ci (xi l 1)),(5,Ci (xi l 2)),(6,Ci (xi l 3)),(7,Ci (xi l 4)),(8,Ci (xi l 5)),(9,Ci (xi l 6)),(10,Ci (xi l 7)),(11,Ci (xi l 8)),(12,Ci (xi l 9)),(13,Ci (xi l 10)),(14,Ci (xi l 11)),(15,Ci (xi l 12)),(16,Cb (xb l 13)),(17,Ci (xi l 14)),(18,Cb (xb l 15)),(19,Ci (xi l 16)),(20,Ci (xi l 17)),(21,Ci (xi l 18)),(22,Ci (xi l 19)),(23,Ci (xi l 20)),(24,Cb (xb l 21)),(12673,Ci (JUl x l y)),(12674,Ci (JS9 x l y)),(12675,Ci (JUW x l y)),(12676,Ci (JUH x l y)),(12677,Ci (JSe x l y)),(12678,Ci (JUZ x l y)),(12679,Ci (JTw x l y)),(12680,Ci (JTI x l y)),(12681,Ci (JTG x l y)),(12682,Ci (JU6 x l y)),(12683,Ci (JTp x l y)),(12684,Ci (JSa x l y)),(12685,Ci (JRR x l y)),(12686,Cb (JUK x l y)),(12687,Ci (JRs x l y)),(12688,Cb (JRd x l y)),(12689,Ci (JTg x l y)),(12690,Ci (JSM x l y)),(12691,Ci (JUt x l y)),(12692,Ci (JSr x l y)),(12693,Ci (JTv x l y)),(12694,Cb (JT8 x l y)),(12695,Ci (JSO x l a0)),(12696,Ci (JSf x l a1)),(49,Cb tr),(12667,SC.wh 12665),(51,Cb op),(52,Cb cl),(53,Cb en),(54,Cb mo),(55,Ci la0),(56,Ci la1),(57,Ci la2),(12670,SC.wh 12668),(59,Ci er)]),(12668,Obj.row false 40 22 (RowC.lst 12672 JIE (JDh x l C O))),(12665,Obj.row false 40 22 (RowC.lst 12671 JIE (JDK x l C)))]
theorem JV6 (x l y:List GC) (a0 a1:Int) (tr op cl en mo:Bool) (la0 la1 la2 er:Int) (C O:LL) (hNeeds:∀ pN ∈ (jW x l C O),pN):Runs (Jl (JE JQH) Qm 74) (qN.args (Jp JFO [.v x,.v l,.v y,.i a0,.i a1,.b tr,.b op,.b cl,.b en,.b mo,.i la0,.i la1,.i la2,.i er])) (qN.memo (Jp JFO [.v x,.v l,.v y,.i a0,.i a1,.b tr,.b op,.b cl,.b en,.b mo,.i la0,.i la1,.i la2,.i er]) [C,O]) qN.n (SV.one (Ci (JPW x l))) ((Jd4 l x y a0 a1 tr op cl en mo la0 la1 la2 er C O)) :=
  Runs.of1 (ps := (jW x l C O)) (by kernel_rfl) hNeeds
def JGK:List Gm → Qs → Option CRes
  | [.v x,.v l,.v y,.i a0,.i a1,.b tr,.b op,.b cl,.b en,.b mo,.i la0,.i la1,.i la2,.i er],[C,O] => some ⟨SV.one (Ci (JPW x l)),
 (Jd4 l x y a0 a1 tr op cl en mo la0 la1 la2 er C O),[C.length ≤ 1000,O.length ≤ 800000],[],12697⟩
  | _,_ => none
theorem Jdj:Qf Tryz.prog 74 (X5 JFO qN JGK) := by
  refine ZN (JF JIb 74) fun ps ls r hr hn _ => ?_
  unfold JGK at hr
  split at hr
  · cases hr; exact ⟨_,JV6 _ _ _ _ _ _ _ _ _ _ _ _ _ _ _ _ (JWV (by exact hn)),fun _ => rfl⟩
  · cases hr
def JRH:List (Nat × JU) := (74,X5 JFO qN JGK) :: JQH
theorem JIH:Known Tryz.prog (JE JRH) Qm := J4 JIb Jdj
def kZ:Tpl := ⟨[.one (.ptr 0 0),.agg pI],XH,62⟩
def JIr:List GK := [.v QV,.v QV,.v QV,.i,.i,.b,.b,.b,.b,.b,.i,.i,.i,.i]
section
variable (x l y:List GC)
def Zl:Int:=
 bif xi y 0 == 3 then J9 (xi l 8) (xi y 9) (xi y 10) (xi y 11) else 0
def Zh:Int:=
 bif xi y 0 == 3 then J8 (xi l 8) (xi y 9) (xi y 10) (xi y 11) else 0
def QJ:Int:=
 bif xi y 0 == 3 then xi y 12 else 0
def YB:Bool:=
 xi y 0 == 3 && xb y 13
def KC:Int:=
 bif xi x 0 == 3 then J9 (xi l 8) (xi x 9) (xi x 10) (xi x 11) else 0
def KA:Int:=
 bif xi x 0 == 3 then J8 (xi l 8) (xi x 9) (xi x 10) (xi x 11) else 0
def ZF:Int:=
 JPL (J9 (xi l 8) (xi y 2) (xi y 3) (xi y 4)) (J8 (xi l 8) (xi y 2) (xi y 3) (xi y 4)) (J9 (xi l 8) (xi y 5) (xi y 6) (xi y 7)) (J8 (xi l 8) (xi y 5) (xi y 6) (xi y 7)) (Zl l y) (Zh l y) (QJ y) (YB y) (J9 (xi l 8) (xi x 2) (xi x 3) (xi x 4)) (J8 (xi l 8) (xi x 2) (xi x 3) (xi x 4)) (J9 (xi l 8) (xi x 5) (xi x 6) (xi x 7)) (J8 (xi l 8) (xi x 5) (xi x 6) (xi x 7)) (KC x l) (KA x l) (QJ x) (YB x) (IntKind.i64.wrap (xi l 16 * xi l 17))
end
def JS6 (l y x:List GC) := JMH (J9 (xi l 8) (xi y 2) (xi y 3) (xi y 4)) (J8 (xi l 8) (xi y 2) (xi y 3) (xi y 4)) (J9 (xi l 8) (xi y 5) (xi y 6) (xi y 7)) (J8 (xi l 8) (xi y 5) (xi y 6) (xi y 7)) (Zl l y) (Zh l y) (QJ y) (YB y) (J9 (xi l 8) (xi x 2) (xi x 3) (xi x 4)) (J8 (xi l 8) (xi x 2) (xi x 3) (xi x 4)) (J9 (xi l 8) (xi x 5) (xi x 6) (xi x 7)) (J8 (xi l 8) (xi x 5) (xi x 6) (xi x 7)) (KC x l) (KA x l) (QJ x) (YB x) (IntKind.i64.wrap (xi l 16 * xi l 17))
def JRw (l y x:List GC) := JJR (J9 (xi l 8) (xi y 2) (xi y 3) (xi y 4)) (J8 (xi l 8) (xi y 2) (xi y 3) (xi y 4)) (J9 (xi l 8) (xi y 5) (xi y 6) (xi y 7)) (J8 (xi l 8) (xi y 5) (xi y 6) (xi y 7)) (Zl l y) (Zh l y) (QJ y) (YB y) (J9 (xi l 8) (xi x 2) (xi x 3) (xi x 4)) (J8 (xi l 8) (xi x 2) (xi x 3) (xi x 4)) (J9 (xi l 8) (xi x 5) (xi x 6) (xi x 7)) (J8 (xi l 8) (xi x 5) (xi x 6) (xi x 7)) (KC x l) (KA x l) (QJ x) (YB x) (IntKind.i64.wrap (xi l 16 * xi l 17))
section
variable (x l y:List GC) (a0 a1:Int) (tr:Bool)
def JZm:Int:=
 Q7 (JS6 l y x) (JRw l y x) true (J1 l) (J1 y) a0 a1 tr
def JSq:Int:=
 QB (J9 (xi l 8) (xi y 2) (xi y 3) (xi y 4)) (J8 (xi l 8) (xi y 2) (xi y 3) (xi y 4)) (J9 (xi l 8) (xi y 5) (xi y 6) (xi y 7)) (J8 (xi l 8) (xi y 5) (xi y 6) (xi y 7)) (Zl l y) (Zh l y) (QJ y) (IntKind.i64.wrap (xi l 16 * xi l 17))
def Qj:Int:=
 QB (J9 (xi l 8) (xi x 2) (xi x 3) (xi x 4)) (J8 (xi l 8) (xi x 2) (xi x 3) (xi x 4)) (J9 (xi l 8) (xi x 5) (xi x 6) (xi x 7)) (J8 (xi l 8) (xi x 5) (xi x 6) (xi x 7)) (KC x l) (KA x l) (QJ x) (IntKind.i64.wrap (xi l 16 * xi l 17))
end
def JUR (l y:List GC) := Zk (J9 (xi l 8) (xi y 2) (xi y 3) (xi y 4)) (J8 (xi l 8) (xi y 2) (xi y 3) (xi y 4)) (J9 (xi l 8) (xi y 5) (xi y 6) (xi y 7)) (J8 (xi l 8) (xi y 5) (xi y 6) (xi y 7)) (Zl l y) (Zh l y) (QJ y) (IntKind.i64.wrap (xi l 16 * xi l 17))
def JUA (l y:List GC) := Zi (J9 (xi l 8) (xi y 2) (xi y 3) (xi y 4)) (J8 (xi l 8) (xi y 2) (xi y 3) (xi y 4)) (J9 (xi l 8) (xi y 5) (xi y 6) (xi y 7)) (J8 (xi l 8) (xi y 5) (xi y 6) (xi y 7)) (Zl l y) (Zh l y) (QJ y) (IntKind.i64.wrap (xi l 16 * xi l 17))
def JRj (l y:List GC) (a0 a1:Int) (tr:Bool):Int :=
 Q7 (JUR l y) (JUA l y) false (J1 l) (J1 y) a0 a1 tr
def kL (l y x:List GC) := bif IntKind.i64.wrap (xi l 16 * xi l 17) == 0 then 0 else JBE (Qe (xi y 0) (xi y 2) (xi y 3) (xi y 4) (xi y 5) (xi y 6) (xi y 7) (xi y 8) (xi y 9) (xi y 10) (xi y 11) (xi y 12) true) (Qd (xi y 0) (xi y 2) (xi y 3) (xi y 4) (xi y 5) (xi y 6) (xi y 7) (xi y 8) (xi y 9) (xi y 10) (xi y 11) (xi y 12) true) (Qe (xi x 0) (xi x 2) (xi x 3) (xi x 4) (xi x 5) (xi x 6) (xi x 7) (xi x 8) (xi x 9) (xi x 10) (xi x 11) (xi x 12) false) (Qd (xi x 0) (xi x 2) (xi x 3) (xi x 4) (xi x 5) (xi x 6) (xi x 7) (xi x 8) (xi x 9) (xi x 10) (xi x 11) (xi x 12) false) (xi l 16)
section
variable (x l y:List GC) (a0 a1:Int) (tr:Bool) (C O:LL) (q0:Nat)
def JWW:Int:=
 bif (kL l y x) == 2 then bif ZF x l y == 0 then bif JZm x l y a0 a1 tr != 0 then JZm x l y a0 a1 tr else 0 else bif ZF x l y != 0 then ZF x l y else 0 else bif JSq l y != 0 then JSq l y else bif Qj x l == 0 then bif JRj l y a0 a1 tr != 0 then JRj l y a0 a1 tr else 0 else bif Qj x l != 0 then Qj x l else 0
def ZW:Int:=
 bif (kL l y x) == 2 then bif ZF x l y == 0 then bif Q7 (JS6 l y x) (JRw l y x) true (J1 l) (J1 y) a0 a1 tr != 0 then xi y q0 else xi x q0 else bif ZF x l y != 0 then xi y q0 else xi x q0 else bif QB (J9 (xi l 8) (xi y 2) (xi y 3) (xi y 4)) (J8 (xi l 8) (xi y 2) (xi y 3) (xi y 4)) (J9 (xi l 8) (xi y 5) (xi y 6) (xi y 7)) (J8 (xi l 8) (xi y 5) (xi y 6) (xi y 7)) (Zl l y) (Zh l y) (QJ y) (IntKind.i64.wrap (xi l 16 * xi l 17)) != 0 then xi y q0 else bif Qj x l == 0 then bif Q7 (JUR l y) (JUA l y) false (J1 l) (J1 y) a0 a1 tr != 0 then xi y q0 else xi x q0 else bif Qj x l != 0 then xi y q0 else xi x q0
def JYN:Int:= ZW x l y a0 a1 tr 0
def JZc:Int:= ZW x l y a0 a1 tr 1
def JZG:Int:= ZW x l y a0 a1 tr 2
def JYw:Int:= ZW x l y a0 a1 tr 3
def JYd:Int:= ZW x l y a0 a1 tr 4
def JZU:Int:= ZW x l y a0 a1 tr 5
def JZH:Int:= ZW x l y a0 a1 tr 6
def JYH:Int:= ZW x l y a0 a1 tr 7
def JZ2:Int:= ZW x l y a0 a1 tr 8
def JYj:Int:= ZW x l y a0 a1 tr 9
def JZt:Int:= ZW x l y a0 a1 tr 10
def JZA:Int:= ZW x l y a0 a1 tr 11
def JZX:Int:= ZW x l y a0 a1 tr 12
def JOM:Bool:=
 bif (kL l y x) == 2 then bif ZF x l y == 0 then bif Q7 (JS6 l y x) (JRw l y x) true (J1 l) (J1 y) a0 a1 tr != 0 then xb y q0 else xb x q0 else bif ZF x l y != 0 then xb y q0 else xb x q0 else bif QB (J9 (xi l 8) (xi y 2) (xi y 3) (xi y 4)) (J8 (xi l 8) (xi y 2) (xi y 3) (xi y 4)) (J9 (xi l 8) (xi y 5) (xi y 6) (xi y 7)) (J8 (xi l 8) (xi y 5) (xi y 6) (xi y 7)) (Zl l y) (Zh l y) (QJ y) (IntKind.i64.wrap (xi l 16 * xi l 17)) != 0 then xb y q0 else bif Qj x l == 0 then bif Q7 (JUR l y) (JUA l y) false (J1 l) (J1 y) a0 a1 tr != 0 then xb y q0 else xb x q0 else bif Qj x l != 0 then xb y q0 else xb x q0
def JYz:Bool:= JOM x l y a0 a1 tr 13
def JYs:Int:= ZW x l y a0 a1 tr 14
def JZT:Bool:= JOM x l y a0 a1 tr 15
def JYT:Int:= ZW x l y a0 a1 tr 16
def JYU:Int:= ZW x l y a0 a1 tr 17
def JYt:Int:= ZW x l y a0 a1 tr 18
def JZh:Int:= ZW x l y a0 a1 tr 19
def JZM:Int:= ZW x l y a0 a1 tr 20
def JZ5:Bool:= JOM x l y a0 a1 tr 21
def XR:Int:=
 JMH (J9 (xi l 8) (xi y 2) (xi y 3) (xi y 4)) (J8 (xi l 8) (xi y 2) (xi y 3) (xi y 4)) (J9 (xi l 8) (xi y 5) (xi y 6) (xi y 7)) (J8 (xi l 8) (xi y 5) (xi y 6) (xi y 7)) (Zl l y) (Zh l y) (QJ y) (YB y) (J9 (xi l 8) (xi x 2) (xi x 3) (xi x 4)) (J8 (xi l 8) (xi x 2) (xi x 3) (xi x 4)) (J9 (xi l 8) (xi x 5) (xi x 6) (xi x 7)) (J8 (xi l 8) (xi x 5) (xi x 6) (xi x 7)) (KC x l) (KA x l) (QJ x) (YB x) (IntKind.i64.wrap (xi l 16 * xi l 17))
def XT:Int:=
 JJR (J9 (xi l 8) (xi y 2) (xi y 3) (xi y 4)) (J8 (xi l 8) (xi y 2) (xi y 3) (xi y 4)) (J9 (xi l 8) (xi y 5) (xi y 6) (xi y 7)) (J8 (xi l 8) (xi y 5) (xi y 6) (xi y 7)) (Zl l y) (Zh l y) (QJ y) (YB y) (J9 (xi l 8) (xi x 2) (xi x 3) (xi x 4)) (J8 (xi l 8) (xi x 2) (xi x 3) (xi x 4)) (J9 (xi l 8) (xi x 5) (xi x 6) (xi x 7)) (J8 (xi l 8) (xi x 5) (xi x 6) (xi x 7)) (KC x l) (KA x l) (QJ x) (YB x) (IntKind.i64.wrap (xi l 16 * xi l 17))
def ZR:Int:=
 Zk (J9 (xi l 8) (xi y 2) (xi y 3) (xi y 4)) (J8 (xi l 8) (xi y 2) (xi y 3) (xi y 4)) (J9 (xi l 8) (xi y 5) (xi y 6) (xi y 7)) (J8 (xi l 8) (xi y 5) (xi y 6) (xi y 7)) (Zl l y) (Zh l y) (QJ y) (IntKind.i64.wrap (xi l 16 * xi l 17))
def ZT:Int:=
 Zi (J9 (xi l 8) (xi y 2) (xi y 3) (xi y 4)) (J8 (xi l 8) (xi y 2) (xi y 3) (xi y 4)) (J9 (xi l 8) (xi y 5) (xi y 6) (xi y 7)) (J8 (xi l 8) (xi y 5) (xi y 6) (xi y 7)) (Zl l y) (Zh l y) (QJ y) (IntKind.i64.wrap (xi l 16 * xi l 17))
def JSc:Int:=
 ZX (J9 (xi l 8) (xi x 2) (xi x 3) (xi x 4)) (J8 (xi l 8) (xi x 2) (xi x 3) (xi x 4)) (J9 (xi l 8) (xi x 5) (xi x 6) (xi x 7)) (J8 (xi l 8) (xi x 5) (xi x 6) (xi x 7)) (KC x l) (KA x l) (QJ x) (IntKind.i64.wrap (xi l 16 * xi l 17))
def JZb:Int:=
 bif (kL l y x) == 2 then bif ZF x l y == 0 then bif Q7 (XR x l y) (XT x l y) true (J1 l) (J1 y) a0 a1 tr != 0 then XM (XR x l y) (XT x l y) true (J1 l) (J1 y) a0 a1 tr else XM (XR x l y) (XT x l y) true (J1 l) (J1 y) a0 a1 tr else bif ZF x l y != 0 then a0 else a0 else bif QB (J9 (xi l 8) (xi y 2) (xi y 3) (xi y 4)) (J8 (xi l 8) (xi y 2) (xi y 3) (xi y 4)) (J9 (xi l 8) (xi y 5) (xi y 6) (xi y 7)) (J8 (xi l 8) (xi y 5) (xi y 6) (xi y 7)) (Zl l y) (Zh l y) (QJ y) (IntKind.i64.wrap (xi l 16 * xi l 17)) != 0 then a0 else bif Qj x l == 0 then bif Q7 (ZR l y) (ZT l y) false (J1 l) (J1 y) a0 a1 tr != 0 then XM (ZR l y) (ZT l y) false (J1 l) (J1 y) a0 a1 tr else JSc x l else bif Qj x l != 0 then a0 else JSc x l
def JUx:Int:=
 ZV (J9 (xi l 8) (xi x 2) (xi x 3) (xi x 4)) (J8 (xi l 8) (xi x 2) (xi x 3) (xi x 4)) (J9 (xi l 8) (xi x 5) (xi x 6) (xi x 7)) (J8 (xi l 8) (xi x 5) (xi x 6) (xi x 7)) (KC x l) (KA x l) (QJ x) (IntKind.i64.wrap (xi l 16 * xi l 17))
def JYO:Int:=
 bif (kL l y x) == 2 then bif ZF x l y == 0 then bif Q7 (XR x l y) (XT x l y) true (J1 l) (J1 y) a0 a1 tr != 0 then XO (XR x l y) (XT x l y) true (J1 l) (J1 y) a0 a1 tr else XO (XR x l y) (XT x l y) true (J1 l) (J1 y) a0 a1 tr else bif ZF x l y != 0 then a1 else a1 else bif QB (J9 (xi l 8) (xi y 2) (xi y 3) (xi y 4)) (J8 (xi l 8) (xi y 2) (xi y 3) (xi y 4)) (J9 (xi l 8) (xi y 5) (xi y 6) (xi y 7)) (J8 (xi l 8) (xi y 5) (xi y 6) (xi y 7)) (Zl l y) (Zh l y) (QJ y) (IntKind.i64.wrap (xi l 16 * xi l 17)) != 0 then a1 else bif Qj x l == 0 then bif Q7 (ZR l y) (ZT l y) false (J1 l) (J1 y) a0 a1 tr != 0 then XO (ZR l y) (ZT l y) false (J1 l) (J1 y) a0 a1 tr else JUx x l else bif Qj x l != 0 then a1 else JUx x l
def JZi:Bool:=
 bif (kL l y x) == 2 then bif ZF x l y == 0 then bif Q7 (JS6 l y x) (JRw l y x) true (J1 l) (J1 y) a0 a1 tr != 0 then tr else true else bif ZF x l y != 0 then tr else true else bif QB (J9 (xi l 8) (xi y 2) (xi y 3) (xi y 4)) (J8 (xi l 8) (xi y 2) (xi y 3) (xi y 4)) (J9 (xi l 8) (xi y 5) (xi y 6) (xi y 7)) (J8 (xi l 8) (xi y 5) (xi y 6) (xi y 7)) (Zl l y) (Zh l y) (QJ y) (IntKind.i64.wrap (xi l 16 * xi l 17)) != 0 then tr else bif Qj x l == 0 then Q7 (JUR l y) (JUA l y) false (J1 l) (J1 y) a0 a1 tr != 0 && tr else Qj x l != 0 && tr
def JU3:LL:=
 Zr (XR x l y) (XT x l y) true (J1 l) (J1 y) a0 a1 tr O
def JJ2:LL:=
 bif (kL l y x) == 2 then bif ZF x l y == 0 then bif Q7 (XR x l y) (XT x l y) true (J1 l) (J1 y) a0 a1 tr != 0 then JU3 x l y a0 a1 tr O else QO (J1 l) (XM (XR x l y) (XT x l y) true (J1 l) (J1 y) a0 a1 tr) (XO (XR x l y) (XT x l y) true (J1 l) (J1 y) a0 a1 tr) C (JU3 x l y a0 a1 tr O) else bif ZF x l y != 0 then O else QO (J1 l) a0 a1 C O else bif QB (J9 (xi l 8) (xi y 2) (xi y 3) (xi y 4)) (J8 (xi l 8) (xi y 2) (xi y 3) (xi y 4)) (J9 (xi l 8) (xi y 5) (xi y 6) (xi y 7)) (J8 (xi l 8) (xi y 5) (xi y 6) (xi y 7)) (Zl l y) (Zh l y) (QJ y) (IntKind.i64.wrap (xi l 16 * xi l 17)) != 0 then O else bif Qj x l == 0 then bif Q7 (ZR l y) (ZT l y) false (J1 l) (J1 y) a0 a1 tr != 0 then Zr (ZR l y) (ZT l y) false (J1 l) (J1 y) a0 a1 tr O else jH (J1 x) (ZX (J9 (xi l 8) (xi x 2) (xi x 3) (xi x 4)) (J8 (xi l 8) (xi x 2) (xi x 3) (xi x 4)) (J9 (xi l 8) (xi x 5) (xi x 6) (xi x 7)) (J8 (xi l 8) (xi x 5) (xi x 6) (xi x 7)) (KC x l) (KA x l) (QJ x) (IntKind.i64.wrap (xi l 16 * xi l 17))) (ZV (J9 (xi l 8) (xi x 2) (xi x 3) (xi x 4)) (J8 (xi l 8) (xi x 2) (xi x 3) (xi x 4)) (J9 (xi l 8) (xi x 5) (xi x 6) (xi x 7)) (J8 (xi l 8) (xi x 5) (xi x 6) (xi x 7)) (KC x l) (KA x l) (QJ x) (IntKind.i64.wrap (xi l 16 * xi l 17))) ((kL l y x) == 1) (J1 l) (XM (ZR l y) (ZT l y) false (J1 l) (J1 y) a0 a1 tr) (XO (ZR l y) (ZT l y) false (J1 l) (J1 y) a0 a1 tr) (QO (J1 l) (XM (ZR l y) (ZT l y) false (J1 l) (J1 y) a0 a1 tr) (XO (ZR l y) (ZT l y) false (J1 l) (J1 y) a0 a1 tr) C (Zr (ZR l y) (ZT l y) false (J1 l) (J1 y) a0 a1 tr O)) else bif Qj x l != 0 then O else jH (J1 x) (ZX (J9 (xi l 8) (xi x 2) (xi x 3) (xi x 4)) (J8 (xi l 8) (xi x 2) (xi x 3) (xi x 4)) (J9 (xi l 8) (xi x 5) (xi x 6) (xi x 7)) (J8 (xi l 8) (xi x 5) (xi x 6) (xi x 7)) (KC x l) (KA x l) (QJ x) (IntKind.i64.wrap (xi l 16 * xi l 17))) (ZV (J9 (xi l 8) (xi x 2) (xi x 3) (xi x 4)) (J8 (xi l 8) (xi x 2) (xi x 3) (xi x 4)) (J9 (xi l 8) (xi x 5) (xi x 6) (xi x 7)) (J8 (xi l 8) (xi x 5) (xi x 6) (xi x 7)) (KC x l) (KA x l) (QJ x) (IntKind.i64.wrap (xi l 16 * xi l 17))) ((kL l y x) == 1) (J1 l) a0 a1 (QO (J1 l) a0 a1 C O)
def JIz:LL:=
 bif (kL l y x) == 2 then bif ZF x l y == 0 then bif Q7 (JS6 l y x) (JRw l y x) true (J1 l) (J1 y) a0 a1 tr != 0 then C else [] else bif ZF x l y != 0 then C else [] else bif QB (J9 (xi l 8) (xi y 2) (xi y 3) (xi y 4)) (J8 (xi l 8) (xi y 2) (xi y 3) (xi y 4)) (J9 (xi l 8) (xi y 5) (xi y 6) (xi y 7)) (J8 (xi l 8) (xi y 5) (xi y 6) (xi y 7)) (Zl l y) (Zh l y) (QJ y) (IntKind.i64.wrap (xi l 16 * xi l 17)) != 0 then C else bif Qj x l == 0 then bif Q7 (JUR l y) (JUA l y) false (J1 l) (J1 y) a0 a1 tr != 0 then C else [] else bif Qj x l != 0 then C else []
def zO:List Prop:=
 [((kL l y x) == 2) = true → ((ZF x l y == 0) = true → O.length ≤ 1000000) ∧ ((ZF x l y == 0) = true → (Q7 (XR x l y) (XT x l y) true (J1 l) (J1 y) a0 a1 tr != 0) = false → C.length ≤ 1000 ∧ (Zr (XR x l y) (XT x l y) true (J1 l) (J1 y) a0 a1 tr O).length ≤ 900000) ∧ ((ZF x l y == 0) = false → (ZF x l y != 0) = false → C.length ≤ 1000 ∧ O.length ≤ 900000),((kL l y x) == 2) = false → (QB (J9 (xi l 8) (xi y 2) (xi y 3) (xi y 4)) (J8 (xi l 8) (xi y 2) (xi y 3) (xi y 4)) (J9 (xi l 8) (xi y 5) (xi y 6) (xi y 7)) (J8 (xi l 8) (xi y 5) (xi y 6) (xi y 7)) (Zl l y) (Zh l y) (QJ y) (IntKind.i64.wrap (xi l 16 * xi l 17)) != 0) = false → ((Qj x l == 0) = true → O.length ≤ 1000000) ∧ ((Qj x l == 0) = true → (Q7 (ZR l y) (ZT l y) false (J1 l) (J1 y) a0 a1 tr != 0) = false → C.length ≤ 1000 ∧ (Zr (ZR l y) (ZT l y) false (J1 l) (J1 y) a0 a1 tr O).length ≤ 900000 ∧ (QO (J1 l) (XM (ZR l y) (ZT l y) false (J1 l) (J1 y) a0 a1 tr) (XO (ZR l y) (ZT l y) false (J1 l) (J1 y) a0 a1 tr) C (Zr (ZR l y) (ZT l y) false (J1 l) (J1 y) a0 a1 tr O)).length ≤ 1000000) ∧ ((Qj x l == 0) = false → (Qj x l != 0) = false → C.length ≤ 1000 ∧ O.length ≤ 900000 ∧ (QO (J1 l) a0 a1 C O).length ≤ 1000000)]
end
theorem Jat {x:List GC} {l:List GC} {y:List GC} {a0:Int} {a1:Int} {tr:Bool} {C:LL} {O:LL} (hW:∀ q ∈ ([C.length ≤ 1000,O.length ≤ 800000]:List Prop),q):∀ q ∈ (zO x l y a0 a1 tr C O),q := by
  simp only [awc,awn,and_true] at hW
  unfold zO
  simp only [awc,awn,and_true]
  obtain ⟨h1,h2⟩ := hW
  have s := fun u w tm => (Xp u w tm (J1 l) (J1 y) a0 a1 tr O).2
  have r := fun a0 a1 O => Yd (J1 l) a0 a1 C O
  refine ⟨fun _ => ⟨fun _ => by omega,fun _ _ => ⟨h1,Nat.le_trans (s ..) (by omega)⟩,fun _ _ => ⟨h1,by omega⟩⟩,fun _ _ => ⟨fun _ => by omega,fun _ _ => ⟨h1,Nat.le_trans (s ..) (by omega),Nat.le_trans (r ..) (Nat.le_trans (Nat.add_le_add_right (s ..) _) (by omega))⟩,fun _ _ => ⟨h1,by omega,Nat.le_trans (r ..) (by omega)⟩⟩⟩
def Jg9 (l x y:List GC) (a0 a1:Int) (tr op cl en mo:Bool) (la0 la1 la2 er:Int) (C O:LL) := [(0,Obj.blk 66 [(3,Ci (xi l 0)),(4,Ci (xi l 1)),(5,Ci (xi l 2)),(6,Ci (xi l 3)),(7,Ci (xi l 4)),(8,Ci (xi l 5)),(9,Ci (xi l 6)),(10,Ci (xi l 7)),(11,Ci (xi l 8)),(12,Ci (xi l 9)),(13,Ci (xi l 10)),(14,Ci (xi l 11)),(15,Ci (xi l 12)),(16,Cb (xb l 13)),(17,Ci (xi l 14)),(18,Cb (xb l 15)),(19,Ci (xi l 16)),(20,Ci (xi l 17)),(21,Ci (xi l 18)),(22,Ci (xi l 19)),(23,Ci (xi l 20)),(24,Cb (xb l 21)),(66287,Ci (JYN x l y a0 a1 tr)),(66288,Ci (JZc x l y a0 a1 tr)),(66289,Ci (JZG x l y a0 a1 tr)),(66290,Ci (JYw x l y a0 a1 tr)),(66291,Ci (JYd x l y a0 a1 tr)),(66292,Ci (JZU x l y a0 a1 tr)),(66293,Ci (JZH x l y a0 a1 tr)),(66294,Ci (JYH x l y a0 a1 tr)),(66295,Ci (JZ2 x l y a0 a1 tr)),(66296,Ci (JYj x l y a0 a1 tr)),(66297,Ci (JZt x l y a0 a1 tr)),(66298,Ci (JZA x l y a0 a1 tr)),(66299,Ci (JZX x l y a0 a1 tr)),(66300,Cb (JYz x l y a0 a1 tr)),(66301,Ci (JYs x l y a0 a1 tr)),(66302,Cb (JZT x l y a0 a1 tr)),(66303,Ci (JYT x l y a0 a1 tr)),(66304,Ci (JYU x l y a0 a1 tr)),(66305,Ci (JYt x l y a0 a1 tr)),(66306,Ci (JZh x l y a0 a1 tr)),(66307,Ci (JZM x l y a0 a1 tr)),(66308,Cb (JZ5 x l y a0 a1 tr)),(66309,Ci (JZb x l y a0 a1 tr)),(66310,Ci (JYO x l y a0 a1 tr)),(66311,Cb (JZi x l y a0 a1 tr)),(66281,SC.wh 66279),(51,Cb op),(52,Cb cl),(53,Cb en),(54,Cb mo),(55,Ci la0),(56,Ci la1),(57,Ci la2),(66284,SC.wh 66282),(59,Ci er)]),(66282,Obj.row false 40 22 (RowC.lst 66286 JIE (JJ2 x l y a0 a1 tr C O))),(66279,Obj.row false 40 22 (RowC.lst 66285 JIE (JIz x l y a0 a1 tr C)))]
theorem Jal (x l y:List GC) (a0 a1:Int) (tr op cl en mo:Bool) (la0 la1 la2 er:Int) (C O:LL) (hNeeds:∀ pN ∈ (zO x l y a0 a1 tr C O),pN):Runs (Jl (JE JRH) Qm 75) (kZ.args (Jp JIr [.v x,.v l,.v y,.i a0,.i a1,.b tr,.b op,.b cl,.b en,.b mo,.i la0,.i la1,.i la2,.i er])) (kZ.memo (Jp JIr [.v x,.v l,.v y,.i a0,.i a1,.b tr,.b op,.b cl,.b en,.b mo,.i la0,.i la1,.i la2,.i er]) [C,O]) kZ.n (SV.one (Ci (JWW x l y a0 a1 tr))) ((Jg9 l x y a0 a1 tr op cl en mo la0 la1 la2 er C O)) :=
  Runs.of1 (ps := (zO x l y a0 a1 tr C O)) (by kernel_rfl) hNeeds
def JJm:List Gm → Qs → Option CRes
  | [.v x,.v l,.v y,.i a0,.i a1,.b tr,.b op,.b cl,.b en,.b mo,.i la0,.i la1,.i la2,.i er],[C,O] => some ⟨SV.one (Ci (JWW x l y a0 a1 tr)),
 (Jg9 l x y a0 a1 tr op cl en mo la0 la1 la2 er C O),[C.length ≤ 1000,O.length ≤ 800000],[],66312⟩
  | _,_ => none
theorem JfY:Qf Tryz.prog 75 (X5 JIr kZ JJm) := by
  refine ZN (JF JIH 75) fun ps ls r hr hn _ => ?_
  unfold JJm at hr
  split at hr
  · cases hr; exact ⟨_,Jal _ _ _ _ _ _ _ _ _ _ _ _ _ _ _ _ (Jat (by exact hn)),fun _ => rfl⟩
  · cases hr
def JVv:List (Nat × JU) := (75,X5 JIr kZ JJm) :: JRH
theorem JL9:Known Tryz.prog (JE JVv) Qm := J4 JIH JfY
def WV:Tpl := ⟨[.one (.ptr 0 0),.agg pI],XH,62⟩
def JAy:List GK := [.v QV,.v QV,.v QV,.i,.i,.b,.b,.b,.b,.b,.i,.i,.i,.i]
section
variable (l y:List GC)
def qV:Int:=
 bif xi y 0 == 3 then J9 (xi l 8) (xi y 9) (xi y 10) (xi y 11) else 0
def qH:Int:=
 bif xi y 0 == 3 then J8 (xi l 8) (xi y 9) (xi y 10) (xi y 11) else 0
def qA:Int:=
 bif xi y 0 == 3 then xi y 12 else 0
def Jy:Int:=
 QB (J9 (xi l 8) (xi y 2) (xi y 3) (xi y 4)) (J8 (xi l 8) (xi y 2) (xi y 3) (xi y 4)) (J9 (xi l 8) (xi y 5) (xi y 6) (xi y 7)) (J8 (xi l 8) (xi y 5) (xi y 6) (xi y 7)) (qV l y) (qH l y) (qA y) (IntKind.i64.wrap (xi l 16 * xi l 17))
end
def JIP (l y:List GC) := Zk (J9 (xi l 8) (xi y 2) (xi y 3) (xi y 4)) (J8 (xi l 8) (xi y 2) (xi y 3) (xi y 4)) (J9 (xi l 8) (xi y 5) (xi y 6) (xi y 7)) (J8 (xi l 8) (xi y 5) (xi y 6) (xi y 7)) (qV l y) (qH l y) (qA y) (IntKind.i64.wrap (xi l 16 * xi l 17))
def JIQ (l y:List GC) := Zi (J9 (xi l 8) (xi y 2) (xi y 3) (xi y 4)) (J8 (xi l 8) (xi y 2) (xi y 3) (xi y 4)) (J9 (xi l 8) (xi y 5) (xi y 6) (xi y 7)) (J8 (xi l 8) (xi y 5) (xi y 6) (xi y 7)) (qV l y) (qH l y) (qA y) (IntKind.i64.wrap (xi l 16 * xi l 17))
section
variable (x l y:List GC) (a0 a1:Int) (tr:Bool) (C O:LL) (op:Bool) (q0:Nat)
def JNg:Int:=
 Q7 (JIP l y) (JIQ l y) false (J1 l) (J1 y) a0 a1 tr
def JKR:Int:=
 bif !JR (J1 x) (xi l 8) (xi l 17) || xi y 0 == 0 then 14 else bif Jy l y == 0 then bif JNg l y a0 a1 tr != 0 then JNg l y a0 a1 tr else 0 else bif Jy l y != 0 then Jy l y else 0
def QZ:Int:=
 bif !JR (J1 x) (xi l 8) (xi l 17) || xi y 0 == 0 then xi l q0 else bif Jy l y == 0 then bif Q7 (JIP l y) (JIQ l y) false (J1 l) (J1 y) a0 a1 tr != 0 then xi l q0 else 0 else bif Jy l y != 0 then xi l q0 else 0
def JRe:Int:= QZ x l y a0 a1 tr 0
def JTb:Int:= QZ x l y a0 a1 tr 1
def JUO:Int:= QZ x l y a0 a1 tr 2
def JT9:Int:= QZ x l y a0 a1 tr 3
def JRa:Int:= QZ x l y a0 a1 tr 4
def JRv:Int:= QZ x l y a0 a1 tr 5
def JSd:Int:= QZ x l y a0 a1 tr 6
def JTU:Int:= QZ x l y a0 a1 tr 7
def JUr:Int:= QZ x l y a0 a1 tr 8
def JNL:Int:= QZ x l y a0 a1 tr 9
def JNd:Int:= QZ x l y a0 a1 tr 10
def JNK:Int:= QZ x l y a0 a1 tr 11
def JOA:Int:= QZ x l y a0 a1 tr 12
def JHR:Bool:=
 bif !JR (J1 x) (xi l 8) (xi l 17) || xi y 0 == 0 then xb l q0 else bif Jy l y == 0 then Q7 (JIP l y) (JIQ l y) false (J1 l) (J1 y) a0 a1 tr != 0 && xb l q0 else Jy l y != 0 && xb l q0
def JNU:Bool:= JHR x l y a0 a1 tr 13
def JMu:Int:= QZ x l y a0 a1 tr 14
def JNv:Bool:= JHR x l y a0 a1 tr 15
def JN6:Int:= QZ x l y a0 a1 tr 16
def JNR:Int:= QZ x l y a0 a1 tr 17
def JMy:Int:= QZ x l y a0 a1 tr 18
def JNj:Int:= QZ x l y a0 a1 tr 19
def JNu:Int:= QZ x l y a0 a1 tr 20
def JNl:Bool:= JHR x l y a0 a1 tr 21
def QX:Int:=
 bif !JR (J1 x) (xi l 8) (xi l 17) || xi y 0 == 0 then xi y q0 else bif Jy l y == 0 then bif Q7 (JIP l y) (JIQ l y) false (J1 l) (J1 y) a0 a1 tr != 0 then xi y q0 else 0 else bif Jy l y != 0 then xi y q0 else 0
def JN5:Int:= QX x l y a0 a1 tr 0
def JNn:Int:= QX x l y a0 a1 tr 1
def JMg:Int:= QX x l y a0 a1 tr 2
def JNc:Int:= QX x l y a0 a1 tr 3
def JO0:Int:= QX x l y a0 a1 tr 4
def JN7:Int:= QX x l y a0 a1 tr 5
def JMl:Int:= QX x l y a0 a1 tr 6
def JNA:Int:= QX x l y a0 a1 tr 7
def JNp:Int:= QX x l y a0 a1 tr 8
def JNw:Int:= QX x l y a0 a1 tr 9
def JNB:Int:= QX x l y a0 a1 tr 10
def JNZ:Int:= QX x l y a0 a1 tr 11
def JNT:Int:= QX x l y a0 a1 tr 12
def JGc:Bool:=
 bif !JR (J1 x) (xi l 8) (xi l 17) || xi y 0 == 0 then xb y q0 else bif Jy l y == 0 then Q7 (JIP l y) (JIQ l y) false (J1 l) (J1 y) a0 a1 tr != 0 && xb y q0 else Jy l y != 0 && xb y q0
def JNr:Bool:= JGc x l y a0 a1 tr 13
def JNE:Int:= QX x l y a0 a1 tr 14
def JN9:Bool:= JGc x l y a0 a1 tr 15
def JOD:Int:= QX x l y a0 a1 tr 16
def JNt:Int:= QX x l y a0 a1 tr 17
def JMj:Int:= QX x l y a0 a1 tr 18
def JMm:Int:= QX x l y a0 a1 tr 19
def JMn:Int:= QX x l y a0 a1 tr 20
def JMt:Bool:= JGc x l y a0 a1 tr 21
def Z6:Int:=
 Zk (J9 (xi l 8) (xi y 2) (xi y 3) (xi y 4)) (J8 (xi l 8) (xi y 2) (xi y 3) (xi y 4)) (J9 (xi l 8) (xi y 5) (xi y 6) (xi y 7)) (J8 (xi l 8) (xi y 5) (xi y 6) (xi y 7)) (qV l y) (qH l y) (qA y) (IntKind.i64.wrap (xi l 16 * xi l 17))
def Z4:Int:=
 Zi (J9 (xi l 8) (xi y 2) (xi y 3) (xi y 4)) (J8 (xi l 8) (xi y 2) (xi y 3) (xi y 4)) (J9 (xi l 8) (xi y 5) (xi y 6) (xi y 7)) (J8 (xi l 8) (xi y 5) (xi y 6) (xi y 7)) (qV l y) (qH l y) (qA y) (IntKind.i64.wrap (xi l 16 * xi l 17))
def JNQ:Int:=
 bif !JR (J1 x) (xi l 8) (xi l 17) || xi y 0 == 0 then a0 else bif Jy l y == 0 then bif Q7 (Z6 l y) (Z4 l y) false (J1 l) (J1 y) a0 a1 tr != 0 then XM (Z6 l y) (Z4 l y) false (J1 l) (J1 y) a0 a1 tr else 0 else bif Jy l y != 0 then a0 else 0
def JNW:Int:=
 bif !JR (J1 x) (xi l 8) (xi l 17) || xi y 0 == 0 then a1 else bif Jy l y == 0 then bif Q7 (Z6 l y) (Z4 l y) false (J1 l) (J1 y) a0 a1 tr != 0 then XO (Z6 l y) (Z4 l y) false (J1 l) (J1 y) a0 a1 tr else 0 else bif Jy l y != 0 then a1 else 0
def JNC:Bool:=
 bif !JR (J1 x) (xi l 8) (xi l 17) || xi y 0 == 0 then tr else bif Jy l y == 0 then Q7 (JIP l y) (JIQ l y) false (J1 l) (J1 y) a0 a1 tr != 0 && tr else Jy l y != 0 && tr
def JN1:Bool:=
 bif !JR (J1 x) (xi l 8) (xi l 17) || xi y 0 == 0 then op else bif Jy l y == 0 then Q7 (JIP l y) (JIQ l y) false (J1 l) (J1 y) a0 a1 tr != 0 && op else Jy l y != 0 && op
def JBY:LL:=
 bif !JR (J1 x) (xi l 8) (xi l 17) || xi y 0 == 0 then O else bif Jy l y == 0 then bif Q7 (Z6 l y) (Z4 l y) false (J1 l) (J1 y) a0 a1 tr != 0 then Zr (Z6 l y) (Z4 l y) false (J1 l) (J1 y) a0 a1 tr O else XG (J1 x) (J9 (xi l 8) (xi x 5) (xi x 6) (xi x 7)) (J8 (xi l 8) (xi x 5) (xi x 6) (xi x 7)) (JY (xi l 8) (xi x 5) (xi x 6) (xi x 7)) (JY (xi l 8) (xi x 5) (xi x 6) (xi x 7)) true (J1 l) (XM (Z6 l y) (Z4 l y) false (J1 l) (J1 y) a0 a1 tr) (XO (Z6 l y) (Z4 l y) false (J1 l) (J1 y) a0 a1 tr) (QO (J1 l) (XM (Z6 l y) (Z4 l y) false (J1 l) (J1 y) a0 a1 tr) (XO (Z6 l y) (Z4 l y) false (J1 l) (J1 y) a0 a1 tr) C (Zr (Z6 l y) (Z4 l y) false (J1 l) (J1 y) a0 a1 tr O)) else bif Jy l y != 0 then O else XG (J1 x) (J9 (xi l 8) (xi x 5) (xi x 6) (xi x 7)) (J8 (xi l 8) (xi x 5) (xi x 6) (xi x 7)) (JY (xi l 8) (xi x 5) (xi x 6) (xi x 7)) (JY (xi l 8) (xi x 5) (xi x 6) (xi x 7)) true (J1 l) a0 a1 (QO (J1 l) a0 a1 C O)
def JB5:LL:=
 bif !JR (J1 x) (xi l 8) (xi l 17) || xi y 0 == 0 then C else bif Jy l y == 0 then bif Q7 (JIP l y) (JIQ l y) false (J1 l) (J1 y) a0 a1 tr != 0 then C else [] else bif Jy l y != 0 then C else []
def Yz:List Prop:=
 [(!JR (J1 x) (xi l 8) (xi l 17) || xi y 0 == 0) = false → ((Jy l y == 0) = true → O.length ≤ 1000000) ∧ ((Jy l y == 0) = true → (Q7 (Z6 l y) (Z4 l y) false (J1 l) (J1 y) a0 a1 tr != 0) = false → C.length ≤ 1000 ∧ (Zr (Z6 l y) (Z4 l y) false (J1 l) (J1 y) a0 a1 tr O).length ≤ 900000 ∧ (QO (J1 l) (XM (Z6 l y) (Z4 l y) false (J1 l) (J1 y) a0 a1 tr) (XO (Z6 l y) (Z4 l y) false (J1 l) (J1 y) a0 a1 tr) C (Zr (Z6 l y) (Z4 l y) false (J1 l) (J1 y) a0 a1 tr O)).length ≤ 1000000) ∧ ((Jy l y == 0) = false → (Jy l y != 0) = false → C.length ≤ 1000 ∧ O.length ≤ 900000 ∧ (QO (J1 l) a0 a1 C O).length ≤ 1000000)]
end
theorem JSi {x:List GC} {l:List GC} {y:List GC} {a0:Int} {a1:Int} {tr:Bool} {C:LL} {O:LL} (hW:∀ q ∈ ([C.length ≤ 1000,O.length ≤ 800000]:List Prop),q):∀ q ∈ (Yz x l y a0 a1 tr C O),q := by
  simp only [awc,awn,and_true] at hW
  unfold Yz
  simp only [awc,awn,and_true]
  obtain ⟨h1,h2⟩ := hW
  have s := fun u w tm => (Xp u w tm (J1 l) (J1 y) a0 a1 tr O).2
  have r := fun a0 a1 O => Yd (J1 l) a0 a1 C O
  exact fun _ => ⟨fun _ => by omega,fun _ _ => ⟨h1,Nat.le_trans (s ..) (by omega),Nat.le_trans (r ..) (Nat.le_trans (Nat.add_le_add_right (s ..) _) (by omega))⟩,fun _ _ => ⟨h1,by omega,Nat.le_trans (r ..) (by omega)⟩⟩
def Jgi (x l y:List GC) (a0 a1:Int) (tr op cl en mo:Bool) (la0 la1 la2 er:Int) (C O:LL) := [(0,Obj.blk 66 [(19948,Ci (JRe x l y a0 a1 tr)),(19949,Ci (JTb x l y a0 a1 tr)),(19950,Ci (JUO x l y a0 a1 tr)),(19951,Ci (JT9 x l y a0 a1 tr)),(19952,Ci (JRa x l y a0 a1 tr)),(19953,Ci (JRv x l y a0 a1 tr)),(19954,Ci (JSd x l y a0 a1 tr)),(19955,Ci (JTU x l y a0 a1 tr)),(19956,Ci (JUr x l y a0 a1 tr)),(19957,Ci (JNL x l y a0 a1 tr)),(19958,Ci (JNd x l y a0 a1 tr)),(19959,Ci (JNK x l y a0 a1 tr)),(19960,Ci (JOA x l y a0 a1 tr)),(19961,Cb (JNU x l y a0 a1 tr)),(19962,Ci (JMu x l y a0 a1 tr)),(19963,Cb (JNv x l y a0 a1 tr)),(19964,Ci (JN6 x l y a0 a1 tr)),(19965,Ci (JNR x l y a0 a1 tr)),(19966,Ci (JMy x l y a0 a1 tr)),(19967,Ci (JNj x l y a0 a1 tr)),(19968,Ci (JNu x l y a0 a1 tr)),(19969,Cb (JNl x l y a0 a1 tr)),(19970,Ci (JN5 x l y a0 a1 tr)),(19971,Ci (JNn x l y a0 a1 tr)),(19972,Ci (JMg x l y a0 a1 tr)),(19973,Ci (JNc x l y a0 a1 tr)),(19974,Ci (JO0 x l y a0 a1 tr)),(19975,Ci (JN7 x l y a0 a1 tr)),(19976,Ci (JMl x l y a0 a1 tr)),(19977,Ci (JNA x l y a0 a1 tr)),(19978,Ci (JNp x l y a0 a1 tr)),(19979,Ci (JNw x l y a0 a1 tr)),(19980,Ci (JNB x l y a0 a1 tr)),(19981,Ci (JNZ x l y a0 a1 tr)),(19982,Ci (JNT x l y a0 a1 tr)),(19983,Cb (JNr x l y a0 a1 tr)),(19984,Ci (JNE x l y a0 a1 tr)),(19985,Cb (JN9 x l y a0 a1 tr)),(19986,Ci (JOD x l y a0 a1 tr)),(19987,Ci (JNt x l y a0 a1 tr)),(19988,Ci (JMj x l y a0 a1 tr)),(19989,Ci (JMm x l y a0 a1 tr)),(19990,Ci (JMn x l y a0 a1 tr)),(19991,Cb (JMt x l y a0 a1 tr)),(19992,Ci (JNQ x l y a0 a1 tr)),(19993,Ci (JNW x l y a0 a1 tr)),(19994,Cb (JNC x l y a0 a1 tr)),(19942,SC.wh 19940),(19995,Cb (JN1 x l y a0 a1 tr op)),(52,Cb cl),(53,Cb en),(54,Cb mo),(55,Ci la0),(56,Ci la1),(57,Ci la2),(19945,SC.wh 19943),(59,Ci er)]),(19943,Obj.row false 40 22 (RowC.lst 19947 JIE (JBY x l y a0 a1 tr C O))),(19940,Obj.row false 40 22 (RowC.lst 19946 JIE (JB5 x l y a0 a1 tr C)))]
theorem JTX (x l y:List GC) (a0 a1:Int) (tr op cl en mo:Bool) (la0 la1 la2 er:Int) (C O:LL) (hNeeds:∀ pN ∈ (Yz x l y a0 a1 tr C O),pN):Runs (Jl (JE JVv) Qm 49) (WV.args (Jp JAy [.v x,.v l,.v y,.i a0,.i a1,.b tr,.b op,.b cl,.b en,.b mo,.i la0,.i la1,.i la2,.i er])) (WV.memo (Jp JAy [.v x,.v l,.v y,.i a0,.i a1,.b tr,.b op,.b cl,.b en,.b mo,.i la0,.i la1,.i la2,.i er]) [C,O]) WV.n (SV.one (Ci (JKR x l y a0 a1 tr))) ((Jgi x l y a0 a1 tr op cl en mo la0 la1 la2 er C O)) :=
  Runs.of1 (ps := (Yz x l y a0 a1 tr C O)) (by kernel_rfl) hNeeds
def JCZ:List Gm → Qs → Option CRes
  | [.v x,.v l,.v y,.i a0,.i a1,.b tr,.b op,.b cl,.b en,.b mo,.i la0,.i la1,.i la2,.i er],[C,O] => some ⟨SV.one (Ci (JKR x l y a0 a1 tr)),
 (Jgi x l y a0 a1 tr op cl en mo la0 la1 la2 er C O),[C.length ≤ 1000,O.length ≤ 800000],[],19996⟩
  | _,_ => none
theorem Ja6:Qf Tryz.prog 49 (X5 JAy WV JCZ) := by
  refine ZN (JF JL9 49) fun ps ls r hr hn _ => ?_
  unfold JCZ at hr
  split at hr
  · cases hr; exact ⟨_,JTX _ _ _ _ _ _ _ _ _ _ _ _ _ _ _ _ (JSi (by exact hn)),fun _ => rfl⟩
  · cases hr
def JLK:List (Nat × JU) := (49,X5 JAy WV JCZ) :: JVv
theorem JFT:Known Tryz.prog (JE JLK) Qm := J4 JL9 Ja6
theorem chS {l y:List GC} {a0 a1 u w:Int} {tm tr:Bool} {C O:LL}:(Zr u w tm l y a0 a1 tr O).length ≤ O.length + C.length + 3 := by have := (Xp u w tm l y a0 a1 tr O).2; omega
theorem chO {C O:LL}:O.length ≤ O.length + C.length + 3 := by omega
theorem chR {l:List GC} {a0 a1:Int} {C O A:LL} (h:A.length ≤ O.length + 1):(QO l a0 a1 C A).length ≤ O.length + C.length + 3 := by have := Yd l a0 a1 C A; omega
theorem chJ {it l l':List GC} {u w a0 a1 b0 b1:Int} {ou:Bool} {C O A:LL} (h:A.length ≤ O.length + 1):(jH it u w ou l' b0 b1 (QO l a0 a1 C A)).length ≤ O.length + C.length + 3 := by
  have := Yd l a0 a1 C A
  have := (JTl it u w ou l' b0 b1 (QO l a0 a1 C A)).2
  omega
theorem chL {it l l':List GC} {u w lo hi a0 a1 b0 b1:Int} {al:Bool} {C O A:LL} (h:A.length ≤ O.length + 1):(XG it u w lo hi al l' b0 b1 (QO l a0 a1 C A)).length ≤ O.length + C.length + 3 := by
  have := Yd l a0 a1 C A
  have := (KO it u w lo hi al l' b0 b1 (QO l a0 a1 C A)).2
  omega
theorem JPd (x l:List GC) (C O:LL):(JDh x l C O).length ≤ O.length + C.length + 3 := by
  unfold JDh
  repeat' first | exact chO | exact chR (KO ..).2 | refine KS ?_ ?_
theorem JU0 (x l y:List GC) (a0 a1:Int) (tr:Bool) (C O:LL):(JJ2 x l y a0 a1 tr C O).length ≤ O.length + C.length + 3 := by
  unfold JJ2
  repeat' first | exact chO | exact chS | exact chR (Nat.le_succ _) | exact chR (Xp ..).2 | exact chJ (Nat.le_succ _) | exact chJ (Xp ..).2 | refine KS ?_ ?_
theorem JMQ (x l y:List GC) (a0 a1:Int) (tr:Bool) (C O:LL):(JBY x l y a0 a1 tr C O).length ≤ O.length + C.length + 3 := by
  unfold JBY
  repeat' first | exact chO | exact chS | exact chL (Nat.le_succ _) | exact chL (Xp ..).2 | refine KS ?_ ?_
def qj:Tpl := ⟨[.one (.ptr 0 0),.agg pI],XH,62⟩
def JF8:List GK := [.v QV,.v QV,.v QV,.i,.i,.b,.b,.b,.b,.b,.i,.i,.i,.i]
def jq (x l:List GC) := xb x 13 || !(J9 (xi l 8) (xi x 2) (xi x 3) (xi x 4) == J9 (xi l 8) (xi x 5) (xi x 6) (xi x 7) && J8 (xi l 8) (xi x 2) (xi x 3) (xi x 4) == J8 (xi l 8) (xi x 5) (xi x 6) (xi x 7))
section
variable (x l y:List GC) (q0:Nat) (q1 q2 a0 a1:Int) (tr:Bool) (C:LL)
def JOl:Int:=
 bif xi x 0 == 1 || xi x 0 == 11 || xi x 0 == 14 then 13 else bif J5 (xi x 0) && (xi x 8 != xi l 8 || xi x 16 != xi l 16 || xi x 17 != xi l 17) then 13 else bif !J5 (xi x 0) || !(jq x l) then bif Int.ofNat C.length == 8 then 10 else 0 else bif xi y 0 == 0 then JPW (J1 x) (J1 l) else JWW (J1 x) (J1 l) (J1 y) a0 a1 tr
def Z1:Int:=
 bif xi x 0 == 1 || xi x 0 == 11 || xi x 0 == 14 then xi y q0 else bif J5 (xi x 0) && (xi x 8 != xi l 8 || xi x 16 != xi l 16 || xi x 17 != xi l 17) then xi y q0 else bif !J5 (xi x 0) || !(jq x l) then xi y q0 else bif xi y 0 == 0 then q1 else q2
def JSz:Int:= Z1 x l y 0 (JUl (J1 x) (J1 l) (J1 y)) (JYN (J1 x) (J1 l) (J1 y) a0 a1 tr)
def JUS:Int:= Z1 x l y 1 (JS9 (J1 x) (J1 l) (J1 y)) (JZc (J1 x) (J1 l) (J1 y) a0 a1 tr)
def JTo:Int:= Z1 x l y 2 (JUW (J1 x) (J1 l) (J1 y)) (JZG (J1 x) (J1 l) (J1 y) a0 a1 tr)
def JSC:Int:= Z1 x l y 3 (JUH (J1 x) (J1 l) (J1 y)) (JYw (J1 x) (J1 l) (J1 y) a0 a1 tr)
def JS5:Int:= Z1 x l y 4 (JSe (J1 x) (J1 l) (J1 y)) (JYd (J1 x) (J1 l) (J1 y) a0 a1 tr)
def JSn:Int:= Z1 x l y 5 (JUZ (J1 x) (J1 l) (J1 y)) (JZU (J1 x) (J1 l) (J1 y) a0 a1 tr)
def JTn:Int:= Z1 x l y 6 (JTw (J1 x) (J1 l) (J1 y)) (JZH (J1 x) (J1 l) (J1 y) a0 a1 tr)
def JRf:Int:= Z1 x l y 7 (JTI (J1 x) (J1 l) (J1 y)) (JYH (J1 x) (J1 l) (J1 y) a0 a1 tr)
def JTu:Int:= Z1 x l y 8 (JTG (J1 x) (J1 l) (J1 y)) (JZ2 (J1 x) (J1 l) (J1 y) a0 a1 tr)
def JT4:Int:= Z1 x l y 9 (JU6 (J1 x) (J1 l) (J1 y)) (JYj (J1 x) (J1 l) (J1 y) a0 a1 tr)
def JUQ:Int:= Z1 x l y 10 (JTp (J1 x) (J1 l) (J1 y)) (JZt (J1 x) (J1 l) (J1 y) a0 a1 tr)
def JUP:Int:= Z1 x l y 11 (JSa (J1 x) (J1 l) (J1 y)) (JZA (J1 x) (J1 l) (J1 y) a0 a1 tr)
def JTR:Int:= Z1 x l y 12 (JRR (J1 x) (J1 l) (J1 y)) (JZX (J1 x) (J1 l) (J1 y) a0 a1 tr)
end
section
variable (x l y:List GC) (a0 a1:Int) (tr:Bool) (C O:LL) (q0:Nat) (q1 q2:Bool)
def JMN:Bool:=
 bif xi x 0 == 1 || xi x 0 == 11 || xi x 0 == 14 then xb y q0 else bif J5 (xi x 0) && (xi x 8 != xi l 8 || xi x 16 != xi l 16 || xi x 17 != xi l 17) then xb y q0 else bif !J5 (xi x 0) || !(jq x l) then xb y q0 else bif xi y 0 == 0 then q1 else q2
def JTe:Bool:= JMN x l y 13 (JUK (J1 x) (J1 l) (J1 y)) (JYz (J1 x) (J1 l) (J1 y) a0 a1 tr)
def JUY:Int:= Z1 x l y 14 (JRs (J1 x) (J1 l) (J1 y)) (JYs (J1 x) (J1 l) (J1 y) a0 a1 tr)
def JTY:Bool:= JMN x l y 15 (JRd (J1 x) (J1 l) (J1 y)) (JZT (J1 x) (J1 l) (J1 y) a0 a1 tr)
def JSX:Int:= Z1 x l y 16 (JTg (J1 x) (J1 l) (J1 y)) (JYT (J1 x) (J1 l) (J1 y) a0 a1 tr)
def JSv:Int:= Z1 x l y 17 (JSM (J1 x) (J1 l) (J1 y)) (JYU (J1 x) (J1 l) (J1 y) a0 a1 tr)
def JRN:Int:= Z1 x l y 18 (JUt (J1 x) (J1 l) (J1 y)) (JYt (J1 x) (J1 l) (J1 y) a0 a1 tr)
def JSK:Int:= Z1 x l y 19 (JSr (J1 x) (J1 l) (J1 y)) (JZh (J1 x) (J1 l) (J1 y) a0 a1 tr)
def JS2:Int:= Z1 x l y 20 (JTv (J1 x) (J1 l) (J1 y)) (JZM (J1 x) (J1 l) (J1 y) a0 a1 tr)
def JSg:Bool:= JMN x l y 21 (JT8 (J1 x) (J1 l) (J1 y)) (JZ5 (J1 x) (J1 l) (J1 y) a0 a1 tr)
def JRZ:Int:=
 bif xi x 0 == 1 || xi x 0 == 11 || xi x 0 == 14 then a0 else bif J5 (xi x 0) && (xi x 8 != xi l 8 || xi x 16 != xi l 16 || xi x 17 != xi l 17) then a0 else bif !J5 (xi x 0) || !(jq x l) then a0 else bif xi y 0 == 0 then JSO (J1 x) (J1 l) a0 else JZb (J1 x) (J1 l) (J1 y) a0 a1 tr
def JUT:Int:=
 bif xi x 0 == 1 || xi x 0 == 11 || xi x 0 == 14 then a1 else bif J5 (xi x 0) && (xi x 8 != xi l 8 || xi x 16 != xi l 16 || xi x 17 != xi l 17) then a1 else bif !J5 (xi x 0) || !(jq x l) then a1 else bif xi y 0 == 0 then JSf (J1 x) (J1 l) a1 else JYO (J1 x) (J1 l) (J1 y) a0 a1 tr
def JRq:Bool:=
 bif xi x 0 == 1 || xi x 0 == 11 || xi x 0 == 14 then tr else bif J5 (xi x 0) && (xi x 8 != xi l 8 || xi x 16 != xi l 16 || xi x 17 != xi l 17) then tr else bif !J5 (xi x 0) || !(jq x l) then tr else bif xi y 0 == 0 then tr else JZi (J1 x) (J1 l) (J1 y) a0 a1 tr
def JEo:LL:=
 bif xi x 0 == 1 || xi x 0 == 11 || xi x 0 == 14 then O else bif J5 (xi x 0) && (xi x 8 != xi l 8 || xi x 16 != xi l 16 || xi x 17 != xi l 17) then O else bif !J5 (xi x 0) || !(jq x l) then O else bif xi y 0 == 0 then JDh (J1 x) (J1 l) C O else JJ2 (J1 x) (J1 l) (J1 y) a0 a1 tr C O
def JEh:LL:=
 bif xi x 0 == 1 || xi x 0 == 11 || xi x 0 == 14 then C else bif J5 (xi x 0) && (xi x 8 != xi l 8 || xi x 16 != xi l 16 || xi x 17 != xi l 17) then C else bif !J5 (xi x 0) || !(jq x l) then bif Int.ofNat C.length == 8 then C else C ++ [jI x] else bif xi y 0 == 0 then JDK (J1 x) (J1 l) C else JIz (J1 x) (J1 l) (J1 y) a0 a1 tr C
def JRY:Prop:=
 (xi x 0 == 1 || xi x 0 == 11 || xi x 0 == 14) = false
def JRp:Prop:=
 (J5 (xi x 0) && (xi x 8 != xi l 8 || xi x 16 != xi l 16 || xi x 17 != xi l 17)) = false
def JTc:Prop:=
 (!J5 (xi x 0) || !(jq x l)) = false
def JT3:Prop:=
 C.length ≤ 1000 ∧ O.length ≤ 800000
def j6:List Prop:=
 [JRY x → JRp x l → ((!J5 (xi x 0) || !(jq x l)) = true → (Int.ofNat C.length == 8) = false → (C.length + 1) * 176 ≤ 140737488355328 ∧ C.length + 1 ≤ 9223372036854775807) ∧ (JTc x l → (xi y 0 == 0) = true → JT3 C O),JRY x → JRp x l → JTc x l → (xi y 0 == 0) = false → JT3 C O]
end
theorem JWf {x:List GC} {l:List GC} {y:List GC} {C:LL} {O:LL} (hW:∀ q ∈ ([C.length ≤ 1000,O.length ≤ 800000]:List Prop),q):∀ q ∈ (j6 x l y C O),q := by
  simp only [awc,awn,and_true] at hW
  unfold j6
  simp only [awc,awn,and_true]
  obtain ⟨h1,h2⟩ := hW
  exact ⟨fun _ _ => ⟨fun _ _ => ⟨by omega,by omega⟩,fun _ _ => ⟨h1,h2⟩⟩,fun _ _ _ _ => ⟨h1,h2⟩⟩
def Yv := ckI
def Jda (l x y:List GC) (a0 a1:Int) (tr op cl en mo:Bool) (la0 la1 la2 er:Int) (C O:LL) := [(0,Obj.blk 66 [(3,Ci (xi l 0)),(4,Ci (xi l 1)),(5,Ci (xi l 2)),(6,Ci (xi l 3)),(7,Ci (xi l 4)),(8,Ci (xi l 5)),(9,Ci (xi l 6)),(10,Ci (xi l 7)),(11,Ci (xi l 8)),(12,Ci (xi l 9)),(13,Ci (xi l 10)),(14,Ci (xi l 11)),(15,Ci (xi l 12)),(16,Cb (xb l 13)),(17,Ci (xi l 14)),(18,Cb (xb l 15)),(19,Ci (xi l 16)),(20,Ci (xi l 17)),(21,Ci (xi l 18)),(22,Ci (xi l 19)),(23,Ci (xi l 20)),(24,Cb (xb l 21)),(79778,Ci (JSz x l y a0 a1 tr)),(79779,Ci (JUS x l y a0 a1 tr)),(79780,Ci (JTo x l y a0 a1 tr)),(79781,Ci (JSC x l y a0 a1 tr)),(79782,Ci (JS5 x l y a0 a1 tr)),(79783,Ci (JSn x l y a0 a1 tr)),(79784,Ci (JTn x l y a0 a1 tr)),(79785,Ci (JRf x l y a0 a1 tr)),(79786,Ci (JTu x l y a0 a1 tr)),(79787,Ci (JT4 x l y a0 a1 tr)),(79788,Ci (JUQ x l y a0 a1 tr)),(79789,Ci (JUP x l y a0 a1 tr)),(79790,Ci (JTR x l y a0 a1 tr)),(79791,Cb (JTe x l y a0 a1 tr)),(79792,Ci (JUY x l y a0 a1 tr)),(79793,Cb (JTY x l y a0 a1 tr)),(79794,Ci (JSX x l y a0 a1 tr)),(79795,Ci (JSv x l y a0 a1 tr)),(79796,Ci (JRN x l y a0 a1 tr)),(79797,Ci (JSK x l y a0 a1 tr)),(79798,Ci (JS2 x l y a0 a1 tr)),(79799,Cb (JSg x l y a0 a1 tr)),(79800,Ci (JRZ x l y a0 a1 tr)),(79801,Ci (JUT x l y a0 a1 tr)),(79802,Cb (JRq x l y a0 a1 tr)),(79772,SC.wh 79770),(51,Cb op),(52,Cb cl),(53,Cb en),(54,Cb mo),(55,Ci la0),(56,Ci la1),(57,Ci la2),(79775,SC.wh 79773),(59,Ci er)]),(79773,Obj.row false 40 22 (RowC.lst 79777 Yv (JEo x l y a0 a1 tr C O))),(79770,Obj.row false 40 22 (RowC.lst 79776 Yv (JEh x l y a0 a1 tr C)))]
theorem JX1 (x l y:List GC) (a0 a1:Int) (tr op cl en mo:Bool) (la0 la1 la2 er:Int) (C O:LL) (hNeeds:∀ pN ∈ (j6 x l y C O),pN):Runs (Jl (JE JLK) Qm 50) (qj.args (Jp JF8 [.v x,.v l,.v y,.i a0,.i a1,.b tr,.b op,.b cl,.b en,.b mo,.i la0,.i la1,.i la2,.i er])) (qj.memo (Jp JF8 [.v x,.v l,.v y,.i a0,.i a1,.b tr,.b op,.b cl,.b en,.b mo,.i la0,.i la1,.i la2,.i er]) [C,O]) qj.n (SV.one (Ci (JOl x l y a0 a1 tr C))) ((Jda l x y a0 a1 tr op cl en mo la0 la1 la2 er C O)) :=
  Runs.of1 (ps := (j6 x l y C O)) (by kernel_rfl) hNeeds
def JHK:List Gm → Qs → Option CRes
  | [.v x,.v l,.v y,.i a0,.i a1,.b tr,.b op,.b cl,.b en,.b mo,.i la0,.i la1,.i la2,.i er],[C,O] => some ⟨SV.one (Ci (JOl x l y a0 a1 tr C)),
 (Jda l x y a0 a1 tr op cl en mo la0 la1 la2 er C O),[C.length ≤ 1000,O.length ≤ 800000],[],79803⟩
  | _,_ => none
theorem JcZ:Qf Tryz.prog 50 (X5 JF8 qj JHK) := by
  refine ZN (JF JFT 50) fun ps ls r hr hn _ => ?_
  unfold JHK at hr
  split at hr
  · cases hr; exact ⟨_,JX1 _ _ _ _ _ _ _ _ _ _ _ _ _ _ _ _ (JWf (by exact hn)),fun _ => rfl⟩
  · cases hr
def JON:List (Nat × JU) := (50,X5 JF8 qj JHK) :: JLK
theorem JHr:Known Tryz.prog (JE JON) Qm := J4 JFT JcZ
theorem JOU (x l y:List GC) (a0 a1:Int) (tr:Bool) (C O:LL):(JEo x l y a0 a1 tr C O).length ≤ O.length + C.length + 3 := by
  unfold JEo
  repeat' first | exact chO | exact JPd .. | exact JU0 .. | refine KS ?_ ?_
theorem JOy (x l:List GC) (C:LL):(JDK x l C).length ≤ C.length := by
  unfold JDK
  repeat' first | exact Nat.le_refl _ | exact Nat.zero_le _ | refine KS ?_ ?_
theorem JTk (x l y:List GC) (a0 a1:Int) (tr:Bool) (C:LL):(JIz x l y a0 a1 tr C).length ≤ C.length := by
  unfold JIz
  repeat' first | exact Nat.le_refl _ | exact Nat.zero_le _ | refine KS ?_ ?_
theorem chC {C:LL} {r:List Int} (h:C.length ≤ 8):(bif Int.ofNat C.length == 8 then C else C ++ [r]).length ≤ 8 := by
  cases e:(Int.ofNat C.length == 8)
  · have:C.length ≠ 8 := fun h => by rw [h] at e; exact absurd e (by decide)
    simp only [cond_false,List.length_append,List.length_cons,List.length_nil]; omega
  · exact h
theorem JRC (x l y:List GC) (a0 a1:Int) (tr:Bool) (C:LL) (h:C.length ≤ 8):(JEh x l y a0 a1 tr C).length ≤ 8 := by
  unfold JEh
  repeat' first | exact h | exact Nat.le_trans (JOy ..) h | exact Nat.le_trans (JTk ..) h | exact chC h | refine KS ?_ ?_
def kf:Tpl := ⟨[.one (.ptr 0 0),.agg pI],XH,62⟩
def JIu:List GK := [.v QV,.v QV,.v QV,.i,.i,.b,.b,.b,.b,.b,.i,.i,.i,.i]
section
variable (x l y:List GC) (a0 a1:Int) (tr op cl en mo:Bool) (la0 la1 la2:Int) (q0:Nat) (q1 q2:Int) (C:LL)
def JDG:Int:=
 bif cl then 13 else bif !QP (J1 x) || en || J5 (xi x 0) && mo && !(xi x 2 == la0 && (xi x 3 == la1 && xi x 4 == la2)) then 1 else bif !op && J5 (xi x 0) && xi x 16 != 0 then JPl (J1 x) else bif !op then 0 else bif J5 (xi x 0) && xi x 16 == 0 then JKR (J1 x) (J1 l) (J1 y) a0 a1 tr else JOl (J1 x) (J1 l) (J1 y) a0 a1 tr C
def ZM:Int:=
 bif cl then xi l q0 else bif !QP (J1 x) || en || J5 (xi x 0) && mo && !(xi x 2 == la0 && (xi x 3 == la1 && xi x 4 == la2)) then xi l q0 else bif !op && J5 (xi x 0) && xi x 16 != 0 then q1 else bif !op then xi l q0 else bif J5 (xi x 0) && xi x 16 == 0 then q2 else xi l q0
def JWd:Int:= ZM x l op cl en mo la0 la1 la2 0 (JZR (J1 x) (J1 l)) (JRe (J1 x) (J1 l) (J1 y) a0 a1 tr)
def JXi:Int:= ZM x l op cl en mo la0 la1 la2 1 (JYo (J1 x) (J1 l)) (JTb (J1 x) (J1 l) (J1 y) a0 a1 tr)
def JV3:Int:= ZM x l op cl en mo la0 la1 la2 2 (JYe (J1 x) (J1 l)) (JUO (J1 x) (J1 l) (J1 y) a0 a1 tr)
def JWr:Int:= ZM x l op cl en mo la0 la1 la2 3 (JYq (J1 x) (J1 l)) (JT9 (J1 x) (J1 l) (J1 y) a0 a1 tr)
def JXU:Int:= ZM x l op cl en mo la0 la1 la2 4 (JYy (J1 x) (J1 l)) (JRa (J1 x) (J1 l) (J1 y) a0 a1 tr)
def JWz:Int:= ZM x l op cl en mo la0 la1 la2 5 (JZp (J1 x) (J1 l)) (JRv (J1 x) (J1 l) (J1 y) a0 a1 tr)
def JWc:Int:= ZM x l op cl en mo la0 la1 la2 6 (JZD (J1 x) (J1 l)) (JSd (J1 x) (J1 l) (J1 y) a0 a1 tr)
def JVb:Int:= ZM x l op cl en mo la0 la1 la2 7 (JZK (J1 x) (J1 l)) (JTU (J1 x) (J1 l) (J1 y) a0 a1 tr)
def JWt:Int:= ZM x l op cl en mo la0 la1 la2 8 (JYZ (J1 x) (J1 l)) (JUr (J1 x) (J1 l) (J1 y) a0 a1 tr)
def JOx:Int:= ZM x l op cl en mo la0 la1 la2 9 (JTF (J1 x) (J1 l)) (JNL (J1 x) (J1 l) (J1 y) a0 a1 tr)
def JPT:Int:= ZM x l op cl en mo la0 la1 la2 10 (JU2 (J1 x) (J1 l)) (JNd (J1 x) (J1 l) (J1 y) a0 a1 tr)
def JQT:Int:= ZM x l op cl en mo la0 la1 la2 11 (JTM (J1 x) (J1 l)) (JNK (J1 x) (J1 l) (J1 y) a0 a1 tr)
def JQJ:Int:= ZM x l op cl en mo la0 la1 la2 12 (JSV (J1 x) (J1 l)) (JOA (J1 x) (J1 l) (J1 y) a0 a1 tr)
end
section
variable (x l y:List GC) (a0 a1:Int) (tr op cl en mo:Bool) (la0 la1 la2:Int) (q0:Nat) (q1 q2:Bool)
def JIq:Bool:=
 bif cl then xb l q0 else bif !QP (J1 x) || en || J5 (xi x 0) && mo && !(xi x 2 == la0 && (xi x 3 == la1 && xi x 4 == la2)) then xb l q0 else bif !op && J5 (xi x 0) && xi x 16 != 0 then q1 else bif !op then xb l q0 else bif J5 (xi x 0) && xi x 16 == 0 then q2 else xb l q0
def JPQ:Bool:= JIq x l op cl en mo la0 la1 la2 13 (JTV (J1 x) (J1 l)) (JNU (J1 x) (J1 l) (J1 y) a0 a1 tr)
def JQz:Int:= ZM x l op cl en mo la0 la1 la2 14 (JUd (J1 x) (J1 l)) (JMu (J1 x) (J1 l) (J1 y) a0 a1 tr)
def JOY:Bool:= JIq x l op cl en mo la0 la1 la2 15 (JRm (J1 x) (J1 l)) (JNv (J1 x) (J1 l) (J1 y) a0 a1 tr)
def JQN:Int:= ZM x l op cl en mo la0 la1 la2 16 (JRn (J1 x) (J1 l)) (JN6 (J1 x) (J1 l) (J1 y) a0 a1 tr)
def JPq:Int:= ZM x l op cl en mo la0 la1 la2 17 (JSI (J1 x) (J1 l)) (JNR (J1 x) (J1 l) (J1 y) a0 a1 tr)
def JOb:Int:= ZM x l op cl en mo la0 la1 la2 18 (JTK (J1 x) (J1 l)) (JMy (J1 x) (J1 l) (J1 y) a0 a1 tr)
def JQq:Int:= ZM x l op cl en mo la0 la1 la2 19 (JSU (J1 x) (J1 l)) (JNj (J1 x) (J1 l) (J1 y) a0 a1 tr)
def JQA:Int:= ZM x l op cl en mo la0 la1 la2 20 (JTz (J1 x) (J1 l)) (JNu (J1 x) (J1 l) (J1 y) a0 a1 tr)
def JPp:Bool:= JIq x l op cl en mo la0 la1 la2 21 (JUp (J1 x) (J1 l)) (JNl (J1 x) (J1 l) (J1 y) a0 a1 tr)
end
section
variable (x l y:List GC) (a0 a1:Int) (tr op cl en mo:Bool) (la0 la1 la2:Int) (q0:Nat) (q1 q2 q3:Int)
def ZO:Int:=
 bif cl then xi y q0 else bif !QP (J1 x) || en || J5 (xi x 0) && mo && !(xi x 2 == la0 && (xi x 3 == la1 && xi x 4 == la2)) then xi y q0 else bif !op && J5 (xi x 0) && xi x 16 != 0 then q1 else bif !op then xi y q0 else bif J5 (xi x 0) && xi x 16 == 0 then q2 else q3
def JQB:Int:= ZO x y op cl en mo la0 la1 la2 0 (JUB (J1 x) (J1 y)) (JN5 (J1 x) (J1 l) (J1 y) a0 a1 tr) (JSz (J1 x) (J1 l) (J1 y) a0 a1 tr)
def JPg:Int:= ZO x y op cl en mo la0 la1 la2 1 (JTQ (J1 x) (J1 y)) (JNn (J1 x) (J1 l) (J1 y) a0 a1 tr) (JUS (J1 x) (J1 l) (J1 y) a0 a1 tr)
def JOo:Int:= ZO x y op cl en mo la0 la1 la2 2 (JS4 (J1 x) (J1 y)) (JMg (J1 x) (J1 l) (J1 y) a0 a1 tr) (JTo (J1 x) (J1 l) (J1 y) a0 a1 tr)
def JPB:Int:= ZO x y op cl en mo la0 la1 la2 3 (JUf (J1 x) (J1 y)) (JNc (J1 x) (J1 l) (J1 y) a0 a1 tr) (JSC (J1 x) (J1 l) (J1 y) a0 a1 tr)
def JOJ:Int:= ZO x y op cl en mo la0 la1 la2 4 (JUI (J1 x) (J1 y)) (JO0 (J1 x) (J1 l) (J1 y) a0 a1 tr) (JS5 (J1 x) (J1 l) (J1 y) a0 a1 tr)
def JQ4:Int:= ZO x y op cl en mo la0 la1 la2 5 (JUy (J1 x) (J1 y)) (JN7 (J1 x) (J1 l) (J1 y) a0 a1 tr) (JSn (J1 x) (J1 l) (J1 y) a0 a1 tr)
def JR2:Int:= ZO x y op cl en mo la0 la1 la2 6 (JSk (J1 x) (J1 y)) (JMl (J1 x) (J1 l) (J1 y) a0 a1 tr) (JTn (J1 x) (J1 l) (J1 y) a0 a1 tr)
def JPb:Int:= ZO x y op cl en mo la0 la1 la2 7 (JSR (J1 x) (J1 y)) (JNA (J1 x) (J1 l) (J1 y) a0 a1 tr) (JRf (J1 x) (J1 l) (J1 y) a0 a1 tr)
def JPM:Int:= ZO x y op cl en mo la0 la1 la2 8 (JSP (J1 x) (J1 y)) (JNp (J1 x) (J1 l) (J1 y) a0 a1 tr) (JTu (J1 x) (J1 l) (J1 y) a0 a1 tr)
def JOf:Int:= ZO x y op cl en mo la0 la1 la2 9 (JSp (J1 x) (J1 y)) (JNw (J1 x) (J1 l) (J1 y) a0 a1 tr) (JT4 (J1 x) (J1 l) (J1 y) a0 a1 tr)
def JOd:Int:= ZO x y op cl en mo la0 la1 la2 10 (JRy (J1 x) (J1 y)) (JNB (J1 x) (J1 l) (J1 y) a0 a1 tr) (JUQ (J1 x) (J1 l) (J1 y) a0 a1 tr)
def JPw:Int:= ZO x y op cl en mo la0 la1 la2 11 (JRS (J1 x) (J1 y)) (JNZ (J1 x) (J1 l) (J1 y) a0 a1 tr) (JUP (J1 x) (J1 l) (J1 y) a0 a1 tr)
def JQF:Int:= ZO x y op cl en mo la0 la1 la2 12 (JSB (J1 x) (J1 y)) (JNT (J1 x) (J1 l) (J1 y) a0 a1 tr) (JTR (J1 x) (J1 l) (J1 y) a0 a1 tr)
end
section
variable (x l y:List GC) (a0 a1:Int) (tr op cl en mo:Bool) (la0 la1 la2:Int) (C O:LL) (q0:Nat) (q1 q2 q3:Bool)
def JJA:Bool:=
 bif cl then xb y q0 else bif !QP (J1 x) || en || J5 (xi x 0) && mo && !(xi x 2 == la0 && (xi x 3 == la1 && xi x 4 == la2)) then xb y q0 else bif !op && J5 (xi x 0) && xi x 16 != 0 then q1 else bif !op then xb y q0 else bif J5 (xi x 0) && xi x 16 == 0 then q2 else q3
def JRL:Bool:= JJA x y op cl en mo la0 la1 la2 13 (JSo (J1 x) (J1 y)) (JNr (J1 x) (J1 l) (J1 y) a0 a1 tr) (JTe (J1 x) (J1 l) (J1 y) a0 a1 tr)
def JOr:Int:= ZO x y op cl en mo la0 la1 la2 14 (JSY (J1 x) (J1 y)) (JNE (J1 x) (J1 l) (J1 y) a0 a1 tr) (JUY (J1 x) (J1 l) (J1 y) a0 a1 tr)
def JQO:Bool:= JJA x y op cl en mo la0 la1 la2 15 (JT1 (J1 x) (J1 y)) (JN9 (J1 x) (J1 l) (J1 y) a0 a1 tr) (JTY (J1 x) (J1 l) (J1 y) a0 a1 tr)
def JPY:Int:= ZO x y op cl en mo la0 la1 la2 16 (JRz (J1 x) (J1 y)) (JOD (J1 x) (J1 l) (J1 y) a0 a1 tr) (JSX (J1 x) (J1 l) (J1 y) a0 a1 tr)
def JQa:Int:= ZO x y op cl en mo la0 la1 la2 17 (JUD (J1 x) (J1 y)) (JNt (J1 x) (J1 l) (J1 y) a0 a1 tr) (JSv (J1 x) (J1 l) (J1 y) a0 a1 tr)
def JPX:Int:= ZO x y op cl en mo la0 la1 la2 18 (JRb (J1 x) (J1 y)) (JMj (J1 x) (J1 l) (J1 y) a0 a1 tr) (JRN (J1 x) (J1 l) (J1 y) a0 a1 tr)
def JOa:Int:= ZO x y op cl en mo la0 la1 la2 19 (JT2 (J1 x) (J1 y)) (JMm (J1 x) (J1 l) (J1 y) a0 a1 tr) (JSK (J1 x) (J1 l) (J1 y) a0 a1 tr)
def JPK:Int:= ZO x y op cl en mo la0 la1 la2 20 (JTy (J1 x) (J1 y)) (JMn (J1 x) (J1 l) (J1 y) a0 a1 tr) (JS2 (J1 x) (J1 l) (J1 y) a0 a1 tr)
def JQm:Bool:= JJA x y op cl en mo la0 la1 la2 21 (JTH (J1 x) (J1 y)) (JMt (J1 x) (J1 l) (J1 y) a0 a1 tr) (JSg (J1 x) (J1 l) (J1 y) a0 a1 tr)
def JPV:Int:=
 bif cl then a0 else bif !QP (J1 x) || en || J5 (xi x 0) && mo && !(xi x 2 == la0 && (xi x 3 == la1 && xi x 4 == la2)) then a0 else bif !op && J5 (xi x 0) && xi x 16 != 0 then JDH (J1 x) a0 else bif !op then a0 else bif J5 (xi x 0) && xi x 16 == 0 then JNQ (J1 x) (J1 l) (J1 y) a0 a1 tr else JRZ (J1 x) (J1 l) (J1 y) a0 a1 tr
def JQZ:Int:=
 bif cl then a1 else bif !QP (J1 x) || en || J5 (xi x 0) && mo && !(xi x 2 == la0 && (xi x 3 == la1 && xi x 4 == la2)) then a1 else bif !op && J5 (xi x 0) && xi x 16 != 0 then JDH (J1 x) a1 else bif !op then a1 else bif J5 (xi x 0) && xi x 16 == 0 then JNW (J1 x) (J1 l) (J1 y) a0 a1 tr else JUT (J1 x) (J1 l) (J1 y) a0 a1 tr
def JP1:Bool:=
 bif cl then tr else bif !QP (J1 x) || en || J5 (xi x 0) && mo && !(xi x 2 == la0 && (xi x 3 == la1 && xi x 4 == la2)) then tr else bif !op && J5 (xi x 0) && xi x 16 != 0 then JTO (J1 x) tr else bif !op then tr else bif J5 (xi x 0) && xi x 16 == 0 then JNC (J1 x) (J1 l) (J1 y) a0 a1 tr else JRq (J1 x) (J1 l) (J1 y) a0 a1 tr
def JQD:Bool:=
 bif cl then op else bif !QP (J1 x) || en || J5 (xi x 0) && mo && !(xi x 2 == la0 && (xi x 3 == la1 && xi x 4 == la2)) then op else bif !op && J5 (xi x 0) && xi x 16 != 0 then JS7 (J1 x) op else bif !op then op else bif J5 (xi x 0) && xi x 16 == 0 then JN1 (J1 x) (J1 l) (J1 y) a0 a1 tr op else op
def JPt:Bool:=
 bif cl then en else bif !QP (J1 x) || en || J5 (xi x 0) && mo && !(xi x 2 == la0 && (xi x 3 == la1 && xi x 4 == la2)) then en else xi x 0 == 14
def JPS:Bool:=
 bif cl then mo else bif !QP (J1 x) || en || J5 (xi x 0) && mo && !(xi x 2 == la0 && (xi x 3 == la1 && xi x 4 == la2)) then mo else J5 (xi x 0) || mo
def JOs:Int:=
 bif cl then la0 else bif !QP (J1 x) || en || J5 (xi x 0) && mo && !(xi x 2 == la0 && (xi x 3 == la1 && xi x 4 == la2)) then la0 else bif J5 (xi x 0) then xi x 5 else la0
def JPR:Int:=
 bif cl then la1 else bif !QP (J1 x) || en || J5 (xi x 0) && mo && !(xi x 2 == la0 && (xi x 3 == la1 && xi x 4 == la2)) then la1 else bif J5 (xi x 0) then xi x 6 else la1
def JQr:Int:=
 bif cl then la2 else bif !QP (J1 x) || en || J5 (xi x 0) && mo && !(xi x 2 == la0 && (xi x 3 == la1 && xi x 4 == la2)) then la2 else bif J5 (xi x 0) then xi x 7 else la2
def JBL:LL:=
 bif cl then O else bif !QP (J1 x) || en || J5 (xi x 0) && mo && !(xi x 2 == la0 && (xi x 3 == la1 && xi x 4 == la2)) then O else bif !op && J5 (xi x 0) && xi x 16 != 0 then O else bif !op then O ++ [jI x] else bif J5 (xi x 0) && xi x 16 == 0 then JBY (J1 x) (J1 l) (J1 y) a0 a1 tr C O else JEo (J1 x) (J1 l) (J1 y) a0 a1 tr C O
def JE1:LL:=
 bif cl then C else bif !QP (J1 x) || en || J5 (xi x 0) && mo && !(xi x 2 == la0 && (xi x 3 == la1 && xi x 4 == la2)) then C else bif !op && J5 (xi x 0) && xi x 16 != 0 then JFf (J1 x) C else bif !op then C else bif J5 (xi x 0) && xi x 16 == 0 then JB5 (J1 x) (J1 l) (J1 y) a0 a1 tr C else JEh (J1 x) (J1 l) (J1 y) a0 a1 tr C
def JIv:Prop:=
 (!op && J5 (xi x 0) && xi x 16 != 0) = false
def JJ4:Prop:=
 C.length ≤ 1000 ∧ O.length ≤ 800000
def zV:List Prop:=
 [cl = false → (!QP (J1 x) || en || J5 (xi x 0) && mo && !(xi x 2 == la0 && (xi x 3 == la1 && xi x 4 == la2))) = false → (JIv x op → ((!op) = true → (O.length + 1) * 176 ≤ 140737488355328 ∧ O.length + 1 ≤ 9223372036854775807) ∧ ((!op) = false → (J5 (xi x 0) && xi x 16 == 0) = true → JJ4 C O)) ∧ (JIv x op → (!op) = false → (J5 (xi x 0) && xi x 16 == 0) = false → JJ4 C O)]
end
theorem JaF {x:List GC} {op:Bool} {cl:Bool} {en:Bool} {mo:Bool} {la0:Int} {la1:Int} {la2:Int} {C:LL} {O:LL} (hW:∀ q ∈ ([C.length ≤ 1000,O.length ≤ 800000]:List Prop),q):∀ q ∈ (zV x op cl en mo la0 la1 la2 C O),q := by
  simp only [awc,awn,and_true] at hW
  unfold zV
  simp only [awc,awn,and_true]
  obtain ⟨h1,h2⟩ := hW
  exact fun _ _ => ⟨fun _ => ⟨fun _ => ⟨by omega,by omega⟩,fun _ _ => ⟨h1,h2⟩⟩,fun _ _ _ => ⟨h1,h2⟩⟩
def JeS (x l y:List GC) (a0 a1:Int) (tr op cl en mo:Bool) (la0 la1 la2 er:Int) (C O:LL) := [(0,Obj.blk 66 [(102640,Ci (JWd x l y a0 a1 tr op cl en mo la0 la1 la2)),(102641,Ci (JXi x l y a0 a1 tr op cl en mo la0 la1 la2)),(102642,Ci (JV3 x l y a0 a1 tr op cl en mo la0 la1 la2)),(102643,Ci (JWr x l y a0 a1 tr op cl en mo la0 la1 la2)),(102644,Ci (JXU x l y a0 a1 tr op cl en mo la0 la1 la2)),(102645,Ci (JWz x l y a0 a1 tr op cl en mo la0 la1 la2)),(102646,Ci (JWc x l y a0 a1 tr op cl en mo la0 la1 la2)),(102647,Ci (JVb x l y a0 a1 tr op cl en mo la0 la1 la2)),(102648,Ci (JWt x l y a0 a1 tr op cl en mo la0 la1 la2)),(102649,Ci (JOx x l y a0 a1 tr op cl en mo la0 la1 la2)),(102650,Ci (JPT x l y a0 a1 tr op cl en mo la0 la1 la2)),(102651,Ci (JQT x l y a0 a1 tr op cl en mo la0 la1 la2)),(102652,Ci (JQJ x l y a0 a1 tr op cl en mo la0 la1 la2)),(102653,Cb (JPQ x l y a0 a1 tr op cl en mo la0 la1 la2)),(102654,Ci (JQz x l y a0 a1 tr op cl en mo la0 la1 la2)),(102655,Cb (JOY x l y a0 a1 tr op cl en mo la0 la1 la2)),(102656,Ci (JQN x l y a0 a1 tr op cl en mo la0 la1 la2)),(102657,Ci (JPq x l y a0 a1 tr op cl en mo la0 la1 la2)),(102658,Ci (JOb x l y a0 a1 tr op cl en mo la0 la1 la2)),(102659,Ci (JQq x l y a0 a1 tr op cl en mo la0 la1 la2)),(102660,Ci (JQA x l y a0 a1 tr op cl en mo la0 la1 la2)),(102661,Cb (JPp x l y a0 a1 tr op cl en mo la0 la1 la2)),(102662,Ci (JQB x l y a0 a1 tr op cl en mo la0 la1 la2)),(102663,Ci (JPg x l y a0 a1 tr op cl en mo la0 la1 la2)),(102664,Ci (JOo x l y a0 a1 tr op cl en mo la0 la1 la2)),(102665,Ci (JPB x l y a0 a1 tr op cl en mo la0 la1 la2)),(102666,Ci (JOJ x l y a0 a1 tr op cl en mo la0 la1 la2)),(102667,Ci (JQ4 x l y a0 a1 tr op cl en mo la0 la1 la2)),(102668,Ci (JR2 x l y a0 a1 tr op cl en mo la0 la1 la2)),(102669,Ci (JPb x l y a0 a1 tr op cl en mo la0 la1 la2)),(102670,Ci (JPM x l y a0 a1 tr op cl en mo la0 la1 la2)),(102671,Ci (JOf x l y a0 a1 tr op cl en mo la0 la1 la2)),(102672,Ci (JOd x l y a0 a1 tr op cl en mo la0 la1 la2)),(102673,Ci (JPw x l y a0 a1 tr op cl en mo la0 la1 la2)),(102674,Ci (JQF x l y a0 a1 tr op cl en mo la0 la1 la2)),(102675,Cb (JRL x l y a0 a1 tr op cl en mo la0 la1 la2)),(102676,Ci (JOr x l y a0 a1 tr op cl en mo la0 la1 la2)),(102677,Cb (JQO x l y a0 a1 tr op cl en mo la0 la1 la2)),(102678,Ci (JPY x l y a0 a1 tr op cl en mo la0 la1 la2)),(102679,Ci (JQa x l y a0 a1 tr op cl en mo la0 la1 la2)),(102680,Ci (JPX x l y a0 a1 tr op cl en mo la0 la1 la2)),(102681,Ci (JOa x l y a0 a1 tr op cl en mo la0 la1 la2)),(102682,Ci (JPK x l y a0 a1 tr op cl en mo la0 la1 la2)),(102683,Cb (JQm x l y a0 a1 tr op cl en mo la0 la1 la2)),(102684,Ci (JPV x l y a0 a1 tr op cl en mo la0 la1 la2)),(102685,Ci (JQZ x l y a0 a1 tr op cl en mo la0 la1 la2)),(102686,Cb (JP1 x l y a0 a1 tr op cl en mo la0 la1 la2)),(102634,SC.wh 102632),(102687,Cb (JQD x l y a0 a1 tr op cl en mo la0 la1 la2)),(52,SC.bool (SB.v cl)),(102688,Cb (JPt x cl en mo la0 la1 la2)),(102689,Cb (JPS x cl en mo la0 la1 la2)),(102690,Ci (JOs x cl en mo la0 la1 la2)),(102691,Ci (JPR x cl en mo la0 la1 la2)),(102692,Ci (JQr x cl en mo la0 la1 la2)),(102637,SC.wh 102635),(59,Ci er)]),(102635,Obj.row false 40 22 (RowC.lst 102639 Yv (JBL x l y a0 a1 tr op cl en mo la0 la1 la2 C O))),(102632,Obj.row false 40 22 (RowC.lst 102638 Yv (JE1 x l y a0 a1 tr op cl en mo la0 la1 la2 C)))]
theorem JbZ (x l y:List GC) (a0 a1:Int) (tr op cl en mo:Bool) (la0 la1 la2 er:Int) (C O:LL) (hNeeds:∀ pN ∈ (zV x op cl en mo la0 la1 la2 C O),pN):Runs (Jl (JE JON) Qm 35) (kf.args (Jp JIu [.v x,.v l,.v y,.i a0,.i a1,.b tr,.b op,.b cl,.b en,.b mo,.i la0,.i la1,.i la2,.i er])) (kf.memo (Jp JIu [.v x,.v l,.v y,.i a0,.i a1,.b tr,.b op,.b cl,.b en,.b mo,.i la0,.i la1,.i la2,.i er]) [C,O]) kf.n (SV.one (Ci (JDG x l y a0 a1 tr op cl en mo la0 la1 la2 C))) ((JeS x l y a0 a1 tr op cl en mo la0 la1 la2 er C O)) :=
  Runs.of1 (ps := (zV x op cl en mo la0 la1 la2 C O)) (by kernel_rfl) hNeeds
def JLA:List Gm → Qs → Option CRes
  | [.v x,.v l,.v y,.i a0,.i a1,.b tr,.b op,.b cl,.b en,.b mo,.i la0,.i la1,.i la2,.i er],[C,O] => some ⟨SV.one (Ci (JDG x l y a0 a1 tr op cl en mo la0 la1 la2 C)),
 (JeS x l y a0 a1 tr op cl en mo la0 la1 la2 er C O),[C.length ≤ 1000,O.length ≤ 800000],[],102693⟩
  | _,_ => none
theorem JfE:Qf Tryz.prog 35 (X5 JIu kf JLA) := by
  refine ZN (JF JHr 35) fun ps ls r hr hn _ => ?_
  unfold JLA at hr
  split at hr
  · cases hr; exact ⟨_,JbZ _ _ _ _ _ _ _ _ _ _ _ _ _ _ _ _ (JaF (by exact hn)),fun _ => rfl⟩
  · cases hr
def JVT:List (Nat × JU) := (35,X5 JIu kf JLA) :: JON
theorem JK1:Known Tryz.prog (JE JVT) Qm := J4 JHr JfE
def YK:Tpl := ⟨[.one (.ptr 0 0)],XH,62⟩
def k8:List GK := [.v QV,.v QV,.i,.i,.b,.b,.b,.b,.b,.i,.i,.i,.i]
def KF (er:Int) (O:LL):LL :=
 bif er != 0 then [] else O
def Jec (l y:List GC) (a0 a1:Int) (tr op cl en mo:Bool) (la0 la1 la2 er:Int) (O C:LL) := [(0,Obj.blk 66 [(3,Ci (xi l 0)),(4,Ci (xi l 1)),(5,Ci (xi l 2)),(6,Ci (xi l 3)),(7,Ci (xi l 4)),(8,Ci (xi l 5)),(9,Ci (xi l 6)),(10,Ci (xi l 7)),(11,Ci (xi l 8)),(12,Ci (xi l 9)),(13,Ci (xi l 10)),(14,Ci (xi l 11)),(15,Ci (xi l 12)),(16,Cb (xb l 13)),(17,Ci (xi l 14)),(18,Cb (xb l 15)),(19,Ci (xi l 16)),(20,Ci (xi l 17)),(21,Ci (xi l 18)),(22,Ci (xi l 19)),(23,Ci (xi l 20)),(24,Cb (xb l 21)),(25,Ci (xi y 0)),(26,Ci (xi y 1)),(27,Ci (xi y 2)),(28,Ci (xi y 3)),(29,Ci (xi y 4)),(30,Ci (xi y 5)),(31,Ci (xi y 6)),(32,Ci (xi y 7)),(33,Ci (xi y 8)),(34,Ci (xi y 9)),(35,Ci (xi y 10)),(36,Ci (xi y 11)),(37,Ci (xi y 12)),(38,Cb (xb y 13)),(39,Ci (xi y 14)),(40,Cb (xb y 15)),(41,Ci (xi y 16)),(42,Ci (xi y 17)),(43,Ci (xi y 18)),(44,Ci (xi y 19)),(45,Ci (xi y 20)),(46,Cb (xb y 21)),(47,Ci a0),(48,Ci a1),(49,Cb tr),(50,SC.wh 1),(51,Cb op),(52,Cb cl),(53,Cb en),(54,Cb mo),(55,Ci la0),(56,Ci la1),(57,Ci la2),(92,SC.wh 90),(59,Ci er)]),(90,Obj.row false 40 22 (RowC.lit 91 [])),(89,Obj.row false 40 22 (RowC.lst 88 Yv (KF er O))),(1,Obj.row false 40 22 (RowC.lst 60 Yv C))]
theorem JPo (l y:List GC) (a0 a1:Int) (tr op cl en mo:Bool) (la0 la1 la2 er:Int) (C O:LL):Runs (Jl (JE JVT) Qm 36) (YK.args (Jp k8 [.v l,.v y,.i a0,.i a1,.b tr,.b op,.b cl,.b en,.b mo,.i la0,.i la1,.i la2,.i er])) (YK.memo (Jp k8 [.v l,.v y,.i a0,.i a1,.b tr,.b op,.b cl,.b en,.b mo,.i la0,.i la1,.i la2,.i er]) [C,O]) YK.n (SV.tup [(false,[SC.wh 89]),(false,[Ci (Jh er)])]) ((Jec l y a0 a1 tr op cl en mo la0 la1 la2 er O C)) :=
  Runs.of1 (ps := []) (by kernel_rfl) (by simp)
def JAM:List Gm → Qs → Option CRes
  | [.v l,.v y,.i a0,.i a1,.b tr,.b op,.b cl,.b en,.b mo,.i la0,.i la1,.i la2,.i er],[C,O] => some ⟨SV.tup [(false,[SC.wh 89]),(false,[Ci (Jh er)])],
 (Jec l y a0 a1 tr op cl en mo la0 la1 la2 er O C),[],[],93⟩
  | _,_ => none
theorem JWo:Qf Tryz.prog 36 (X5 k8 YK JAM) := by
  refine ZN (JF JK1 36) fun ps ls r hr hn _ => ?_
  unfold JAM at hr
  split at hr
  · cases hr; exact ⟨_,JPo _ _ _ _ _ _ _ _ _ _ _ _ _ _ _,fun _ => rfl⟩
  · cases hr
def JFy:List (Nat × JU) := (36,X5 k8 YK JAM) :: JVT
theorem JBr:Known Tryz.prog (JE JFy) Qm := J4 JK1 JWo
def kb:Tpl := ⟨[.one (.ptr 0 0),.agg pI],XH,62⟩
def JJ0:List GK := [.v QV,.v QV,.v QV,.i,.i,.b,.b,.b,.b,.b,.i,.i,.i,.i]
section
variable (x l y:List GC) (a0 a1:Int) (tr op cl en mo:Bool) (la0 la1 la2 er:Int) (C O:LL)
def zZ:Int:=
 bif er == 0 then Jh (JDG (J1 x) (J1 l) (J1 y) a0 a1 tr op cl en mo la0 la1 la2 C) else Jh er
def JCd:LL:=
 bif er == 0 then KF (JDG (J1 x) (J1 l) (J1 y) a0 a1 tr op cl en mo la0 la1 la2 C) (JBL (J1 x) (J1 l) (J1 y) a0 a1 tr op cl en mo la0 la1 la2 C O) else KF er O
def JLL:Int:=
 bif er == 0 then JWd (J1 x) (J1 l) (J1 y) a0 a1 tr op cl en mo la0 la1 la2 else xi l 0
def JKf:Int:=
 bif er == 0 then JXi (J1 x) (J1 l) (J1 y) a0 a1 tr op cl en mo la0 la1 la2 else xi l 1
def JKk:Int:=
 bif er == 0 then JV3 (J1 x) (J1 l) (J1 y) a0 a1 tr op cl en mo la0 la1 la2 else xi l 2
def JLc:Int:=
 bif er == 0 then JWr (J1 x) (J1 l) (J1 y) a0 a1 tr op cl en mo la0 la1 la2 else xi l 3
def JMG:Int:=
 bif er == 0 then JXU (J1 x) (J1 l) (J1 y) a0 a1 tr op cl en mo la0 la1 la2 else xi l 4
def JJW:Int:=
 bif er == 0 then JWz (J1 x) (J1 l) (J1 y) a0 a1 tr op cl en mo la0 la1 la2 else xi l 5
def JKo:Int:=
 bif er == 0 then JWc (J1 x) (J1 l) (J1 y) a0 a1 tr op cl en mo la0 la1 la2 else xi l 6
def JJd:Int:=
 bif er == 0 then JVb (J1 x) (J1 l) (J1 y) a0 a1 tr op cl en mo la0 la1 la2 else xi l 7
def JEm:Int:=
 bif er == 0 then JWt (J1 x) (J1 l) (J1 y) a0 a1 tr op cl en mo la0 la1 la2 else xi l 8
def JFD:Int:=
 bif er == 0 then JOx (J1 x) (J1 l) (J1 y) a0 a1 tr op cl en mo la0 la1 la2 else xi l 9
def JDs:Int:=
 bif er == 0 then JPT (J1 x) (J1 l) (J1 y) a0 a1 tr op cl en mo la0 la1 la2 else xi l 10
def JDT:Int:=
 bif er == 0 then JQT (J1 x) (J1 l) (J1 y) a0 a1 tr op cl en mo la0 la1 la2 else xi l 11
def JDS:Int:=
 bif er == 0 then JQJ (J1 x) (J1 l) (J1 y) a0 a1 tr op cl en mo la0 la1 la2 else xi l 12
def JDi:Bool:=
 bif er == 0 then JPQ (J1 x) (J1 l) (J1 y) a0 a1 tr op cl en mo la0 la1 la2 else xb l 13
def JF1:Int:=
 bif er == 0 then JQz (J1 x) (J1 l) (J1 y) a0 a1 tr op cl en mo la0 la1 la2 else xi l 14
def JFY:Bool:=
 bif er == 0 then JOY (J1 x) (J1 l) (J1 y) a0 a1 tr op cl en mo la0 la1 la2 else xb l 15
def JDV:Int:=
 bif er == 0 then JQN (J1 x) (J1 l) (J1 y) a0 a1 tr op cl en mo la0 la1 la2 else xi l 16
def JDb:Int:=
 bif er == 0 then JPq (J1 x) (J1 l) (J1 y) a0 a1 tr op cl en mo la0 la1 la2 else xi l 17
def JE4:Int:=
 bif er == 0 then JOb (J1 x) (J1 l) (J1 y) a0 a1 tr op cl en mo la0 la1 la2 else xi l 18
def JES:Int:=
 bif er == 0 then JQq (J1 x) (J1 l) (J1 y) a0 a1 tr op cl en mo la0 la1 la2 else xi l 19
def JE7:Int:=
 bif er == 0 then JQA (J1 x) (J1 l) (J1 y) a0 a1 tr op cl en mo la0 la1 la2 else xi l 20
def JEe:Bool:=
 bif er == 0 then JPp (J1 x) (J1 l) (J1 y) a0 a1 tr op cl en mo la0 la1 la2 else xb l 21
def JDe:Int:=
 bif er == 0 then JQB (J1 x) (J1 l) (J1 y) a0 a1 tr op cl en mo la0 la1 la2 else xi y 0
def JEk:Int:=
 bif er == 0 then JPg (J1 x) (J1 l) (J1 y) a0 a1 tr op cl en mo la0 la1 la2 else xi y 1
def JFN:Int:=
 bif er == 0 then JOo (J1 x) (J1 l) (J1 y) a0 a1 tr op cl en mo la0 la1 la2 else xi y 2
def JEU:Int:=
 bif er == 0 then JPB (J1 x) (J1 l) (J1 y) a0 a1 tr op cl en mo la0 la1 la2 else xi y 3
def JEc:Int:=
 bif er == 0 then JOJ (J1 x) (J1 l) (J1 y) a0 a1 tr op cl en mo la0 la1 la2 else xi y 4
def JEE:Int:=
 bif er == 0 then JQ4 (J1 x) (J1 l) (J1 y) a0 a1 tr op cl en mo la0 la1 la2 else xi y 5
def JF0:Int:=
 bif er == 0 then JR2 (J1 x) (J1 l) (J1 y) a0 a1 tr op cl en mo la0 la1 la2 else xi y 6
def JFB:Int:=
 bif er == 0 then JPb (J1 x) (J1 l) (J1 y) a0 a1 tr op cl en mo la0 la1 la2 else xi y 7
def JEC:Int:=
 bif er == 0 then JPM (J1 x) (J1 l) (J1 y) a0 a1 tr op cl en mo la0 la1 la2 else xi y 8
def JE8:Int:=
 bif er == 0 then JOf (J1 x) (J1 l) (J1 y) a0 a1 tr op cl en mo la0 la1 la2 else xi y 9
def JDI:Int:=
 bif er == 0 then JOd (J1 x) (J1 l) (J1 y) a0 a1 tr op cl en mo la0 la1 la2 else xi y 10
def JDq:Int:=
 bif er == 0 then JPw (J1 x) (J1 l) (J1 y) a0 a1 tr op cl en mo la0 la1 la2 else xi y 11
def JDt:Int:=
 bif er == 0 then JQF (J1 x) (J1 l) (J1 y) a0 a1 tr op cl en mo la0 la1 la2 else xi y 12
def JEI:Bool:=
 bif er == 0 then JRL (J1 x) (J1 l) (J1 y) a0 a1 tr op cl en mo la0 la1 la2 else xb y 13
def JDj:Int:=
 bif er == 0 then JOr (J1 x) (J1 l) (J1 y) a0 a1 tr op cl en mo la0 la1 la2 else xi y 14
def JFK:Bool:=
 bif er == 0 then JQO (J1 x) (J1 l) (J1 y) a0 a1 tr op cl en mo la0 la1 la2 else xb y 15
def JEA:Int:=
 bif er == 0 then JPY (J1 x) (J1 l) (J1 y) a0 a1 tr op cl en mo la0 la1 la2 else xi y 16
def JDy:Int:=
 bif er == 0 then JQa (J1 x) (J1 l) (J1 y) a0 a1 tr op cl en mo la0 la1 la2 else xi y 17
def JEt:Int:=
 bif er == 0 then JPX (J1 x) (J1 l) (J1 y) a0 a1 tr op cl en mo la0 la1 la2 else xi y 18
def JEg:Int:=
 bif er == 0 then JOa (J1 x) (J1 l) (J1 y) a0 a1 tr op cl en mo la0 la1 la2 else xi y 19
def JEO:Int:=
 bif er == 0 then JPK (J1 x) (J1 l) (J1 y) a0 a1 tr op cl en mo la0 la1 la2 else xi y 20
def JF6:Bool:=
 bif er == 0 then JQm (J1 x) (J1 l) (J1 y) a0 a1 tr op cl en mo la0 la1 la2 else xb y 21
def JFd:Int:=
 bif er == 0 then JPV (J1 x) (J1 l) (J1 y) a0 a1 tr op cl en mo la0 la1 la2 else a0
def JDW:Int:=
 bif er == 0 then JQZ (J1 x) (J1 l) (J1 y) a0 a1 tr op cl en mo la0 la1 la2 else a1
def JDc:Bool:=
 bif er == 0 then JP1 (J1 x) (J1 l) (J1 y) a0 a1 tr op cl en mo la0 la1 la2 else tr
def JDM:Bool:=
 bif er == 0 then JQD (J1 x) (J1 l) (J1 y) a0 a1 tr op cl en mo la0 la1 la2 else op
def JE3:Bool:=
 bif er == 0 then JPt (J1 x) cl en mo la0 la1 la2 else en
def JEX:Bool:=
 bif er == 0 then JPS (J1 x) cl en mo la0 la1 la2 else mo
def JEZ:Int:=
 bif er == 0 then JOs (J1 x) cl en mo la0 la1 la2 else la0
def JEn:Int:=
 bif er == 0 then JPR (J1 x) cl en mo la0 la1 la2 else la1
def JFa:Int:=
 bif er == 0 then JQr (J1 x) cl en mo la0 la1 la2 else la2
def j9:Int:=
 bif er == 0 then JDG (J1 x) (J1 l) (J1 y) a0 a1 tr op cl en mo la0 la1 la2 C else er
def zl:LL:=
 bif er == 0 then JE1 (J1 x) (J1 l) (J1 y) a0 a1 tr op cl en mo la0 la1 la2 C else C
def zu:List Prop:=
 [(er == 0) = true → C.length ≤ 1000 ∧ O.length ≤ 800000]
end
theorem JbJ {er:Int} {C:LL} {O:LL} (hW:∀ q ∈ ([C.length ≤ 1000,O.length ≤ 800000]:List Prop),q):∀ q ∈ (zu er C O),q := by
  simp only [awc,awn,and_true] at hW
  unfold zu
  simp only [awc,awn,and_true]
  exact fun _ => hW
def Jcf (x l y:List GC) (a0 a1:Int) (tr op cl en mo:Bool) (la0 la1 la2 er:Int) (C O:LL) := [(102999,Obj.row false 40 22 (RowC.lst 102998 Yv (JCd x l y a0 a1 tr op cl en mo la0 la1 la2 er C O))),(0,Obj.blk 66 [(103002,Ci (JLL x l y a0 a1 tr op cl en mo la0 la1 la2 er)),(103003,Ci (JKf x l y a0 a1 tr op cl en mo la0 la1 la2 er)),(103004,Ci (JKk x l y a0 a1 tr op cl en mo la0 la1 la2 er)),(103005,Ci (JLc x l y a0 a1 tr op cl en mo la0 la1 la2 er)),(103006,Ci (JMG x l y a0 a1 tr op cl en mo la0 la1 la2 er)),(103007,Ci (JJW x l y a0 a1 tr op cl en mo la0 la1 la2 er)),(103008,Ci (JKo x l y a0 a1 tr op cl en mo la0 la1 la2 er)),(103009,Ci (JJd x l y a0 a1 tr op cl en mo la0 la1 la2 er)),(103010,Ci (JEm x l y a0 a1 tr op cl en mo la0 la1 la2 er)),(103011,Ci (JFD x l y a0 a1 tr op cl en mo la0 la1 la2 er)),(103012,Ci (JDs x l y a0 a1 tr op cl en mo la0 la1 la2 er)),(103013,Ci (JDT x l y a0 a1 tr op cl en mo la0 la1 la2 er)),(103014,Ci (JDS x l y a0 a1 tr op cl en mo la0 la1 la2 er)),(103015,Cb (JDi x l y a0 a1 tr op cl en mo la0 la1 la2 er)),(103016,Ci (JF1 x l y a0 a1 tr op cl en mo la0 la1 la2 er)),(103017,Cb (JFY x l y a0 a1 tr op cl en mo la0 la1 la2 er)),(103018,Ci (JDV x l y a0 a1 tr op cl en mo la0 la1 la2 er)),(103019,Ci (JDb x l y a0 a1 tr op cl en mo la0 la1 la2 er)),(103020,Ci (JE4 x l y a0 a1 tr op cl en mo la0 la1 la2 er)),(103021,Ci (JES x l y a0 a1 tr op cl en mo la0 la1 la2 er)),(103022,Ci (JE7 x l y a0 a1 tr op cl en mo la0 la1 la2 er)),(103023,Cb (JEe x l y a0 a1 tr op cl en mo la0 la1 la2 er)),(103024,Ci (JDe x l y a0 a1 tr op cl en mo la0 la1 la2 er)),(103025,Ci (JEk x l y a0 a1 tr op cl en mo la0 la1 la2 er)),(103026,Ci (JFN x l y a0 a1 tr op cl en mo la0 la1 la2 er)),(103027,Ci (JEU x l y a0 a1 tr op cl en mo la0 la1 la2 er)),(103028,Ci (JEc x l y a0 a1 tr op cl en mo la0 la1 la2 er)),(103029,Ci (JEE x l y a0 a1 tr op cl en mo la0 la1 la2 er)),(103030,Ci (JF0 x l y a0 a1 tr op cl en mo la0 la1 la2 er)),(103031,Ci (JFB x l y a0 a1 tr op cl en mo la0 la1 la2 er)),(103032,Ci (JEC x l y a0 a1 tr op cl en mo la0 la1 la2 er)),(103033,Ci (JE8 x l y a0 a1 tr op cl en mo la0 la1 la2 er)),(103034,Ci (JDI x l y a0 a1 tr op cl en mo la0 la1 la2 er)),(103035,Ci (JDq x l y a0 a1 tr op cl en mo la0 la1 la2 er)),(103036,Ci (JDt x l y a0 a1 tr op cl en mo la0 la1 la2 er)),(103037,Cb (JEI x l y a0 a1 tr op cl en mo la0 la1 la2 er)),(103038,Ci (JDj x l y a0 a1 tr op cl en mo la0 la1 la2 er)),(103039,Cb (JFK x l y a0 a1 tr op cl en mo la0 la1 la2 er)),(103040,Ci (JEA x l y a0 a1 tr op cl en mo la0 la1 la2 er)),(103041,Ci (JDy x l y a0 a1 tr op cl en mo la0 la1 la2 er)),(103042,Ci (JEt x l y a0 a1 tr op cl en mo la0 la1 la2 er)),(103043,Ci (JEg x l y a0 a1 tr op cl en mo la0 la1 la2 er)),(103044,Ci (JEO x l y a0 a1 tr op cl en mo la0 la1 la2 er)),(103045,Cb (JF6 x l y a0 a1 tr op cl en mo la0 la1 la2 er)),(103046,Ci (JFd x l y a0 a1 tr op cl en mo la0 la1 la2 er)),(103047,SC.int IntKind.i64 (SI.v (JDW x l y a0 a1 tr op cl en mo la0 la1 la2 er))),(103048,Cb (JDc x l y a0 a1 tr op cl en mo la0 la1 la2 er)),(102994,SC.wh 102992),(103049,Cb (JDM x l y a0 a1 tr op cl en mo la0 la1 la2 er)),(52,Cb cl),(103050,Cb (JE3 x cl en mo la0 la1 la2 er)),(103051,Cb (JEX x cl en mo la0 la1 la2 er)),(103052,Ci (JEZ x cl en mo la0 la1 la2 er)),(103053,Ci (JEn x cl en mo la0 la1 la2 er)),(103054,Ci (JFa x cl en mo la0 la1 la2 er)),(102997,SC.wh 102995),(103055,Ci (j9 x l y a0 a1 tr op cl en mo la0 la1 la2 er C))]),(102995,Obj.row false 40 22 (RowC.lit 103001 [])),(102992,Obj.row false 40 22 (RowC.lst 103000 Yv (zl x l y a0 a1 tr op cl en mo la0 la1 la2 er C)))]
theorem JbM (x l y:List GC) (a0 a1:Int) (tr op cl en mo:Bool) (la0 la1 la2 er:Int) (C O:LL) (hNeeds:∀ pN ∈ (zu er C O),pN):Runs (Jl (JE JFy) Qm 19) (kb.args (Jp JJ0 [.v x,.v l,.v y,.i a0,.i a1,.b tr,.b op,.b cl,.b en,.b mo,.i la0,.i la1,.i la2,.i er])) (kb.memo (Jp JJ0 [.v x,.v l,.v y,.i a0,.i a1,.b tr,.b op,.b cl,.b en,.b mo,.i la0,.i la1,.i la2,.i er]) [C,O]) kb.n (SV.tup [(false,[SC.wh 102999]),(false,[Ci (zZ x l y a0 a1 tr op cl en mo la0 la1 la2 er C)])]) ((Jcf x l y a0 a1 tr op cl en mo la0 la1 la2 er C O)) :=
  Runs.of1 (ps := (zu er C O)) (by kernel_rfl) hNeeds
def JLn:List Gm → Qs → Option CRes
  | [.v x,.v l,.v y,.i a0,.i a1,.b tr,.b op,.b cl,.b en,.b mo,.i la0,.i la1,.i la2,.i er],[C,O] => some ⟨SV.tup [(false,[SC.wh 102999]),(false,[Ci (zZ x l y a0 a1 tr op cl en mo la0 la1 la2 er C)])],
 (Jcf x l y a0 a1 tr op cl en mo la0 la1 la2 er C O),[C.length ≤ 1000,O.length ≤ 800000],[],103056⟩
  | _,_ => none
theorem Jfc:Qf Tryz.prog 19 (X5 JJ0 kb JLn) := by
  refine ZN (JF JBr 19) fun ps ls r hr hn _ => ?_
  unfold JLn at hr
  split at hr
  · cases hr; exact ⟨_,JbM _ _ _ _ _ _ _ _ _ _ _ _ _ _ _ _ (JbJ (by exact hn)),fun _ => rfl⟩
  · cases hr
def JV1:List (Nat × JU) := (19,X5 JJ0 kb JLn) :: JFy
theorem JLD:Known Tryz.prog (JE JV1) Qm := J4 JBr Jfc
def qh:Tpl := ⟨[.one (.ptr 0 0)],XH,62⟩
def JEJ:List GK := [.v QV,.v QV,.i,.i,.b,.b,.b,.b,.b,.i,.i,.i,.i]
section
variable (op cl:Bool) (er:Int) (O:LL)
def Y0:Int:=
 Jh (bif er == 0 && (cl || op) then 13 else er)
def JDk:Int:=
 bif er == 0 && (cl || op) then 13 else er
def Xy:LL:=
 KF (bif er == 0 && (cl || op) then 13 else er) O
end
def JeA (l y:List GC) (a0 a1:Int) (tr op en mo:Bool) (la0 la1 la2:Int) (cl:Bool) (er:Int) (O C:LL) := [(0,Obj.blk 66 [(3,Ci (xi l 0)),(4,Ci (xi l 1)),(5,Ci (xi l 2)),(6,Ci (xi l 3)),(7,Ci (xi l 4)),(8,Ci (xi l 5)),(9,Ci (xi l 6)),(10,Ci (xi l 7)),(11,Ci (xi l 8)),(12,Ci (xi l 9)),(13,Ci (xi l 10)),(14,Ci (xi l 11)),(15,Ci (xi l 12)),(16,Cb (xb l 13)),(17,Ci (xi l 14)),(18,Cb (xb l 15)),(19,Ci (xi l 16)),(20,Ci (xi l 17)),(21,Ci (xi l 18)),(22,Ci (xi l 19)),(23,Ci (xi l 20)),(24,Cb (xb l 21)),(25,Ci (xi y 0)),(26,Ci (xi y 1)),(27,Ci (xi y 2)),(28,Ci (xi y 3)),(29,Ci (xi y 4)),(30,Ci (xi y 5)),(31,Ci (xi y 6)),(32,Ci (xi y 7)),(33,Ci (xi y 8)),(34,Ci (xi y 9)),(35,Ci (xi y 10)),(36,Ci (xi y 11)),(37,Ci (xi y 12)),(38,Cb (xb y 13)),(39,Ci (xi y 14)),(40,Cb (xb y 15)),(41,Ci (xi y 16)),(42,Ci (xi y 17)),(43,Ci (xi y 18)),(44,Ci (xi y 19)),(45,Ci (xi y 20)),(46,Cb (xb y 21)),(47,Ci a0),(48,Ci a1),(49,Cb tr),(50,SC.wh 1),(51,Cb op),(90,Cb true),(53,Cb en),(54,Cb mo),(55,Ci la0),(56,Ci la1),(57,Ci la2),(185,SC.wh 183),(86,Ci (JDk op cl er))]),(183,Obj.row false 40 22 (RowC.lit 184 [])),(182,Obj.row false 40 22 (RowC.lst 181 Yv (Xy op cl er O))),(1,Obj.row false 40 22 (RowC.lst 60 Yv C))]
theorem JVl (l y:List GC) (a0 a1:Int) (tr op cl en mo:Bool) (la0 la1 la2 er:Int) (C O:LL):Runs (Jl (JE JV1) Qm 21) (qh.args (Jp JEJ [.v l,.v y,.i a0,.i a1,.b tr,.b op,.b cl,.b en,.b mo,.i la0,.i la1,.i la2,.i er])) (qh.memo (Jp JEJ [.v l,.v y,.i a0,.i a1,.b tr,.b op,.b cl,.b en,.b mo,.i la0,.i la1,.i la2,.i er]) [C,O]) qh.n (SV.tup [(false,[SC.wh 182]),(false,[Ci (Y0 op cl er)])]) ((JeA l y a0 a1 tr op en mo la0 la1 la2 cl er O C)) :=
  Runs.of1 (ps := []) (by kernel_rfl) (by simp)
def JFx:List Gm → Qs → Option CRes
  | [.v l,.v y,.i a0,.i a1,.b tr,.b op,.b cl,.b en,.b mo,.i la0,.i la1,.i la2,.i er],[C,O] => some ⟨SV.tup [(false,[SC.wh 182]),(false,[Ci (Y0 op cl er)])],
 (JeA l y a0 a1 tr op en mo la0 la1 la2 cl er O C),[],[],191⟩
  | _,_ => none
theorem Jek:Qf Tryz.prog 21 (X5 JEJ qh JFx) := by
  refine ZN (JF JLD 21) fun ps ls r hr hn _ => ?_
  unfold JFx at hr
  split at hr
  · cases hr; exact ⟨_,JVl _ _ _ _ _ _ _ _ _ _ _ _ _ _ _,fun _ => rfl⟩
  · cases hr
def JPv:List (Nat × JU) := (21,X5 JEJ qh JFx) :: JV1
theorem JIR:Known Tryz.prog (JE JPv) Qm := J4 JLD Jek
def Ys:Tpl := ⟨[.one (.ptr 0 0)],XH,62⟩
def kJ:List GK := [.v QV,.v QV,.i,.i,.b,.b,.b,.b,.b,.i,.i,.i,.i]
def Ki (op:Bool) (er:Int) (C:LL):Int :=
 bif er != 0 || !op then 0 else IntKind.i64.wrap (1 + Int.ofNat C.length)
def JeY (l y:List GC) (a0 a1:Int) (tr op cl en mo:Bool) (la0 la1 la2 er:Int) (C O:LL) := [(0,Obj.blk 66 [(3,Ci (xi l 0)),(4,Ci (xi l 1)),(5,Ci (xi l 2)),(6,Ci (xi l 3)),(7,Ci (xi l 4)),(8,Ci (xi l 5)),(9,Ci (xi l 6)),(10,Ci (xi l 7)),(11,Ci (xi l 8)),(12,Ci (xi l 9)),(13,Ci (xi l 10)),(14,Ci (xi l 11)),(15,Ci (xi l 12)),(16,Cb (xb l 13)),(17,Ci (xi l 14)),(18,Cb (xb l 15)),(19,Ci (xi l 16)),(20,Ci (xi l 17)),(21,Ci (xi l 18)),(22,Ci (xi l 19)),(23,Ci (xi l 20)),(24,Cb (xb l 21)),(25,Ci (xi y 0)),(26,Ci (xi y 1)),(27,Ci (xi y 2)),(28,Ci (xi y 3)),(29,Ci (xi y 4)),(30,Ci (xi y 5)),(31,Ci (xi y 6)),(32,Ci (xi y 7)),(33,Ci (xi y 8)),(34,Ci (xi y 9)),(35,Ci (xi y 10)),(36,Ci (xi y 11)),(37,Ci (xi y 12)),(38,Cb (xb y 13)),(39,Ci (xi y 14)),(40,Cb (xb y 15)),(41,Ci (xi y 16)),(42,Ci (xi y 17)),(43,Ci (xi y 18)),(44,Ci (xi y 19)),(45,Ci (xi y 20)),(46,Cb (xb y 21)),(47,Ci a0),(48,Ci a1),(49,Cb tr),(50,SC.wh 1),(51,Cb op),(52,Cb cl),(53,Cb en),(54,Cb mo),(55,Ci la0),(56,Ci la1),(57,Ci la2),(58,SC.wh 2),(59,Ci er)]),(1,Obj.row false 40 22 (RowC.lst 60 Yv C)),(2,Obj.row false 40 22 (RowC.lst 61 Yv O))]
theorem JP2 (l y:List GC) (a0 a1:Int) (tr op cl en mo:Bool) (la0 la1 la2 er:Int) (C O:LL):Runs (Jl (JE JPv) Qm 20) (Ys.args (Jp kJ [.v l,.v y,.i a0,.i a1,.b tr,.b op,.b cl,.b en,.b mo,.i la0,.i la1,.i la2,.i er])) (Ys.memo (Jp kJ [.v l,.v y,.i a0,.i a1,.b tr,.b op,.b cl,.b en,.b mo,.i la0,.i la1,.i la2,.i er]) [C,O]) Ys.n (SV.one (Ci (Ki op er C))) ((JeY l y a0 a1 tr op cl en mo la0 la1 la2 er C O)) :=
  Runs.of1 (ps := []) (by kernel_rfl) (by simp)
def JAf:List Gm → Qs → Option CRes
  | [.v l,.v y,.i a0,.i a1,.b tr,.b op,.b cl,.b en,.b mo,.i la0,.i la1,.i la2,.i er],[C,O] => some ⟨SV.one (Ci (Ki op er C)),
 (JeY l y a0 a1 tr op cl en mo la0 la1 la2 er C O),[],[],84⟩
  | _,_ => none
theorem JWR:Qf Tryz.prog 20 (X5 kJ Ys JAf) := by
  refine ZN (JF JIR 20) fun ps ls r hr hn _ => ?_
  unfold JAf at hr
  split at hr
  · cases hr; exact ⟨_,JP2 _ _ _ _ _ _ _ _ _ _ _ _ _ _ _,fun _ => rfl⟩
  · cases hr
def JGh:List (Nat × JU) := (20,X5 kJ Ys JAf) :: JPv
theorem JBf:Known Tryz.prog (JE JGh) Qm := J4 JIR JWR
def kz:Tpl := ⟨[],[],0⟩
def Jdb := [(2,Obj.blk 66 [(3,SC.int IntKind.i64 (SI.c 0)),(4,SC.int IntKind.i64 (SI.c 0)),(5,SC.int IntKind.i64 (SI.c 0)),(6,SC.int IntKind.i64 (SI.c 0)),(7,SC.int IntKind.i64 (SI.c 0)),(8,SC.int IntKind.i64 (SI.c 0)),(9,SC.int IntKind.i64 (SI.c 0)),(10,SC.int IntKind.i64 (SI.c 0)),(11,SC.int IntKind.i64 (SI.c 0)),(12,SC.int IntKind.i64 (SI.c 0)),(13,SC.int IntKind.i64 (SI.c 0)),(14,SC.int IntKind.i64 (SI.c 0)),(15,SC.int IntKind.i64 (SI.c 0)),(16,SC.bool (SB.c false)),(17,SC.int IntKind.i64 (SI.c 0)),(18,SC.bool (SB.c false)),(19,SC.int IntKind.i64 (SI.c 0)),(20,SC.int IntKind.i64 (SI.c 0)),(21,SC.int IntKind.i64 (SI.c 0)),(22,SC.int IntKind.i64 (SI.c 0)),(23,SC.int IntKind.i64 (SI.c 0)),(24,SC.bool (SB.c false)),(25,SC.int IntKind.i64 (SI.c 0)),(26,SC.int IntKind.i64 (SI.c 0)),(27,SC.int IntKind.i64 (SI.c 0)),(28,SC.int IntKind.i64 (SI.c 0)),(29,SC.int IntKind.i64 (SI.c 0)),(30,SC.int IntKind.i64 (SI.c 0)),(31,SC.int IntKind.i64 (SI.c 0)),(32,SC.int IntKind.i64 (SI.c 0)),(33,SC.int IntKind.i64 (SI.c 0)),(34,SC.int IntKind.i64 (SI.c 0)),(35,SC.int IntKind.i64 (SI.c 0)),(36,SC.int IntKind.i64 (SI.c 0)),(37,SC.int IntKind.i64 (SI.c 0)),(38,SC.bool (SB.c false)),(39,SC.int IntKind.i64 (SI.c 0)),(40,SC.bool (SB.c false)),(41,SC.int IntKind.i64 (SI.c 0)),(42,SC.int IntKind.i64 (SI.c 0)),(43,SC.int IntKind.i64 (SI.c 0)),(44,SC.int IntKind.i64 (SI.c 0)),(45,SC.int IntKind.i64 (SI.c 0)),(46,SC.bool (SB.c false)),(47,SC.int IntKind.i64 (SI.c 0)),(48,SC.int IntKind.i64 (SI.c 0)),(49,SC.bool (SB.c false)),(64,SC.wh 62),(51,SC.bool (SB.c false)),(52,SC.bool (SB.c false)),(53,SC.bool (SB.c false)),(54,SC.bool (SB.c false)),(55,SC.int IntKind.i64 (SI.c 0)),(56,SC.int IntKind.i64 (SI.c 0)),(57,SC.int IntKind.i64 (SI.c 0)),(67,SC.wh 65),(59,SC.int IntKind.i64 (SI.c 0))]),(65,Obj.row false 40 22 (RowC.lit 66 [])),(62,Obj.row false 40 22 (RowC.lit 63 []))]
theorem Jay:Runs (Jl (JE JGh) Qm 18) (kz.args []) (kz.memo [] []) kz.n (SV.one (SC.ptr 2 0)) (Jdb) :=
  Runs.of1 (ps := []) (by kernel_rfl) (by simp)
def JKC:List Pm → Qs → Option CRes
  | [],[] => some ⟨SV.one (SC.ptr 2 0),
 Jdb,[],[],68⟩
  | _,_ => none
theorem Jfq:Qf Tryz.prog 18 (JP kz JKC) := by
  refine JI (JF JBf 18) fun ps ls r hr hn _ => ?_
  unfold JKC at hr
  split at hr
  · cases hr; exact ⟨_,Jay,fun _ => rfl⟩
  · cases hr
def JW3:List (Nat × JU) := (18,JP kz JKC) :: JGh
theorem JK6:Known Tryz.prog (JE JW3) Qm := J4 JBf Jfq
def JEV:Tpl := ⟨[.agg [.int .i64,.int .i64,.int .i64],.agg [.int .i64,.int .i64,.int .i64]],[],0⟩
theorem Jch (a b c d e f:Int):Runs (Jl (JE JW3) Qm 26) (JEV.args [.i a,.i b,.i c,.i d,.i e,.i f]) (JEV.memo [.i a,.i b,.i c,.i d,.i e,.i f] []) JEV.n (SV.agg [Ci (JD a d),Ci (JD b e),Ci (JD c f)]) ([]) :=
  Runs.of1 (ps := []) (by kernel_rfl) (by simp)
def JQV:List Pm → Qs → Option CRes
  | [.i a,.i b,.i c,.i d,.i e,.i f],[] => some ⟨SV.agg [Ci (JD a d),Ci (JD b e),Ci (JD c f)],
 [],[],[],35⟩
  | _,_ => none
theorem JhE:Qf Tryz.prog 26 (JP JEV JQV) := by
  refine JI (JF JK6 26) fun ps ls r hr hn _ => ?_
  unfold JQV at hr
  split at hr
  · cases hr; exact ⟨_,Jch _ _ _ _ _ _,fun _ => rfl⟩
  · cases hr
def JdK:List (Nat × JU) := (26,JP JEV JQV) :: JW3
theorem JOC:Known Tryz.prog (JE JdK) Qm := J4 JK6 JhE
def JEr:Tpl := ⟨[.agg [.int .i64,.int .i64,.int .i64],.agg [.int .i64,.int .i64,.int .i64]],[],0⟩
theorem Jc9 (a b c d e f:Int):Runs (Jl (JE JdK) Qm 27) (JEr.args [.i a,.i b,.i c,.i d,.i e,.i f]) (JEr.memo [.i a,.i b,.i c,.i d,.i e,.i f] []) JEr.n (SV.agg [Ci (J3 a d),Ci (J3 b e),Ci (J3 c f)]) ([]) :=
  Runs.of1 (ps := []) (by kernel_rfl) (by simp)
def JOc:List Pm → Qs → Option CRes
  | [.i a,.i b,.i c,.i d,.i e,.i f],[] => some ⟨SV.agg [Ci (J3 a d),Ci (J3 b e),Ci (J3 c f)],
 [],[],[],35⟩
  | _,_ => none
theorem Jh7:Qf Tryz.prog 27 (JP JEr JOc) := by
  refine JI (JF JOC 27) fun ps ls r hr hn _ => ?_
  unfold JOc at hr
  split at hr
  · cases hr; exact ⟨_,Jc9 _ _ _ _ _ _,fun _ => rfl⟩
  · cases hr
def JeZ:List (Nat × JU) := (27,JP JEr JOc) :: JdK
theorem JMp:Known Tryz.prog (JE JeZ) Qm := J4 JOC Jh7
def jz:Tpl := ⟨[.one (.wh 0)],[(0,.row true 3 1 1 [.int .i64])],2⟩
def kD (L:LL):Bool :=
 decide (Int.ofNat L.length ≤ 120)
theorem JXQ (L:LL):Runs (Jl (JE JeZ) Qm 7) (jz.args []) (jz.memo [] [L]) jz.n (SV.one (Cb (kD L))) ([(0,Obj.row true 3 1 (RowC.lst 1 [CK.int IntKind.i64] L))]) :=
  Runs.of1 (ps := []) (by kernel_rfl) (by simp)
def JFi:List Pm → Qs → Option CRes
  | [],[L] => some ⟨SV.one (Cb (kD L)),
 [(0,Obj.row true 3 1 (RowC.lst 1 [CK.int IntKind.i64] L))],[],[],7⟩
  | _,_ => none
theorem Jds:Qf Tryz.prog 7 (JP jz JFi) := by
  refine JI (JF JMp 7) fun ps ls r hr hn _ => ?_
  unfold JFi at hr
  split at hr
  · cases hr; exact ⟨_,JXQ _,fun _ => rfl⟩
  · cases hr
def JPf:List (Nat × JU) := (7,JP jz JFi) :: JeZ
theorem JIZ:Known Tryz.prog (JE JPf) Qm := J4 JMp Jds
def JDr:Tpl := ⟨[.one (.wh 0)],[(0,.row true 3 1 1 [.int .i64])],2⟩
theorem JeT (L:LL):Runs (Jl (JE JPf) Qm 10) (JDr.args []) (JDr.memo [] [L]) JDr.n (SV.one (SC.ptr 5 0)) ([(5,Obj.blk 57 [(6,SC.wh 0),(7,SC.int IntKind.i64 (SI.c 0))]),(0,Obj.row true 3 1 (RowC.lst 1 [CK.int IntKind.i64] L))]) :=
  Runs.of1 (ps := []) (by kernel_rfl) (by simp)
def JPZ:List Pm → Qs → Option CRes
  | [],[L] => some ⟨SV.one (SC.ptr 5 0),
 [(5,Obj.blk 57 [(6,SC.wh 0),(7,SC.int IntKind.i64 (SI.c 0))]),(0,Obj.row true 3 1 (RowC.lst 1 [CK.int IntKind.i64] L))],[],[],10⟩
  | _,_ => none
theorem JhN:Qf Tryz.prog 10 (JP JDr JPZ) := by
  refine JI (JF JIZ 10) fun ps ls r hr hn _ => ?_
  unfold JPZ at hr
  split at hr
  · cases hr; exact ⟨_,JeT _,fun _ => rfl⟩
  · cases hr
def Jd6:List (Nat × JU) := (10,JP JDr JPZ) :: JPf
theorem JNx:Known Tryz.prog (JE Jd6) Qm := J4 JIZ JhN
def JA1:Tpl := ⟨[.one (.ptr 0 0),.one (.int .i64)],[(0,.blk 57 [(2,.wh 1),(3,.int .i64)]),(1,.row true 3 1 4 [.int .i64])],5⟩
section
variable (n a:Int) (L:LL)
def J2:Int:=
 bif decide (a ≥ Int.ofNat L.length) then 0 else JJS ((L.getD (IntKind.i64.wrap (IntKind.i64.wrap (a + 1) - 1)).toNat []).getD 0 0) n
def J0:Int:=
 bif decide (a ≥ Int.ofNat L.length) then a else IntKind.i64.wrap (a + 1)
def JFe:Int:=
 IntKind.i64.wrap (IntKind.i64.wrap (a + 1) - 1)
def kB:List Prop:=
 [decide (a ≥ Int.ofNat L.length) = false → 0 ≤ JFe a ∧ (JFe a).toNat < L.length ∧ (JFe a).toNat < L.length ∧ n ≠ 0]
end
theorem Zo (a:Int) (L:LL) (h:0 ≤ a) (hl:L.length ≤ 1000000):0 ≤ J0 a L := by
  unfold J0
  cases hd:decide (a ≥ Int.ofNat L.length)
  · have h4:a < (L.length:Int) := by simpa using hd
    rw [cond_false,Wu (by omega) (by omega)]
    omega
  · exact h
theorem XJ (n a:Int) (L:LL) (h:1 ≤ n) (hb:n ≤ 4611686018427387904):0 ≤ J2 n a L ∧ J2 n a L < n := by
  unfold J2
  cases decide (a ≥ Int.ofNat L.length)
  · exact Jff _ _ h hb
  · simp only [cond_true]; omega
theorem JaP {n:Int} {a:Int} {L:LL} (hW:∀ q ∈ ([0 ≤ a,L.length ≤ 1000000,n ≠ 0]:List Prop),q):∀ q ∈ (kB n a L),q := by
  simp only [awc,awn,and_true] at hW
  intro q hq
  unfold kB at hq
  simp only [List.mem_cons,List.not_mem_nil,or_false] at hq
  obtain ⟨h1,h2,h3⟩ := hW
  subst hq
  intro h
  have h4:a < (L.length:Int) := by simpa using h
  have e:JFe a = a := by unfold JFe; rw [Wu (x := a + 1) (by omega) (by omega),Wu (by omega) (by omega)]; omega
  rw [e]
  exact ⟨h1,by omega,by omega,h3⟩
theorem JbE (n a:Int) (L:LL) (hNeeds:∀ pN ∈ (kB n a L),pN):Runs (Jl (JE Jd6) Qm 23) (JA1.args [.i n,.i a]) (JA1.memo [.i n,.i a] [L]) JA1.n (SV.one (Ci (J2 n a L))) ([(0,Obj.blk 57 [(2,SC.wh 1),(54,Ci (J0 a L))]),(1,Obj.row true 3 1 (RowC.lst 4 [CK.int IntKind.i64] L))]) :=
  Runs.of1 (ps := (kB n a L)) (by kernel_rfl) hNeeds
def JKO:List Pm → Qs → Option CRes
  | [.i n,.i a],[L] => some ⟨SV.one (Ci (J2 n a L)),
 [(0,Obj.blk 57 [(2,SC.wh 1),(54,Ci (J0 a L))]),(1,Obj.row true 3 1 (RowC.lst 4 [CK.int IntKind.i64] L))],[0 ≤ a,L.length ≤ 1000000,n ≠ 0],[],55⟩
  | _,_ => none
theorem JfP:Qf Tryz.prog 23 (JP JA1 JKO) := by
  refine JI (JF JNx 23) fun ps ls r hr hn _ => ?_
  unfold JKO at hr
  split at hr
  · cases hr; exact ⟨_,JbE _ _ _ (JaP (by exact hn)),fun _ => rfl⟩
  · cases hr
def JX8:List (Nat × JU) := (23,JP JA1 JKO) :: Jd6
theorem JJt:Known Tryz.prog (JE JX8) Qm := J4 JNx JfP
def qm:Tpl := ⟨[.one (.ptr 0 0),.one (.int .i64),.one (.int .i64)],[(0,.blk 57 [(2,.wh 1),(3,.int .i64)]),(1,.row true 3 1 4 [.int .i64])],5⟩
def JG (n m a:Int) (L:LL):Int :=
 IntKind.i64.wrap (n + J2 (IntKind.i64.wrap (IntKind.i64.wrap (m - n) + 1)) a L)
def jX (n m a:Int) (L:LL):List Prop :=
 [0 ≤ a,L.length ≤ 1000000,IntKind.i64.wrap (IntKind.i64.wrap (m - n) + 1) ≠ 0]
theorem Yr (n m a:Int) (L:LL) (h:n ≤ m) (h1:-1000000 ≤ n) (h2:m ≤ 1000000):n ≤ (JG n m a L) ∧ (JG n m a L) ≤ m := by
  have e:IntKind.i64.wrap (IntKind.i64.wrap (m - n) + 1) = m - n + 1 := by rw [Wu (x := m - n) (by omega) (by omega),Wu (by omega) (by omega)]
  have k := XJ (m - n + 1) a L (by omega) (by omega)
  unfold JG
  rw [e,Wu (by omega) (by omega)]
  omega
theorem JXF {n:Int} {m:Int} {a:Int} {L:LL} (hW:∀ q ∈ ([0 ≤ a,L.length ≤ 1000000,n ≤ m ∧ -1000000 ≤ n ∧ m ≤ 1000000]:List Prop),q):∀ q ∈ (jX n m a L),q := by
  simp only [awc,awn,and_true] at hW
  intro q hq
  unfold jX at hq
  simp only [List.mem_cons,List.not_mem_nil,or_false] at hq
  obtain ⟨h1,h2,h3⟩ := hW
  have e:IntKind.i64.wrap (IntKind.i64.wrap (m - n) + 1) = m - n + 1 := by rw [Wu (x := m - n) (by omega) (by omega),Wu (by omega) (by omega)]
  rcases hq with rfl | rfl | rfl
  · exact h1
  · exact h2
  · rw [e]; omega
theorem JVe (n m a:Int) (L:LL) (hNeeds:∀ pN ∈ (jX n m a L),pN):Runs (Jl (JE JX8) Qm 24) (qm.args [.i n,.i m,.i a]) (qm.memo [.i n,.i m,.i a] [L]) qm.n (SV.one (Ci (JG n m a L))) ([(0,Obj.blk 57 [(2,SC.wh 1),(66,Ci (J0 a L))]),(1,Obj.row true 3 1 (RowC.lst 4 [CK.int IntKind.i64] L))]) :=
  Runs.of1 (ps := (jX n m a L)) (by kernel_rfl) hNeeds
def JGu:List Pm → Qs → Option CRes
  | [.i n,.i m,.i a],[L] => some ⟨SV.one (Ci (JG n m a L)),
 [(0,Obj.blk 57 [(2,SC.wh 1),(66,Ci (J0 a L))]),(1,Obj.row true 3 1 (RowC.lst 4 [CK.int IntKind.i64] L))],[0 ≤ a,L.length ≤ 1000000,n ≤ m ∧ -1000000 ≤ n ∧ m ≤ 1000000],[],70⟩
  | _,_ => none
theorem JeI:Qf Tryz.prog 24 (JP qm JGu) := by
  refine JI (JF JJt 24) fun ps ls r hr hn _ => ?_
  unfold JGu at hr
  split at hr
  · cases hr; exact ⟨_,JVe _ _ _ _ (JXF (by exact hn)),fun _ => rfl⟩
  · cases hr
def JOg:List (Nat × JU) := (24,JP qm JGu) :: JX8
theorem JHS:Known Tryz.prog (JE JOg) Qm := J4 JJt JeI
def JA4:Tpl := ⟨[.one (.ptr 0 0),.one (.int .i64)],[(0,.blk 57 [(2,.wh 1),(3,.int .i64)]),(1,.row true 3 1 4 [.int .i64])],5⟩
section
variable (n a:Int) (L:LL)
def Js:Int:=
 JG (IntKind.i64.wrap (0 - n)) n a L
def Jt:Int:=
 JG (IntKind.i64.wrap (0 - n)) n (J0 a L) L
def Jw:Int:=
 JG (IntKind.i64.wrap (0 - n)) n (J0 (J0 a L) L) L
def zh:List Prop:=
 [0 ≤ a,L.length ≤ 1000000,IntKind.i64.wrap (0 - n) ≤ n ∧ -1000000 ≤ IntKind.i64.wrap (0 - n) ∧ n ≤ 1000000,0 ≤ J0 a L,L.length ≤ 1000000,IntKind.i64.wrap (0 - n) ≤ n ∧ -1000000 ≤ IntKind.i64.wrap (0 - n) ∧ n ≤ 1000000,0 ≤ J0 (J0 a L) L,L.length ≤ 1000000,IntKind.i64.wrap (0 - n) ≤ n ∧ -1000000 ≤ IntKind.i64.wrap (0 - n) ∧ n ≤ 1000000]
end
theorem JbL {n:Int} {a:Int} {L:LL} (hW:∀ q ∈ ([0 ≤ a,L.length ≤ 1000000,0 ≤ n ∧ n ≤ 1000000]:List Prop),q):∀ q ∈ (zh n a L),q := by
  simp only [awc,awn,and_true] at hW
  intro q hq
  unfold zh at hq
  simp only [List.mem_cons,List.not_mem_nil,or_false] at hq
  obtain ⟨h1,h2,h3⟩ := hW
  have nn:∀ x,0 ≤ x → 0 ≤ J0 x L := fun x h => Zo x L h h2
  have e:IntKind.i64.wrap (0 - n) = 0 - n := Wu (by omega) (by omega)
  rw [e] at hq
  rcases hq with rfl | rfl | rfl | rfl | rfl | rfl | rfl | rfl | rfl
  · exact h1
  · exact h2
  · omega
  · exact nn _ h1
  · exact h2
  · omega
  · exact nn _ (nn _ h1)
  · exact h2
  · omega
theorem Jab (n a:Int) (L:LL) (hNeeds:∀ pN ∈ (zh n a L),pN):Runs (Jl (JE JOg) Qm 25) (JA4.args [.i n,.i a]) (JA4.memo [.i n,.i a] [L]) JA4.n (SV.agg [Ci (Js n a L),Ci (Jt n a L),Ci (Jw n a L)]) ([(0,Obj.blk 57 [(2,SC.wh 1),(234,Ci (J0 (J0 (J0 a L) L) L))]),(1,Obj.row true 3 1 (RowC.lst 4 [CK.int IntKind.i64] L))]) :=
  Runs.of1 (ps := (zh n a L)) (by kernel_rfl) hNeeds
def JLr:List Pm → Qs → Option CRes
  | [.i n,.i a],[L] => some ⟨SV.agg [Ci (Js n a L),Ci (Jt n a L),Ci (Jw n a L)],
 [(0,Obj.blk 57 [(2,SC.wh 1),(234,Ci (J0 (J0 (J0 a L) L) L))]),(1,Obj.row true 3 1 (RowC.lst 4 [CK.int IntKind.i64] L))],[0 ≤ a,L.length ≤ 1000000,0 ≤ n ∧ n ≤ 1000000],[],244⟩
  | _,_ => none
theorem JfS:Qf Tryz.prog 25 (JP JA4 JLr) := by
  refine JI (JF JHS 25) fun ps ls r hr hn _ => ?_
  unfold JLr at hr
  split at hr
  · cases hr; exact ⟨_,Jab _ _ _ (JbL (by exact hn)),fun _ => rfl⟩
  · cases hr
def JCw:List (Nat × JU) := (25,JP JA4 JLr) :: JOg
theorem JLV:Known Tryz.prog (JE JCw) Qm := J4 JHS JfS
structure CS where
  k:Nat
  a:Int
  x:Int
  y:Int
  z:Int
  R:LL
section
variable (x y z u v w c d e dir fe sd ra n r i:Int) (L:LL) (s:CS)
def Jfn:Nat × SX.Obj:= (1,.row true 3 1 (.lst 4 [.int .i64] L))
def pU:Int:= bif i.toNat.beq 0 then r else bif i.toNat.beq 1 then 0 else bif i.toNat.beq 2 then IntKind.i64.wrap (0 - r) else 0
def pW:Int:= bif i.toNat.beq 0 then 0 else bif i.toNat.beq 1 then r else bif i.toNat.beq 2 then 0 else IntKind.i64.wrap (0 - r)
def itO:List Int:= [10,0,0,0,0,0,0,0,0,0,0,0,0,0,0,0,0,0,0,n,0,1]
def itL:List Int:= [2,0,x,y,z,u,v,w,17,0,0,0,0,0,fe,0,sd,ra,0,0,0,0]
def itA:List Int:= [3,0,x,y,z,u,v,w,17,c,d,e,dir,0,fe,0,sd,ra,0,0,0,0]
def stO:CS:= ⟨s.k - 1,J0 (J0 s.a L) L,s.x,s.y,s.z,s.R ++ [itO (J2 4 (J0 s.a L) L)]⟩
end
section
variable (L:LL) (sz sd ra:Int) (s:CS)
def stZ:CS:= ⟨s.k - 1,J0 (J0 s.a L) L,s.x,s.y,IntKind.i64.wrap (s.z + JG (-50) 50 (J0 s.a L) L),s.R ++ [itL s.x s.y s.z s.x s.y (IntKind.i64.wrap (s.z + JG (-50) 50 (J0 s.a L) L)) 30000 sd ra]⟩
def aR:Int:= IntKind.i64.wrap (IntKind.i64.wrap (JG 1 4 (J0 s.a L) L * ra) + 20)
def aI:Int:= J2 4 (J0 (J0 s.a L) L) L
def aK:Int:= (IntKind.i64.wrap (aI L s + JG 1 3 (J0 (J0 (J0 s.a L) L) L) L)).tmod 4
def aC:Int:= J3 s.x (pU (aR L ra s) (aI L s))
def aD:Int:= J3 s.y (pW (aR L ra s) (aI L s))
def aX:Int:= JD (aC L ra s) (pU (aR L ra s) (aK L s))
def aY:Int:= JD (aD L ra s) (pW (aR L ra s) (aK L s))
def stA:CS:= ⟨s.k - 1,J0 (J0 (J0 (J0 (J0 s.a L) L) L) L) L,aX L ra s,aY L ra s,JD (J3 s.z 0) 0,
  s.R ++ [itA s.x s.y s.z (aX L ra s) (aY L ra s) (JD (J3 s.z 0) 0) (aC L ra s) (aD L ra s) (J3 s.z 0) (IntKind.i64.wrap (1 - IntKind.i64.wrap (2 * J2 2 (J0 (J0 (J0 (J0 s.a L) L) L) L) L))) 60000 sd ra]⟩
def dX:Int:= JD s.x (JG (IntKind.i64.wrap (0 - sz)) sz (J0 s.a L) L)
def dY:Int:= JD s.y (JG (IntKind.i64.wrap (0 - sz)) sz (J0 (J0 s.a L) L) L)
end
def JhP (L:LL) (sd ra sz:Int) (s:CS):CS := ⟨s.k - 1,J0 (J0 (J0 s.a L) L) L,dX L sz s,dY L sz s,JD s.z 0,s.R ++ [itL s.x s.y s.z (dX L sz s) (dY L sz s) (JD s.z 0) 60000 sd ra]⟩
def K8 (L:LL) (sd ra sz:Int) (s:CS):CS :=
  bif J2 10 s.a L == 0 then stO L s else bif J2 10 s.a L == 1 then stZ L sd ra s else bif (bif J2 10 s.a L == 2 then J2 10 s.a L == 2 else J2 10 s.a L == 3) then stA L sd ra s else JhP L sd ra sz s
def JFU (L:LL) (sd ra sz:Int):Nat → CS → CS
  | 0,s => s
  | k + 1,s => JFU L sd ra sz k (K8 L sd ra sz s)
def QI (L:LL) (sd ra sz:Int):Fam CS CS where
  k := 100
  E s := [(9,ent 1000000000 (.one (I (Int.ofNat s.k)))),(8,ent 1000000001 (.one (.wh 860))),(6,ent 526 (.one (.ptr 522 0))),(5,ent 275 (.one (I sz))),(4,ent 270 (.one (I ra))),(3,ent 137 (.one (I sd))),(0,ent 0 (.one (.ptr 0 0)))]
  M s := [(0,.blk 57 [(2,.wh 1),(1000000002,I s.a)]),Jfn L,(522,.blk 38 [(1000000003,I s.x),(1000000004,I s.y),(1000000005,I s.z)]),XS 860 1000000006 s.R]
  out s := .leaf (.exit 0) [(8,ent 855 (.one (.wh 860))),(6,ent 526 (.one (.ptr 522 0))),(5,ent 275 (.one (I sz))),(4,ent 270 (.one (I ra))),(3,ent 137 (.one (I sd))),(0,ent 0 (.one (.ptr 0 0)))] [(0,.blk 57 [(2,.wh 1),(856,I s.a)]),Jfn L,(522,.blk 38 [(857,I s.x),(858,I s.y),(859,I s.z)]),XS 860 861 s.R]
  fin s := JFU L sd ra sz s.k s
  next s i := match i with
    | 0 => stO L s
    | 1 => stZ L sd ra s
    | 2 => stA L sd ra s
    | _ => JhP L sd ra sz s
  J s := 0 ≤ s.a ∧ L.length ≤ 1000000 ∧ (0 ≤ sz ∧ sz ≤ 1000000) ∧ s.R.length + s.k ≤ 1000
  μ s := s.k
section
variable (sd:Int) (L:LL) (sz ra:Int) (s:CS)
def JVx:Prop:=
 decide (Int.ofNat s.k > 0) = true
def JWU:Prop:=
 (J2 10 s.a L == 0) = true
def JG5:Prop:=
 (s.R.length + 1) * 176 ≤ 140737488355328 ∧ s.R.length + 1 ≤ 9223372036854775807
def JGa:Prop:=
 (J2 10 s.a L == 0) = false
def JWM:Prop:=
 (J2 10 s.a L == 1) = true
def JKp:Prop:=
 (J2 10 s.a L == 1) = false
def JHO:Bool:=
 J2 10 s.a L == 2
def JXc:Prop:=
 (bif JHO L s then JHO L s else J2 10 s.a L == 3) = true
def Jci:Int:=
 IntKind.i64.wrap (JG 1 4 (J0 s.a L) L * ra)
def JGD:Int:=
 IntKind.i64.wrap (Jci L ra s + 20)
def JBS:List SC:=
 [SC.int IntKind.i64 (mkI (isC (mkI (isC (SI.v (JG 1 4 (J0 s.a L) L)) (SI.v ra)) (Jci L ra s)) (SI.c 20)) (JGD L ra s))]
def YA:Int:=
 IntKind.i64.wrap (0 - JGD L ra s)
def KB:Int:=
 (IntKind.i64.wrap (J2 4 (J0 (J0 s.a L) L) L + JG 1 3 (J0 (J0 (J0 s.a L) L) L) L)).tmod 4
def JQ2:Prop:=
 (bif JHO L s then JHO L s else J2 10 s.a L == 3) = false
def JYY:Int:=
 IntKind.i64.wrap (s.z + JG (-50) 50 (J0 s.a L) L)
def JOV:List Int:=
 [0,sd,ra,0,0,0,0]
def JYa:Int:=
 J3 s.x (bif (J2 4 (J0 (J0 s.a L) L) L).toNat.beq 0 then JGD L ra s else bif (J2 4 (J0 (J0 s.a L) L) L).toNat.beq 1 then 0 else bif (J2 4 (J0 (J0 s.a L) L) L).toNat.beq 2 then YA L ra s else 0)
def JZq:Int:=
 JD (JYa L ra s) (bif (KB L s).toNat.beq 0 then JGD L ra s else bif (KB L s).toNat.beq 1 then 0 else bif (KB L s).toNat.beq 2 then YA L ra s else 0)
def JYv:Int:=
 J3 s.y (bif (J2 4 (J0 (J0 s.a L) L) L).toNat.beq 0 then 0 else bif (J2 4 (J0 (J0 s.a L) L) L).toNat.beq 1 then JGD L ra s else bif (J2 4 (J0 (J0 s.a L) L) L).toNat.beq 2 then 0 else YA L ra s)
def JZ8:Int:=
 JD (JYv L ra s) (bif (KB L s).toNat.beq 0 then 0 else bif (KB L s).toNat.beq 1 then JGD L ra s else bif (KB L s).toNat.beq 2 then 0 else YA L ra s)
def JZB:Int:=
 JD s.x (JG (IntKind.i64.wrap (0 - sz)) sz (J0 s.a L) L)
def JZ7:Int:=
 JD s.y (JG (IntKind.i64.wrap (0 - sz)) sz (J0 (J0 s.a L) L) L)
end
def JH4 (L:LL) (sd ra sz:Int) (s:CS):List Prop :=
 [JVx s → 0 ≤ s.a ∧ L.length ≤ 1000000 ∧ Int.ofNat 10 ≠ 0 ∧ (JWU L s → 0 ≤ J0 s.a L ∧ L.length ≤ 1000000 ∧ Int.ofNat 4 ≠ 0 ∧ JG5 s) ∧ (JGa L s → (JWM L s → 0 ≤ J0 s.a L ∧ L.length ≤ 1000000 ∧ (-50 ≤ 50 ∧ -1000000 ≤ -50 ∧ Int.ofNat 50 ≤ 1000000) ∧ JG5 s) ∧ (JKp L s → JXc L s → 0 ≤ J0 s.a L ∧ L.length ≤ 1000000 ∧ (Int.ofNat 1 ≤ 4 ∧ -1000000 ≤ 1 ∧ Int.ofNat 4 ≤ 1000000) ∧ 0 ≤ J0 (J0 s.a L) L ∧ L.length ≤ 1000000 ∧ Int.ofNat 4 ≠ 0 ∧ 0 ≤ J0 (J0 (J0 s.a L) L) L ∧ L.length ≤ 1000000 ∧ (Int.ofNat 1 ≤ 3 ∧ -1000000 ≤ 1 ∧ Int.ofNat 3 ≤ 1000000) ∧ 0 ≤ J2 4 (J0 (J0 s.a L) L) L ∧ (J2 4 (J0 (J0 s.a L) L) L).toNat < 4 ∧ (J2 4 (J0 (J0 s.a L) L) L).toNat < 4 ∧ (J2 4 (J0 (J0 s.a L) L) L).toNat < (Ky 2 4 (Qh (Qh (Qh (Qh (List.map (fun j => [SC.int IntKind.i64 (SI.c 0),SC.int IntKind.i64 (SI.c 0)][j % 2]?.getD SC.nilp) (List.range 8)) 0 (Qh [SC.int IntKind.i64 (SI.c 0),SC.int IntKind.i64 (SI.c 0)] 0 (JBS L ra s))) 2 (Qh [SC.int IntKind.i64 (SI.c 0),SC.int IntKind.i64 (SI.c 0)] 1 (JBS L ra s))) 4 (Qh [SC.int IntKind.i64 (SI.c 0),SC.int IntKind.i64 (SI.c 0)] 0 [SC.int IntKind.i64 (SI.v (YA L ra s))])) 6 (Qh [SC.int IntKind.i64 (SI.c 0),SC.int IntKind.i64 (SI.c 0)] 1 [SC.int IntKind.i64 (SI.v (YA L ra s))]))).length ∧ 0 ≤ J2 4 (J0 (J0 s.a L) L) L ∧ (J2 4 (J0 (J0 s.a L) L) L).toNat < 4 ∧ (J2 4 (J0 (J0 s.a L) L) L).toNat < 4 ∧ (J2 4 (J0 (J0 s.a L) L) L).toNat < (Ky 2 4 (Qh (Qh (Qh (Qh (List.map (fun j => [SC.int IntKind.i64 (SI.c 0),SC.int IntKind.i64 (SI.c 0)][j % 2]?.getD SC.nilp) (List.range 8)) 0 (Qh [SC.int IntKind.i64 (SI.c 0),SC.int IntKind.i64 (SI.c 0)] 0 (JBS L ra s))) 2 (Qh [SC.int IntKind.i64 (SI.c 0),SC.int IntKind.i64 (SI.c 0)] 1 (JBS L ra s))) 4 (Qh [SC.int IntKind.i64 (SI.c 0),SC.int IntKind.i64 (SI.c 0)] 0 [SC.int IntKind.i64 (SI.v (YA L ra s))])) 6 (Qh [SC.int IntKind.i64 (SI.c 0),SC.int IntKind.i64 (SI.c 0)] 1 [SC.int IntKind.i64 (SI.v (YA L ra s))]))).length ∧ 0 ≤ KB L s ∧ (KB L s).toNat < 4 ∧ (KB L s).toNat < (Ky 2 4 (Qh (Qh (Qh (Qh (List.map (fun j => [SC.int IntKind.i64 (SI.c 0),SC.int IntKind.i64 (SI.c 0)][j % 2]?.getD SC.nilp) (List.range 8)) 0 (Qh [SC.int IntKind.i64 (SI.c 0),SC.int IntKind.i64 (SI.c 0)] 0 (JBS L ra s))) 2 (Qh [SC.int IntKind.i64 (SI.c 0),SC.int IntKind.i64 (SI.c 0)] 1 (JBS L ra s))) 4 (Qh [SC.int IntKind.i64 (SI.c 0),SC.int IntKind.i64 (SI.c 0)] 0 [SC.int IntKind.i64 (SI.v (YA L ra s))])) 6 (Qh [SC.int IntKind.i64 (SI.c 0),SC.int IntKind.i64 (SI.c 0)] 1 [SC.int IntKind.i64 (SI.v (YA L ra s))]))).length ∧ 0 ≤ J0 (J0 (J0 (J0 s.a L) L) L) L ∧ L.length ≤ 1000000 ∧ Int.ofNat 2 ≠ 0 ∧ JG5 s)) ∧ (JGa L s → JKp L s → JQ2 L s → 0 ≤ J0 s.a L ∧ L.length ≤ 1000000 ∧ (IntKind.i64.wrap (0 - sz) ≤ sz ∧ -1000000 ≤ IntKind.i64.wrap (0 - sz) ∧ sz ≤ 1000000) ∧ 0 ≤ J0 (J0 s.a L) L ∧ L.length ≤ 1000000 ∧ (IntKind.i64.wrap (0 - sz) ≤ sz ∧ -1000000 ≤ IntKind.i64.wrap (0 - sz) ∧ sz ≤ 1000000) ∧ JG5 s),JVx s → (JWU L s → (0 ≤ ((QI L sd ra sz).next s 0).a ∧ L.length ≤ 1000000 ∧ (0 ≤ sz ∧ sz ≤ 1000000) ∧ ((QI L sd ra sz).next s 0).R.length + ((QI L sd ra sz).next s 0).k ≤ 1000) ∧ (QI L sd ra sz).μ ((QI L sd ra sz).next s 0) < (QI L sd ra sz).μ s ∧ (QI L sd ra sz).fin ((QI L sd ra sz).next s 0) = (QI L sd ra sz).fin s ∧ Int.ofNat ((QI L sd ra sz).next s 0).k = IntKind.i64.wrap (Int.ofNat s.k - 1) ∧ ((QI L sd ra sz).next s 0).a = J0 (J0 s.a L) L ∧ ((QI L sd ra sz).next s 0).x = s.x ∧ ((QI L sd ra sz).next s 0).y = s.y ∧ ((QI L sd ra sz).next s 0).z = s.z ∧ ((QI L sd ra sz).next s 0).R = s.R ++ [[10,0,0,0,0,0,0,0,0,0,0,0,0,0,0,0,0,0,0,J2 4 (J0 s.a L) L,0,1]]) ∧ (JGa L s → (JWM L s → (0 ≤ ((QI L sd ra
 sz).next s 1).a ∧ L.length ≤ 1000000 ∧ (0 ≤ sz ∧ sz ≤ 1000000) ∧ ((QI L sd ra sz).next s 1).R.length + ((QI L sd ra sz).next s 1).k ≤ 1000) ∧ (QI L sd ra sz).μ ((QI L sd ra sz).next s 1) < (QI L sd ra sz).μ s ∧ (QI L sd ra sz).fin ((QI L sd ra sz).next s 1) = (QI L sd ra sz).fin s ∧ Int.ofNat ((QI L sd ra sz).next s 1).k = IntKind.i64.wrap (Int.ofNat s.k - 1) ∧ ((QI L sd ra sz).next s 1).a = J0 (J0 s.a L) L ∧ ((QI L sd ra sz).next s 1).x = s.x ∧ ((QI L sd ra sz).next s 1).y = s.y ∧ ((QI L sd ra sz).next s 1).z = JYY L s ∧ ((QI L sd ra sz).next s 1).R = s.R ++ [2 :: 0 :: s.x :: s.y :: s.z :: s.x :: s.y :: JYY L s :: 17 :: 0 :: 0 :: 0 :: 0 :: 0 :: 30000 :: JOV sd ra]) ∧ (JKp L s → (JXc L s → (0 ≤ ((QI L sd ra sz).next s 2).a ∧ L.length ≤ 1000000 ∧ (0 ≤ sz ∧ sz ≤ 1000000) ∧ ((QI L sd ra sz).next s 2).R.length + ((QI L sd ra sz).next s 2).k ≤ 1000) ∧ (QI L sd ra sz).μ ((QI L sd ra sz).next s 2) < (QI L sd ra sz).μ s ∧ (QI L sd ra sz).fin ((QI L sd ra sz).next s 2) = (QI L sd ra sz).fin s ∧ Int.ofNat ((QI L sd ra sz).next s 2).k = IntKind.i64.wrap (Int.ofNat s.k - 1) ∧ ((QI L sd ra sz).next s 2).a = J0 (J0 (J0 (J0 (J0 s.a L) L) L) L) L ∧ ((QI L sd ra sz).next s 2).x = JZq L ra s ∧ ((QI L sd ra sz).next s 2).y = JZ8 L ra s ∧ ((QI L sd ra sz).next s 2).z = JD (J3 s.z 0) 0 ∧ ((QI L sd ra sz).next s 2).R = s.R ++ [3 :: 0 :: s.x :: s.y :: s.z :: JZq L ra s :: JZ8 L ra s :: JD (J3 s.z 0) 0 :: 17 :: JYa L ra s :: JYv L ra s :: J3 s.z 0 :: IntKind.i64.wrap (1 - IntKind.i64.wrap (2 * J2 2 (J0 (J0 (J0 (J0 s.a L) L) L) L) L)) :: 0 :: 60000 :: JOV sd ra]) ∧ (JQ2 L s → (0 ≤ ((QI L sd ra sz).next s 3).a ∧ L.length ≤ 1000000 ∧ (0 ≤ sz ∧ sz ≤ 1000000) ∧ ((QI L sd ra sz).next s 3).R.length + ((QI L sd ra sz).next s 3).k ≤ 1000) ∧ (QI L sd ra sz).μ ((QI L sd ra sz).next s 3) < (QI L sd ra sz).μ s ∧ (QI L sd ra sz).fin ((QI L sd ra sz).next s 3) = (QI L sd ra sz).fin s ∧ Int.ofNat ((QI L sd ra sz).next s 3).k = IntKind.i64.wrap (Int.ofNat s.k - 1) ∧ ((QI L sd ra sz).next s 3).a = J0 (J0 (J0 s.a L) L) L ∧ ((QI L sd ra sz).next s 3).x = JZB L sz s ∧ ((QI L sd ra sz).next s 3).y = JZ7 L sz s ∧ ((QI L sd ra sz).next s 3).z = JD s.z 0 ∧ ((QI L sd ra sz).next s 3).R = s.R ++ [2 :: 0 :: s.x :: s.y :: s.z :: JZB L sz s :: JZ7 L sz s :: JD s.z 0 :: 17 :: 0 :: 0 :: 0 :: 0 :: 0 :: 60000 :: JOV sd ra]))),decide (Int.ofNat s.k > 0) = false → ((QI L sd ra sz).fin s).a = s.a ∧ ((QI L sd ra sz).fin s).x = s.x ∧ ((QI L sd ra sz).fin s).y = s.y ∧ ((QI L sd ra sz).fin s).z = s.z ∧ ((QI L sd ra sz).fin s).R = s.R]
theorem JaA (L:LL) (sd ra sz:Int) (s:CS) (hNeeds:∀ pN ∈ (JH4 L sd ra sz s),pN):Q3 (XF (QI L sd ra sz) (QR Tryz.prog (JE JCw) Qm 9 0) 854 s) :=
  Q3.of (ps := (JH4 L sd ra sz s)) (by kernel_rfl) (by kernel_rfl) hNeeds
theorem JVC (L:LL) (sd ra sz:Int):Z0 (QI L sd ra sz) (QR Tryz.prog (JE JCw) Qm 9 0) 854 := by
  intro s hJ
  obtain ⟨h1,h2,h3,h4⟩:0 ≤ s.a ∧ L.length ≤ 1000000 ∧ (0 ≤ sz ∧ sz ≤ 1000000) ∧ s.R.length + s.k ≤ 1000 := hJ
  have nn:∀ x,0 ≤ x → 0 ≤ J0 x L := fun x h => Zo x L h h2
  have n1 := nn _ h1
  have n2 := nn _ n1
  have n3 := nn _ n2
  have n4 := nn _ n3
  have n5 := nn _ n4
  have ez:IntKind.i64.wrap (0 - sz) = 0 - sz := Wu (by omega) (by omega)
  have e2:JG5 s := by unfold JG5; omega
  have ri := XJ 4 (J0 (J0 s.a L) L) L (by omega) (by omega)
  have ri':(J2 4 (J0 (J0 s.a L) L) L).toNat < 4 := by omega
  have rk := Yr 1 3 (J0 (J0 (J0 s.a L) L) L) L (by omega) (by omega) (by omega)
  have rj:0 ≤ KB L s ∧ (KB L s).toNat < 4 := by
    unfold KB
    rw [Wu (by omega) (by omega)]
    have := Int.tmod_lt_of_pos (J2 4 (J0 (J0 s.a L) L) L + JG 1 3 (J0 (J0 (J0 s.a L) L) L) L) (b := 4) (by omega)
    have := Int.tmod_nonneg (a := J2 4 (J0 (J0 s.a L) L) L + JG 1 3 (J0 (J0 (J0 s.a L) L) L) L) 4 (by omega)
    omega
  have rz:IntKind.i64.wrap (0 - sz) ≤ sz ∧ -1000000 ≤ IntKind.i64.wrap (0 - sz) ∧ sz ≤ 1000000 := by rw [ez]; omega
  refine JaA L sd ra sz s ?_
  unfold JH4
  simp only [awc,awn,and_true]
  refine ⟨fun _ => ⟨h1,h2,by decide,fun _ => ⟨n1,h2,by decide,e2⟩,fun _ => ⟨fun _ => ⟨n1,h2,by decide,e2⟩,fun _ _ => ⟨n1,h2,by decide,n2,h2,by decide,n3,h2,by decide,ri.1,ri',ri',ri',ri.1,ri',ri',ri',rj.1,rj.2,rj.2,n4,h2,by decide,e2⟩⟩,fun _ _ _ => ⟨n1,h2,rz,n2,h2,rz,e2⟩⟩,?_,?_⟩
  · intro h0
    obtain ⟨k,hk⟩:∃ k,s.k = k + 1 := ⟨s.k - 1,by unfold JVx at h0; simp at h0; omega⟩
    have ek:IntKind.i64.wrap (Int.ofNat s.k - 1) = Int.ofNat (s.k - 1) := by rw [Wu (by simp; omega) (by simp; omega)]; simp; omega
    have key:∀ t,t.k = s.k - 1 → t = K8 L sd ra sz s → JFU L sd ra sz t.k t = JFU L sd ra sz s.k s := fun t h1 h2 => by rw [h1,h2,hk]; rfl
    have len:∀ x,(s.R ++ [x]).length + (s.k - 1) ≤ 1000 := fun x => by simp; omega
    refine ⟨fun h => ?_,fun h => ⟨fun h' => ?_,fun h' => ⟨fun h'' => ?_,fun h'' => ?_⟩⟩⟩
    · exact ⟨⟨n2,h2,h3,len _⟩,by show s.k - 1 < s.k; omega,key _ rfl (by unfold JWU at h; unfold K8; rw [h]; rfl),ek.symm,rfl,rfl,rfl,rfl,rfl⟩
    · exact ⟨⟨n2,h2,h3,len _⟩,by show s.k - 1 < s.k; omega,key _ rfl (by unfold JGa at h; unfold JWM at h'; unfold K8; rw [h,h']; rfl),ek.symm,rfl,rfl,rfl,rfl,rfl⟩
    · exact ⟨⟨n5,h2,h3,len _⟩,by show s.k - 1 < s.k; omega,key _ rfl (by unfold JGa at h; unfold JKp at h'; unfold JXc JHO at h''; unfold K8; rw [h,h',h'']; rfl),ek.symm,rfl,rfl,rfl,rfl,rfl⟩
    · exact ⟨⟨n3,h2,h3,len _⟩,by show s.k - 1 < s.k; omega,key _ rfl (by unfold JGa at h; unfold JKp at h'; unfold JQ2 JHO at h''; unfold K8; rw [h,h',h'']; rfl),ek.symm,rfl,rfl,rfl,rfl,rfl⟩
  · intro h0
    have hk:s.k = 0 := by simp at h0; omega
    have e:JFU L sd ra sz s.k s = s := by rw [hk]; rfl
    show (JFU L sd ra sz s.k s).a = s.a ∧ (JFU L sd ra sz s.k s).x = s.x ∧ (JFU L sd ra sz s.k s).y = s.y ∧ (JFU L sd ra sz s.k s).z = s.z ∧ (JFU L sd ra sz s.k s).R = s.R
    rw [e]
    exact ⟨rfl,rfl,rfl,rfl,rfl⟩
def Jgd:Q5 := fun env mem m => match SX.J6 env 9,SX.J6 env 8,SX.J6 env 5,SX.J6 env 4,SX.J6 env 3,SX.J6 mem 0,SX.J6 mem 1,SX.J6 mem 522 with
  | some ⟨_,_,_,.one (.int _ n)⟩,some ⟨_,_,_,.one (.wh rid)⟩,some ⟨_,_,_,.one (.int _ sz)⟩,some ⟨_,_,_,.one (.int _ ra)⟩,some ⟨_,_,_,.one (.int _ sd)⟩,some (.blk _ [_,(_,.int _ a)]),some (.row _ _ _ (.lst _ _ L)),some (.blk _ [(_,.int _ x),(_,.int _ y),(_,.int _ z)]) => (match SX.J6 mem rid with
    | some (.row _ _ _ (.lit _ rows)) => (match YC CKi rows with
      | some R => qS (QI L sd.val ra.val sz.val) 854 (fun _ _ => some ⟨n.val.toNat,a.val,x.val,y.val,z.val,R⟩) env mem m
      | none => none)
    | _ => none)
  | _,_,_,_,_,_,_,_ => none
def JKb:FuncId → Nat → Option Q5 := kR Qm 9 10 Jgd
theorem JLI:Known Tryz.prog (JE JCw) JKb := by
  refine Qc 0 JLV (by kernel_rfl) (Z5 fun env mem m x h => ?_)
  unfold Jgd at h
  have hlen:(QC Tryz.prog 9).length = 1 := by kernel_rfl
  split at h
  · split at h
    · split at h
      · exact ⟨_,XX (Qg XB JLV (by omega)) (JVC _ _ _ _),h⟩
      · cases h
    · cases h
  · cases h
theorem Jbt {L:LL} {sd ra sz:Int} {s:CS} (hl:L.length ≤ 1000000) (h:0 ≤ s.a):0 ≤ (K8 L sd ra sz s).a := by
  have nn:∀ x,0 ≤ x → 0 ≤ J0 x L := fun x h => Zo x L h hl
  unfold K8
  generalize (bif J2 10 s.a L == 2 then J2 10 s.a L == 2 else J2 10 s.a L == 3:Bool) = c
  cases J2 10 s.a L == 0 <;> cases J2 10 s.a L == 1 <;> cases c <;> first
    | exact nn _ (nn _ h)
    | exact nn _ (nn _ (nn _ h))
    | exact nn _ (nn _ (nn _ (nn _ (nn _ h))))
theorem JeE {L:LL} {sd ra sz:Int} (hl:L.length ≤ 1000000):∀ (k:Nat) (s:CS),0 ≤ s.a → 0 ≤ (JFU L sd ra sz k s).a
  | 0,_,h => h
  | k + 1,s,h => JeE hl k _ (Jbt hl h)
theorem Jbk (L:LL) (sd ra sz:Int) (s:CS):(K8 L sd ra sz s).R.length = s.R.length + 1 := by
  unfold K8
  generalize (bif J2 10 s.a L == 2 then J2 10 s.a L == 2 else J2 10 s.a L == 3:Bool) = c
  cases J2 10 s.a L == 0 <;> cases J2 10 s.a L == 1 <;> cases c <;> simp only [cond_true,cond_false,stO,stZ,stA,JhP,List.length_append,List.length_cons,List.length_nil]
theorem JdG (L:LL) (sd ra sz:Int):∀ (k:Nat) (s:CS),(JFU L sd ra sz k s).R.length = s.R.length + k
  | 0,_ => rfl
  | k + 1,s => by
    have := JdG L sd ra sz k (K8 L sd ra sz s)
    rw [Jbk] at this
    show (JFU L sd ra sz k (K8 L sd ra sz s)).R.length = _
    omega
section
variable (x y z u v w a:Int) (L:LL)
def cSd:Int:= IntKind.i64.wrap (1 - IntKind.i64.wrap (2 * J2 2 a L))
def cRa:Int:= bif J2 4 (J0 (J0 a L) L) L == 0 then JG 100 2000 (J0 (J0 (J0 a L) L) L) L else JG 0 40 (J0 a L) L
def cSz:Int:= IntKind.i64.wrap (200 + IntKind.i64.wrap (6 * cRa a L))
def cA:Int:= bif J2 4 (J0 (J0 a L) L) L == 0 then J0 (J0 (J0 (J0 a L) L) L) L else J0 (J0 (J0 a L) L) L
def cX:Int:= JD (Js 1000 (cA a L) L) (JG (IntKind.i64.wrap (cRa a L + 1)) (cSz a L) (J0 (J0 (J0 (cA a L) L) L) L) L)
def cY:Int:= JD (Jt 1000 (cA a L) L) (JG (IntKind.i64.wrap (0 - cSz a L)) (cSz a L) (J0 (J0 (J0 (J0 (cA a L) L) L) L) L) L)
def cZ:Int:= JD (Jw 1000 (cA a L) L) 0
def cS:CS:= ⟨(JG 1 6 (J0 (J0 (J0 (J0 (J0 (cA a L) L) L) L) L) L) L).toNat,J0 (J0 (J0 (J0 (J0 (J0 (cA a L) L) L) L) L) L) L,cX a L,cY a L,cZ a L,
  [itL (Js 1000 (cA a L) L) (Jt 1000 (cA a L) L) (Jw 1000 (cA a L) L) (cX a L) (cY a L) (cZ a L) 60000 (cSd a L) (cRa a L)]⟩
def cT:CS:= JFU L (cSd a L) (cRa a L) (cSz a L) (cS a L).k (cS a L)
def itM:List Int:= [2,0,x,y,z,u,v,w,0,0,0,0,0,0,60000,0,0,0,0,0,0,0]
def Jg5:LL:= (cT a L).R ++ [itM (cT a L).x (cT a L).y (cT a L).z (JD (cT a L).x (JG (IntKind.i64.wrap (0 - cSz a L)) (cSz a L) (cT a L).a L))
  (JD (cT a L).y (JG (IntKind.i64.wrap (cRa a L + 1)) (cSz a L) (J0 (cT a L).a L) L)) (JD (cT a L).z 0)]
def JgY:Int:= J0 (J0 (cT a L).a L) L
end
theorem JiO (a:Int) (L:LL):1 ≤ (cS a L).k ∧ (cS a L).k ≤ 6 := by
  have h := Yr 1 6 (J0 (J0 (J0 (J0 (J0 (cA a L) L) L) L) L) L) L (by omega) (by omega) (by omega)
  unfold cS; dsimp only; omega
theorem JYn (a:Int) (L:LL):0 ≤ cRa a L ∧ cRa a L ≤ 2000 := by
  have h1 := Yr 0 40 (J0 a L) L (by omega) (by omega) (by omega)
  have h2 := Yr 100 2000 (J0 (J0 (J0 a L) L) L) L (by omega) (by omega) (by omega)
  unfold cRa
  cases J2 4 (J0 (J0 a L) L) L == 0
  · rw [cond_false]; omega
  · rw [cond_true]; omega
theorem Jh1 (a:Int) (L:LL):cSz a L = 200 + 6 * cRa a L := by
  have := JYn a L
  unfold cSz
  rw [Wu (x := 6 * cRa a L) (by omega) (by omega),Wu (by omega) (by omega)]
theorem Ji7 {a:Int} {L:LL} (h:0 ≤ a) (hl:L.length ≤ 1000000):0 ≤ cA a L := by
  have nn:∀ x,0 ≤ x → 0 ≤ J0 x L := fun x h => Zo x L h hl
  unfold cA
  cases J2 4 (J0 (J0 a L) L) L == 0
  · exact nn _ (nn _ (nn _ h))
  · exact nn _ (nn _ (nn _ (nn _ h)))
def X9:Tpl := ⟨[.one (.ptr 0 0)],[(0,.blk 57 [(2,.wh 1),(3,.int .i64)]),(1,.row true 3 1 4 [.int .i64])],5⟩
section
variable (a:Int) (L:LL)
def Z3:Int:=
 IntKind.i64.wrap (1 - IntKind.i64.wrap (2 * J2 2 a L))
def Qo:Int:=
 bif J2 4 (J0 (J0 a L) L) L == 0 then JG 100 2000 (J0 (J0 (J0 a L) L) L) L else JG 0 40 (J0 a L) L
def Qr:Int:=
 IntKind.i64.wrap (200 + IntKind.i64.wrap (6 * Qo a L))
def JO:Int:=
 bif J2 4 (J0 (J0 a L) L) L == 0 then J0 (J0 (J0 (J0 a L) L) L) L else J0 (J0 (J0 a L) L) L
def Zu:Int:=
 JD (Js 1000 (JO a L) L) (JG (IntKind.i64.wrap (Qo a L + 1)) (Qr a L) (J0 (J0 (J0 (JO a L) L) L) L) L)
def Zt:Int:=
 JD (Jt 1000 (JO a L) L) (JG (IntKind.i64.wrap (0 - Qr a L)) (Qr a L) (J0 (J0 (J0 (J0 (JO a L) L) L) L) L) L)
def JKH:Int:=
 ((QI L (Z3 a L) (Qo a L) (Qr a L)).fin (CS.mk (JG 1 6 (J0 (J0 (J0 (J0 (J0 (JO a L) L) L) L) L) L) L).toNat (J0 (J0 (J0 (J0 (J0 (J0 (JO a L) L) L) L) L) L) L) (Zu a L) (Zt a L) (JD (Jw 1000 (JO a L) L) 0) [[2,0,Js 1000 (JO a L) L,Jt 1000 (JO a L) L,Jw 1000 (JO a L) L,Zu a L,Zt a L,JD (Jw 1000 (JO a L) L) 0,17,0,0,0,0,0,60000,0,Z3 a L,Qo a L,0,0,0,0]])).x
def JKL:Int:=
 ((QI L (Z3 a L) (Qo a L) (Qr a L)).fin (CS.mk (JG 1 6 (J0 (J0 (J0 (J0 (J0 (JO a L) L) L) L) L) L) L).toNat (J0 (J0 (J0 (J0 (J0 (J0 (JO a L) L) L) L) L) L) L) (Zu a L) (Zt a L) (JD (Jw 1000 (JO a L) L) 0) [[2,0,Js 1000 (JO a L) L,Jt 1000 (JO a L) L,Jw 1000 (JO a L) L,Zu a L,Zt a L,JD (Jw 1000 (JO a L) L) 0,17,0,0,0,0,0,60000,0,Z3 a L,Qo a L,0,0,0,0]])).y
def JKS:Int:=
 ((QI L (Z3 a L) (Qo a L) (Qr a L)).fin (CS.mk (JG 1 6 (J0 (J0 (J0 (J0 (J0 (JO a L) L) L) L) L) L) L).toNat (J0 (J0 (J0 (J0 (J0 (J0 (JO a L) L) L) L) L) L) L) (Zu a L) (Zt a L) (JD (Jw 1000 (JO a L) L) 0) [[2,0,Js 1000 (JO a L) L,Jt 1000 (JO a L) L,Jw 1000 (JO a L) L,Zu a L,Zt a L,JD (Jw 1000 (JO a L) L) 0,17,0,0,0,0,0,60000,0,Z3 a L,Qo a L,0,0,0,0]])).z
def JLR:Int:=
 ((QI L (Z3 a L) (Qo a L) (Qr a L)).fin (CS.mk (JG 1 6 (J0 (J0 (J0 (J0 (J0 (JO a L) L) L) L) L) L) L).toNat (J0 (J0 (J0 (J0 (J0 (J0 (JO a L) L) L) L) L) L) L) (Zu a L) (Zt a L) (JD (Jw 1000 (JO a L) L) 0) [[2,0,Js 1000 (JO a L) L,Jt 1000 (JO a L) L,Jw 1000 (JO a L) L,Zu a L,Zt a L,JD (Jw 1000 (JO a L) L) 0,17,0,0,0,0,0,60000,0,Z3 a L,Qo a L,0,0,0,0]])).a
def JaQ:LL:=
 ((QI L (Z3 a L) (Qo a L) (Qr a L)).fin (CS.mk (JG 1 6 (J0 (J0 (J0 (J0 (J0 (JO a L) L) L) L) L) L) L).toNat (J0 (J0 (J0 (J0 (J0 (J0 (JO a L) L) L) L) L) L) L) (Zu a L) (Zt a L) (JD (Jw 1000 (JO a L) L) 0) [[2,0,Js 1000 (JO a L) L,Jt 1000 (JO a L) L,Jw 1000 (JO a L) L,Zu a L,Zt a L,JD (Jw 1000 (JO a L) L) 0,17,0,0,0,0,0,60000,0,Z3 a L,Qo a L,0,0,0,0]])).R ++ [[2,0,JKH a L,JKL a L,JKS a L,JD (JKH a L) (JG (IntKind.i64.wrap (0 - Qr a L)) (Qr a L) (JLR a L) L),JD (JKL a L) (JG (IntKind.i64.wrap (Qo a L + 1)) (Qr a L) (J0 (JLR a L) L) L),JD (JKS a L) 0,0,0,0,0,0,0,60000,0,0,0,0,0,0,0]]
end
def JZy (a:Int) (L:LL):Int :=
 J0 (J0 ((QI L (IntKind.i64.wrap (1 - IntKind.i64.wrap (2 * J2 2 a L))) (Qo a L) (Qr a L)).fin (CS.mk (JG 1 6 (J0 (J0 (J0 (J0 (J0 (JO a L) L) L) L) L) L) L).toNat (J0 (J0 (J0 (J0 (J0 (J0 (JO a L) L) L) L) L) L) L) (JD (Js 1000 (JO a L) L) (JG (IntKind.i64.wrap (Qo a L + 1)) (Qr a L) (J0 (J0 (J0 (JO a L) L) L) L) L)) (JD (Jt 1000 (JO a L) L) (JG (IntKind.i64.wrap (0 - Qr a L)) (Qr a L) (J0 (J0 (J0 (J0 (JO a L) L) L) L) L) L)) (JD (Jw 1000 (JO a L) L) 0) [(fun x => 2 :: x) ((fun x => 0 :: x) ((fun x => Js 1000 (bif J2 4 (J0 (J0 a L) L) L == 0 then J0 (J0 (J0 (J0 a L) L) L) L else J0 (J0 (J0 a L) L) L) L :: x) ((fun x => Jt 1000 (bif J2 4 (J0 (J0 a L) L) L == 0 then J0 (J0 (J0 (J0 a L) L) L) L else J0 (J0 (J0 a L) L) L) L :: x) ((fun x => Jw 1000 (bif J2 4 (J0 (J0 a L) L) L == 0 then J0 (J0 (J0 (J0 a L) L) L) L else J0 (J0 (J0 a L) L) L) L :: x) ((fun x => JD (Js 1000 (bif J2 4 (J0 (J0 a L) L) L == 0 then J0 (J0 (J0 (J0 a L) L) L) L else J0 (J0 (J0 a L) L) L) L) (JG (IntKind.i64.wrap ((bif J2 4 (J0 (J0 a L) L) L == 0 then JG 100 2000 (J0 (J0 (J0 a L) L) L) L else JG 0 40 (J0 a L) L) + 1)) (IntKind.i64.wrap (200 + IntKind.i64.wrap (6 * bif J2 4 (J0 (J0 a L) L) L == 0 then JG 100 2000 (J0 (J0 (J0 a L) L) L) L else JG 0 40 (J0 a L) L))) (J0 (J0 (J0 (bif J2 4 (J0 (J0 a L) L) L == 0 then J0 (J0 (J0 (J0 a L) L) L) L else J0 (J0 (J0 a L) L) L) L) L) L) L) :: x) ((fun x => JD (Jt 1000 (bif J2 4 (J0 (J0 a L) L) L == 0 then J0 (J0 (J0 (J0 a L) L) L) L else J0 (J0 (J0 a L) L) L) L) (JG (IntKind.i64.wrap (0 - IntKind.i64.wrap (200 + IntKind.i64.wrap (6 * bif J2 4 (J0 (J0 a L) L) L == 0 then JG 100 2000 (J0 (J0 (J0 a L) L) L) L else JG 0 40 (J0 a L) L)))) (IntKind.i64.wrap (200 + IntKind.i64.wrap (6 * bif J2 4 (J0 (J0 a L) L) L == 0 then JG 100 2000 (J0 (J0 (J0 a L) L) L) L else JG 0 40 (J0 a L) L))) (J0 (J0 (J0 (J0 (bif J2 4 (J0 (J0 a L) L) L == 0 then J0 (J0 (J0 (J0 a L) L) L) L else J0 (J0 (J0 a L) L) L) L) L) L) L) L) :: x) ((fun x => JD (Jw 1000 (bif J2 4 (J0 (J0 a L) L) L == 0 then J0 (J0 (J0 (J0 a L) L) L) L else J0 (J0 (J0 a L) L) L) L) 0 :: x) ((fun x => 17 :: x) ((fun x => 0 :: x) ((fun x => 0 :: x) ((fun x => 0 :: x) ((fun x => 0 :: x) ((fun x => 0 :: x) ((fun x => 60000 :: x) ((fun x => 0 :: x) ((fun x => IntKind.i64.wrap (1 - IntKind.i64.wrap (2 * J2 2 a L)) :: x) ((fun x => (bif J2 4 (J0 (J0 a L) L) L == 0 then JG 100 2000 (J0 (J0 (J0 a L) L) L) L else JG 0 40 (J0 a L) L) :: x) ((fun x => 0 :: x) ((fun x => 0 :: x) ((fun x => 0 :: x) ((fun x => 0 :: x) [])))))))))))))))))))))])).a L) L
section
variable (a:Int) (L:LL)
def JAV:Bool:=
 J2 4 (J0 (J0 a L) L) L == 0
def JL:Int:=
 bif JAV a L then J0 (J0 (J0 (J0 a L) L) L) L else J0 (J0 (J0 a L) L) L
def ZY:Int:=
 bif JAV a L then JG 100 2000 (J0 (J0 (J0 a L) L) L) L else JG 0 40 (J0 a L) L
def Jz:Int:=
 IntKind.i64.wrap (200 + IntKind.i64.wrap (6 * ZY a L))
def Z8:Int:=
 JD (Js 1000 (JL a L) L) (JG (IntKind.i64.wrap (ZY a L + 1)) (Jz a L) (J0 (J0 (J0 (JL a L) L) L) L) L)
def Z9:Int:=
 JD (Jt 1000 (JL a L) L) (JG (IntKind.i64.wrap (0 - Jz a L)) (Jz a L) (J0 (J0 (J0 (J0 (JL a L) L) L) L) L) L)
def ZI:LL:=
 [[2,0,Js 1000 (JL a L) L,Jt 1000 (JL a L) L,Jw 1000 (JL a L) L,Z8 a L,Z9 a L,JD (Jw 1000 (JL a L) L) 0,17,0,0,0,0,0,60000,0,Z3 a L,ZY a L,0,0,0,0]]
def JHd:Int:=
 (CS.mk (JG 1 6 (J0 (J0 (J0 (J0 (J0 (JL a L) L) L) L) L) L) L).toNat (J0 (J0 (J0 (J0 (J0 (J0 (JL a L) L) L) L) L) L) L) (Z8 a L) (Z9 a L) (JD (Jw 1000 (JL a L) L) 0) (ZI a L)).a
def JIW:LL:=
 (CS.mk (JG 1 6 (J0 (J0 (J0 (J0 (J0 (JL a L) L) L) L) L) L) L).toNat (J0 (J0 (J0 (J0 (J0 (J0 (JL a L) L) L) L) L) L) L) (Z8 a L) (Z9 a L) (JD (Jw 1000 (JL a L) L) 0) (ZI a L)).R
def JHX:Int:=
 ((QI L (Z3 a L) (ZY a L) (Jz a L)).fin (CS.mk (JG 1 6 (J0 (J0 (J0 (J0 (J0 (JL a L) L) L) L) L) L) L).toNat (J0 (J0 (J0 (J0 (J0 (J0 (JL a L) L) L) L) L) L) L) (Z8 a L) (Z9 a L) (JD (Jw 1000 (JL a L) L) 0) (ZI a L))).a
def K4:List Prop:=
 [0 ≤ a,L.length ≤ 1000000,Int.ofNat 2 ≠ 0,0 ≤ J0 a L,L.length ≤ 1000000,Int.ofNat 0 ≤ 40 ∧ -1000000 ≤ 0 ∧ Int.ofNat 40 ≤ 1000000,0 ≤ J0 (J0 a L) L,L.length ≤ 1000000,Int.ofNat 4 ≠ 0,JAV a L = true → 0 ≤ J0 (J0 (J0 a L) L) L ∧ L.length ≤ 1000000 ∧ Int.ofNat 100 ≤ 2000 ∧ -1000000 ≤ 100 ∧ Int.ofNat 2000 ≤ 1000000,0 ≤ JL a L,L.length ≤ 1000000,Int.ofNat 0 ≤ 1000 ∧ Int.ofNat 1000 ≤ 1000000,0 ≤ J0 (J0 (J0 (JL a L) L) L) L,L.length ≤ 1000000,IntKind.i64.wrap (ZY a L + 1) ≤ Jz a L ∧ -1000000 ≤ IntKind.i64.wrap (ZY a L + 1) ∧ Jz a L ≤ 1000000,0 ≤ J0 (J0 (J0 (J0 (JL a L) L) L) L) L,L.length ≤ 1000000,IntKind.i64.wrap (0 - Jz a L) ≤ Jz a L ∧ -1000000 ≤ IntKind.i64.wrap (0 - Jz a L) ∧ Jz a L ≤ 1000000,0 ≤ J0 (J0 (J0 (J0 (J0 (JL a L) L) L) L) L) L,L.length ≤ 1000000,Int.ofNat 1 ≤ 6 ∧ -1000000 ≤ 1 ∧ Int.ofNat 6 ≤ 1000000,0 ≤ JHd a L ∧ L.length ≤ 1000000 ∧ (0 ≤ Jz a L ∧ Jz a L ≤ 1000000) ∧ (JIW a L).length + (CS.mk (JG 1 6 (J0 (J0 (J0 (J0 (J0 (JL a L) L) L) L) L) L) L).toNat (J0 (J0 (J0 (J0 (J0 (J0 (JL a L) L) L) L) L) L) L) (Z8 a L) (Z9 a L) (JD (Jw 1000 (JL a L) L) 0) (ZI a L)).k ≤ 1000,Int.ofNat (CS.mk (JG 1 6 (J0 (J0 (J0 (J0 (J0 (JL a L) L) L) L) L) L) L).toNat (J0 (J0 (J0 (J0 (J0 (J0 (JL a L) L) L) L) L) L) L) (Z8 a L) (Z9 a L) (JD (Jw 1000 (JL a L) L) 0) (ZI a L)).k = JG 1 6 (J0 (J0 (J0 (J0 (J0 (JL a L) L) L) L) L) L) L,JHd a L = J0 (J0 (J0 (J0 (J0 (J0 (JL a L) L) L) L) L) L) L,(CS.mk (JG 1 6 (J0 (J0 (J0 (J0 (J0 (JL a L) L) L) L) L) L) L).toNat (J0 (J0 (J0 (J0 (J0 (J0 (JL a L) L) L) L) L) L) L) (Z8 a L) (Z9 a L) (JD (Jw 1000 (JL a L) L) 0) (ZI a L)).x = Z8 a L,(CS.mk (JG 1 6 (J0 (J0 (J0 (J0 (J0 (JL a L) L) L) L) L) L) L).toNat (J0 (J0 (J0 (J0 (J0 (J0 (JL a L) L) L) L) L) L) L) (Z8 a L) (Z9 a L) (JD (Jw 1000 (JL a L) L) 0) (ZI a L)).y = Z9 a L,(CS.mk (JG 1 6 (J0 (J0 (J0 (J0 (J0 (JL a L) L) L) L) L) L) L).toNat (J0 (J0 (J0 (J0 (J0 (J0 (JL a L) L) L) L) L) L) L) (Z8 a L) (Z9 a L) (JD (Jw 1000 (JL a L) L) 0) (ZI a L)).z = JD (Jw 1000 (JL a L) L) 0,JIW a L = ZI a L,0 ≤ JHX a L,L.length ≤ 1000000,IntKind.i64.wrap (0 - Jz a L) ≤ Jz a L ∧ -1000000 ≤ IntKind.i64.wrap (0 - Jz a L) ∧ Jz a L ≤ 1000000,0 ≤ J0 (JHX a L) L,L.length ≤ 1000000,IntKind.i64.wrap (ZY a L + 1) ≤ Jz a L ∧ -1000000 ≤ IntKind.i64.wrap (ZY a L + 1) ∧ Jz a L ≤ 1000000,(((QI L (Z3 a L) (ZY a L) (Jz a L)).fin (CS.mk (JG 1 6 (J0 (J0 (J0 (J0 (J0 (JL a L) L) L) L) L) L) L).toNat (J0 (J0 (J0 (J0 (J0 (J0 (JL a L) L) L) L) L) L) L) (Z8 a L) (Z9 a L) (JD (Jw 1000 (JL a L) L) 0) (ZI a L))).R.length + 1) * 176 ≤ 140737488355328,((QI L (Z3 a L) (ZY a L) (Jz a L)).fin (CS.mk (JG 1 6 (J0 (J0 (J0 (J0 (J0 (JL a L) L) L) L) L) L) L).toNat (J0 (J0 (J0 (J0 (J0 (J0 (JL a L) L) L) L) L) L) L) (Z8 a L) (Z9 a L) (JD (Jw 1000
 (JL a L) L) 0) (ZI a L))).R.length + 1 ≤ 9223372036854775807]
end
theorem JPN {a:Int} {L:LL} (hW:∀ q ∈ ([0 ≤ a,L.length ≤ 1000000]:List Prop),q):∀ q ∈ (K4 a L),q := by
  simp only [awc,awn,and_true] at hW
  unfold K4
  simp only [awc,awn,and_true]
  obtain ⟨h1,h2⟩ := hW
  have nn:∀ x,0 ≤ x → 0 ≤ J0 x L := fun x h => Zo x L h h2
  have n1 := nn _ h1
  have n2 := nn _ n1
  have n3 := nn _ n2
  have r := JYn a L
  have z := Jh1 a L
  have k0:(0:Int) ≤ 40 ∧ (-1000000:Int) ≤ 0 ∧ (40:Int) ≤ 1000000 := by decide
  have m0 := Ji7 h1 h2
  have m1 := nn _ m0
  have m2 := nn _ m1
  have m3 := nn _ m2
  have m4 := nn _ m3
  have m5 := nn _ m4
  have m6 := nn _ m5
  have w1:IntKind.i64.wrap (cRa a L + 1) = cRa a L + 1 := Wu (by omega) (by omega)
  have w2:IntKind.i64.wrap (0 - cSz a L) = 0 - cSz a L := Wu (by omega) (by omega)
  have p1:IntKind.i64.wrap (cRa a L + 1) ≤ cSz a L ∧ -1000000 ≤ IntKind.i64.wrap (cRa a L + 1) ∧ cSz a L ≤ 1000000 := by rw [w1]; omega
  have p2:IntKind.i64.wrap (0 - cSz a L) ≤ cSz a L ∧ -1000000 ≤ IntKind.i64.wrap (0 - cSz a L) ∧ cSz a L ≤ 1000000 := by rw [w2]; omega
  have p3:0 ≤ cSz a L ∧ cSz a L ≤ 1000000 := by omega
  have kk := JiO a L
  have q1:(cS a L).R.length + (cS a L).k ≤ 1000 := by
    have e:(cS a L).R.length = 1 := rfl
    omega
  have q2:Int.ofNat (cS a L).k = JG 1 6 (J0 (J0 (J0 (J0 (J0 (cA a L) L) L) L) L) L) L := by
    have h := Yr 1 6 (J0 (J0 (J0 (J0 (J0 (cA a L) L) L) L) L) L) L (by omega) (by omega) (by omega)
    exact Int.toNat_of_nonneg (by omega)
  have ta:0 ≤ (cT a L).a := JeE h2 _ _ m6
  have tr:(cT a L).R.length ≤ 7 := by
    have := JdG L (cSd a L) (cRa a L) (cSz a L) (cS a L).k (cS a L)
    have e:(cS a L).R.length = 1 := rfl
    unfold cT; omega
  exact ⟨h1,h2,by decide,n1,h2,k0,n2,h2,by decide,fun _ => ⟨n3,h2,by decide⟩,m0,h2,by decide,m3,h2,p1,m4,h2,p2,m5,h2,by decide,⟨m6,h2,p3,q1⟩,q2,rfl,trivial,trivial,trivial,rfl,ta,h2,p2,nn _ ta,h2,p1,(show ((cT a L).R.length + 1) * 176 ≤ 140737488355328 ∧ (cT a L).R.length + 1 ≤ 9223372036854775807 by omega)⟩
def JWj (a:Int) (L:LL):Je :=
 [(1158,Obj.row false 40 22 (RowC.lst 1160 ckI (JaQ a L))),(0,Obj.blk 57 [(2,SC.wh 1),(1100,Ci (JZy a L))]),(1,Obj.row true 3 1 (RowC.lst 4 [CK.int IntKind.i64] L))]
theorem JOw (a:Int) (L:LL) (hNeeds:∀ pN ∈ (K4 a L),pN):Runs (Jl (JE JCw) JKb 9) (X9.args [.i a]) (X9.memo [.i a] [L]) X9.n (SV.one (SC.wh 1158)) (JWj a L) :=
  Runs.of1 (ps := (K4 a L)) (by kernel_rfl) hNeeds
def JAT:List Pm → Qs → Option CRes
  | [.i a],[L] => some ⟨SV.one (SC.wh 1158),[(1158,Obj.row false 40 22 (RowC.lst 1160 ckI ((Jg5 a L)))),(0,Obj.blk 57 [(2,SC.wh 1),(1100,Ci ((JgY a L)))]),(1,Obj.row true 3 1 (RowC.lst 4 [CK.int IntKind.i64] L))],[0 ≤ a,L.length ≤ 1000000],[],1163⟩
  | _,_ => none
theorem JJy (a:Int) (L:LL) (hNeeds:∀ pN ∈ (K4 a L),pN):Runs (Jl (JE JCw) JKb 9) (X9.args [.i a]) (X9.memo [.i a] [L]) X9.n (SV.one (SC.wh 1158))
    ([(1158,
     Obj.row false 40 22
     (RowC.lst 1160
     [CK.int IntKind.i64,CK.int IntKind.i64,CK.int IntKind.i64,CK.int IntKind.i64,CK.int IntKind.i64,CK.int IntKind.i64,CK.int IntKind.i64,CK.int IntKind.i64,CK.int IntKind.i64,
     CK.int IntKind.i64,CK.int IntKind.i64,CK.int IntKind.i64,CK.int IntKind.i64,CK.bool,CK.int IntKind.i64,CK.bool,CK.int IntKind.i64,CK.int IntKind.i64,CK.int IntKind.i64,
     CK.int IntKind.i64,CK.int IntKind.i64,CK.bool]
     ((Jg5 a L)))),
    (0,Obj.blk 57 [(2,SC.wh 1),(1100,SC.int IntKind.i64 (SI.v ((JgY a L))))]),(1,Obj.row true 3 1 (RowC.lst 4 [CK.int IntKind.i64] L))]) :=
  (JOw a L hNeeds).to (by first | rfl | (simp only [])) (by first | rfl | (simp only []))
theorem JXf:Qf Tryz.prog 9 (JP X9 JAT) := by
  refine JI (JF JLI 9) fun ps ls r hr hn _ => ?_
  unfold JAT at hr
  split at hr
  · cases hr; exact ⟨_,JJy _ _ (JPN (by exact hn)),fun _ => rfl⟩
  · cases hr
def Kx:List (Nat × JU) := (9,JP X9 JAT) :: JCw
theorem JBz:Known Tryz.prog (JE Kx) JKb := J4 JLI JXf
end
end Go.Proofs.YtmbfbhimdkjkoaaGreat
