/-
  Texts of one claim, laid together. Conditions: none.
-/
import Derived.Test.YtmbfbhimdkjkoaaGreatM1f55bd71
set_option linter.all false
set_option maxRecDepth 1000000
namespace Go.Proofs.YtmbfbhimdkjkoaaGreat
noncomputable section
open Go.SX Go.RowKit
def bs (P:Int → Bool):Nat → Int → Int → Int
  | 0,_,b => b
  | f + 1,a,b => bif decide (b - a > 1) then (bif P ((a + b).tdiv 2) then bs P f a ((a + b).tdiv 2) else bs P f ((a + b).tdiv 2) b) else b
theorem JUr {a b:Int} (h0:0 ≤ a) (h:b - a > 1):a < (a + b).tdiv 2 ∧ (a + b).tdiv 2 < b := by
  rw [Int.tdiv_eq_ediv_of_nonneg (by omega)]
  omega
theorem JUn (P:Int → Bool):∀ (f g:Nat) (a b:Int),0 ≤ a → (b - a).toNat ≤ f → (b - a).toNat ≤ g → bs P f a b = bs P g a b
  | 0,0,_,_,_,_,_ => rfl
  | 0,g + 1,a,b,_,h,_ => by
    unfold bs
    rw [decide_eq_false (show ¬ b - a > 1 by omega)]; rfl
  | f + 1,0,a,b,_,_,h => by
    unfold bs
    rw [decide_eq_false (show ¬ b - a > 1 by omega)]; rfl
  | f + 1,g + 1,a,b,h0,h1,h2 => by
    unfold bs
    by_cases h:b - a > 1
    · obtain ⟨m1,m2⟩ := JUr h0 h
      rw [JUn P f g a _ h0 (by omega) (by omega),JUn P f g _ b (by omega) (by omega) (by omega)]
    · rw [decide_eq_false h]; rfl
def bs0 (n:Int):Int × Int := (0,n)
def bsF (P:Int → Bool) (s:Int × Int):Int := bs P (s.2 - s.1).toNat s.1 s.2
theorem Jm0 {P:Int → Bool} {a b:Int} (h:¬ b - a > 1):bsF P (a,b) = b := by
  show bs P (b - a).toNat a b = b
  cases (b - a).toNat with
  | zero => rfl
  | succ f => unfold bs; rw [decide_eq_false h]; rfl
theorem JsG {P:Int → Bool} {a b:Int} (h0:0 ≤ a) (h:b - a > 1):bsF P (a,b) = bif P ((a + b).tdiv 2) then bsF P (a,(a + b).tdiv 2) else bsF P ((a + b).tdiv 2,b) := by
  obtain ⟨m1,m2⟩ := JUr h0 h
  show bs P (b - a).toNat a b = _
  have e:(b - a).toNat = (b - a - 1).toNat + 1 := by omega
  rw [e]
  unfold bs
  rw [decide_eq_true h,cond_true]
  show (bif P ((a + b).tdiv 2) then bs P (b - a - 1).toNat a ((a + b).tdiv 2) else bs P (b - a - 1).toNat ((a + b).tdiv 2) b) = _
  rw [JUn P (b - a - 1).toNat ((a + b).tdiv 2 - a).toNat a _ h0 (by omega) (by omega),JUn P (b - a - 1).toNat (b - (a + b).tdiv 2).toNat _ b (by omega) (by omega) (by omega)]
  rfl
def bsN (P:Int → Bool) (s:Int × Int):Int × Int := (bif P ((s.1 + s.2).tdiv 2) then s.1 else (s.1 + s.2).tdiv 2,bif P ((s.1 + s.2).tdiv 2) then (s.1 + s.2).tdiv 2 else s.2)
theorem Jqg {P:Int → Bool} {s:Int × Int} (h0:0 ≤ s.1) (h:s.2 - s.1 > 1):0 ≤ (bsN P s).1 ∧ (bsN P s).1 ≤ (bsN P s).2 ∧ (bsN P s).2 ≤ s.2 ∧ ((bsN P s).2 - (bsN P s).1).toNat < (s.2 - s.1).toNat ∧ bsF P (bsN P s) = bsF P s := by
  rcases s with ⟨a,b⟩
  obtain ⟨m1,m2⟩ := JUr h0 h
  have hs := JsG (P := P) h0 h
  unfold bsN
  simp only at h0 h m1 m2 hs ⊢
  rw [hs]
  cases P ((a + b).tdiv 2)
  · simp only [cond_false]
    exact ⟨by omega,by omega,by omega,by omega,trivial⟩
  · simp only [cond_true]
    exact ⟨by omega,by omega,by omega,by omega,trivial⟩
theorem Jrq {s:Int × Int} (h0:0 ≤ s.1) (h1:s.1 ≤ s.2) (h2:s.2 ≤ 1000000000000):IntKind.i64.wrap (s.2 - s.1) = s.2 - s.1 ∧ IntKind.i64.wrap ((IntKind.i64.wrap (s.1 + s.2)).tdiv 2) = (s.1 + s.2).tdiv 2 ∧ XT ((s.1 + s.2).tdiv 2) := by
  have e:(s.1 + s.2).tdiv 2 = (s.1 + s.2) / 2 := Int.tdiv_eq_ediv_of_nonneg (by omega)
  rw [Zy (x := s.2 - s.1) (by omega) (by omega),Zy (x := s.1 + s.2) (by omega) (by omega),e,Zy (by omega) (by omega)]
  exact ⟨rfl,rfl,by omega,by omega⟩
def JbI (mem:Jn) (id:Nat):Option (List Int × Bool) := match SX.JC mem id with
  | some (.blk _ cs) => (match cs.reverse with
    | (_,.bool b) :: r => (Jmn r.reverse).map fun l => (l,b.val)
    | _ => none)
  | _ => none
section
variable (l0 l1 d0 d1 n:Int) (id t:Nat) (x y e0 e1 e2 e3 e4 e5 e6 r k:Int) (e7:Bool)
def Jp4:Nat × SX.Obj:= (id,.blk 91 [(t,I e0),(t + 1,I e1),(t + 2,I e2),(t + 3,I e3),(t + 4,I e4),(t + 5,I e5),(t + 6,I e6),(t + 7,.bool (.v e7))])
def JtQ:Nat × SX.Obj:= (id,.blk 54 [(t,I x),(t + 1,I y)])
def Jtx:Nat × SX.Obj:= (id,.blk 54 [(t,.int .i64 (.c 0)),(t + 1,.int .i64 (.c 0))])
def stP:Bool:= ZW e0 e1 e2 e3 e4 e5 e6 (JI l0 (X8 d0 k n 2)) (JI l1 (X8 d1 k n 2)) r
end
def stM (l0 l1 d0 d1 n e0 e1 e2 e3 e4 e5 e6:Int) (e7:Bool) (r:Int):Jn :=
  [(76,.clo [.one (.ptr 53 0),.one (.ptr 71 0),.one (.ptr 12 0)]),(71,.blk 3 [(74,I n)]),JtQ 53 57 d0 d1,Jtx 20 21,JtQ 12 13 l0 l1,(0,.clo [.one (.ptr 1 0),.one (.ptr 2 0)]),Jp4 1 3 e0 e1 e2 e3 e4 e5 e6 e7,(2,.blk 3 [(11,I r)])]
def stF (l0 l1 d0 d1 n e0 e1 e2 e3 e4 e5 e6:Int) (e7:Bool) (r:Int):Fam (Int × Int) Int where
  k := 60
  E s := [(11,ent 1000000000 (.one (I s.2))),(10,ent 1000000001 (.one (I s.1))),(9,ent 78 (.one (.clo 160 76))),(6,ent 23 (.one (.ptr 20 0))),(2,ent 4 (.one (.clo 133 0)))]
  M _ := stM l0 l1 d0 d1 n e0 e1 e2 e3 e4 e5 e6 e7 r
  out b := .leaf (.exit 0) [(11,ent 83 (.one (I b))),(9,ent 78 (.one (.clo 160 76))),(6,ent 23 (.one (.ptr 20 0)))] (stM l0 l1 d0 d1 n e0 e1 e2 e3 e4 e5 e6 e7 r)
  fin s := bsF (stP l0 l1 d0 d1 n e0 e1 e2 e3 e4 e5 e6 r) s
  next s _ := bsN (stP l0 l1 d0 d1 n e0 e1 e2 e3 e4 e5 e6 r) s
  J s := 0 ≤ s.1 ∧ s.1 ≤ s.2 ∧ s.2 ≤ 1000000000000 ∧ XT d0 ∧ XT d1 ∧ XT n
  μ s := (s.2 - s.1).toNat
section
variable (l0 l1 d0 d1 n e0 e1 e2 e3 e4 e5 e6:Int) (e7:Bool) (r:Int) (s:Int × Int)
def Jpf:Prop:=
 decide (IntKind.i64.wrap (s.snd - s.fst) > 1) = true
def JJ3:Int:=
 IntKind.i64.wrap ((IntKind.i64.wrap (s.fst + s.snd)).tdiv 2)
def JqY:Prop:=
 -9223372036854775808 ≤ n ∧ n < 9223372036854775808
def JrK:Int:=
 ((stF l0 l1 d0 d1 n e0 e1 e2 e3 e4 e5 e6 e7 r).next s 0).fst
def Jr3:Int:=
 ((stF l0 l1 d0 d1 n e0 e1 e2 e3 e4 e5 e6 e7 r).next s 0).snd
def JuS:Int:=
 (stF l0 l1 d0 d1 n e0 e1 e2 e3 e4 e5 e6 e7 r).fin s
def JVz:List Prop:=
 [Jpf s → (-9223372036854775808 ≤ d0 ∧ d0 < 9223372036854775808) ∧ (-9223372036854775808 ≤ JJ3 s ∧ JJ3 s < 9223372036854775808) ∧ JqY n ∧ (-9223372036854775808 ≤ d1 ∧ d1 < 9223372036854775808) ∧ (-9223372036854775808 ≤ JJ3 s ∧ JJ3 s < 9223372036854775808) ∧ JqY n,Jpf s → (0 ≤ JrK l0 l1 d0 d1 n e0 e1 e2 e3 e4 e5 e6 e7 r s ∧ JrK l0 l1 d0 d1 n e0 e1 e2 e3 e4 e5 e6 e7 r s ≤ Jr3 l0 l1 d0 d1 n e0 e1 e2 e3 e4 e5 e6 e7 r s ∧ Jr3 l0 l1 d0 d1 n e0 e1 e2 e3 e4 e5 e6 e7 r s ≤ 1000000000000 ∧ (-9223372036854775808 ≤ d0 ∧ d0 < 9223372036854775808) ∧ (-9223372036854775808 ≤ d1 ∧ d1 < 9223372036854775808) ∧ JqY n) ∧ (stF l0 l1 d0 d1 n e0 e1 e2 e3 e4 e5 e6 e7 r).μ ((stF l0 l1 d0 d1 n e0 e1 e2 e3 e4 e5 e6 e7 r).next s 0) < (stF l0 l1 d0 d1 n e0 e1 e2 e3 e4 e5 e6 e7 r).μ s ∧ (stF l0 l1 d0 d1 n e0 e1 e2 e3 e4 e5 e6 e7 r).fin ((stF l0 l1 d0 d1 n e0 e1 e2 e3 e4 e5 e6 e7 r).next s 0) = JuS l0 l1 d0 d1 n e0 e1 e2 e3 e4 e5 e6 e7 r s ∧ (Jr3 l0 l1 d0 d1 n e0 e1 e2 e3 e4 e5 e6 e7 r s = bif ZW e0 e1 e2 e3 e4 e5 e6 (JI l0 (X8 d0 (JJ3 s) n 2)) (JI l1 (X8 d1 (JJ3 s) n 2)) r then JJ3 s else s.snd) ∧ JrK l0 l1 d0 d1 n e0 e1 e2 e3 e4 e5 e6 e7 r s = bif ZW e0 e1 e2 e3 e4 e5 e6 (JI l0 (X8 d0 (JJ3 s) n 2)) (JI l1 (X8 d1 (JJ3 s) n 2)) r then s.fst else JJ3 s,decide (IntKind.i64.wrap (s.snd - s.fst) > 1) = false → JuS l0 l1 d0 d1 n e0 e1 e2 e3 e4 e5 e6 e7 r s = s.snd]
end
theorem Jt5 (l0 l1 d0 d1 n e0 e1 e2 e3 e4 e5 e6:Int) (e7:Bool) (r:Int) (s:Int × Int) (hNeeds:∀ pN ∈ (JVz l0 l1 d0 d1 n e0 e1 e2 e3 e4 e5 e6 e7 r s),pN):Q4 (Xh (stF l0 l1 d0 d1 n e0 e1 e2 e3 e4 e5 e6 e7 r) (QW Tryz.prog (JB JKS) Zs 135 0) 82 s) :=
  Q4.of (ps := (JVz l0 l1 d0 d1 n e0 e1 e2 e3 e4 e5 e6 e7 r s)) (by kernel_rfl) (by kernel_rfl) hNeeds
theorem Jol (l0 l1 d0 d1 n e0 e1 e2 e3 e4 e5 e6:Int) (e7:Bool) (r:Int):Z1 (stF l0 l1 d0 d1 n e0 e1 e2 e3 e4 e5 e6 e7 r) (QW Tryz.prog (JB JKS) Zs 135 0) 82 := by
  intro s hJ
  obtain ⟨h0,h1,h2,h3,h4,h5⟩:0 ≤ s.1 ∧ s.1 ≤ s.2 ∧ s.2 ≤ 1000000000000 ∧ XT d0 ∧ XT d1 ∧ XT n := hJ
  obtain ⟨w1,w2,w3⟩ := Jrq h0 h1 h2
  have hk:JJ3 s = (s.1 + s.2).tdiv 2 := w2
  refine Jt5 l0 l1 d0 d1 n e0 e1 e2 e3 e4 e5 e6 e7 r s ?_
  unfold JVz
  rw [hk]
  unfold Jpf
  rw [w1]
  intro p hp
  simp only [List.mem_cons,List.not_mem_nil,or_false] at hp
  rcases hp with rfl | rfl | rfl
  · exact fun _ => ⟨h3,w3,h5,h4,w3,h5⟩
  · intro h
    have h:s.2 - s.1 > 1 := by simpa using h
    obtain ⟨b1,b2,b3,b4,b5⟩ := Jqg (P := stP l0 l1 d0 d1 n e0 e1 e2 e3 e4 e5 e6 r) h0 h
    exact ⟨⟨b1,b2,Int.le_trans b3 h2,h3,h4,h5⟩,b4,b5,rfl,rfl⟩
  · intro h
    have h:¬ s.2 - s.1 > 1 := by simpa using h
    show bsF _ (s.1,s.2) = s.2
    exact Jm0 h
def stL:QG := fun env mem m => match Wb env 11,JHg mem 12,JHg mem 53,JHg mem 71,JbI mem 1,JHg mem 2 with
  | some b,some [l0,l1],some [d0,d1],some [n],some ([e0,e1,e2,e3,e4,e5,e6],e7),some [r] => zD (stF l0 l1 d0 d1 n e0 e1 e2 e3 e4 e5 e6 e7 r) 82 (fun _ _ => some (bs0 b)) env mem m
  | _,_,_,_,_,_ => none
def JpM:FuncId → Nat → Option QG := JB6 Zs 135 5 stL
theorem JcB:Known Tryz.prog (JB JKS) JpM := by
  refine Qf 0 JSu (by kernel_rfl) (Qs fun env mem m x h => ?_)
  unfold stL at h
  have hlen:(QU Tryz.prog 135).length = 1 := by kernel_rfl
  split at h
  · exact ⟨_,XW (Qc X5 JSu (by omega)) (Jol _ _ _ _ _ _ _ _ _ _ _ _ _ _),h⟩
  · cases h
theorem JkV (P:Int → Bool):∀ (f:Nat) (a b:Int),0 ≤ a → a ≤ b → a ≤ bs P f a b ∧ bs P f a b ≤ b
  | 0,a,b,_,h => ⟨h,Int.le_refl _⟩
  | f + 1,a,b,h0,h => by
    unfold bs
    by_cases g:b - a > 1
    · obtain ⟨m1,m2⟩ := JUr h0 g
      rw [decide_eq_true g,cond_true]
      cases P ((a + b).tdiv 2)
      · have := JkV P f ((a + b).tdiv 2) b (by omega) (by omega)
        rw [cond_false]; omega
      · have := JkV P f a ((a + b).tdiv 2) h0 (by omega)
        rw [cond_true]; omega
    · rw [decide_eq_false g,cond_false]; omega
theorem JmZ (P:Int → Bool) {n:Int} (h:0 ≤ n):0 ≤ bsF P (bs0 n) ∧ bsF P (bs0 n) ≤ n := JkV P _ 0 n (by omega) h
def Wk:Tpl := ⟨[.agg [.int .i64,.int .i64],.agg [.int .i64,.int .i64],.one (.clo 133 0)],[(0,.clo [.one (.ptr 1 0),.one (.ptr 2 0)]),(1,.blk 91 [(3,.int .i64),(4,.int .i64),(5,.int .i64),(6,.int .i64),(7,.int .i64),(8,.int .i64),(9,.int .i64),(10,.bool)]),(2,.blk 3 [(11,.int .i64)])],12⟩
section
variable (l0 l1 h0 h1 e0 e1 e2 e3 e4 e5 e6:Int) (e7:Bool) (r:Int)
def JE6:Int:=
 if IntKind.i64.wrap (0 - J0 h0 l0) > J0 h0 l0 then IntKind.i64.wrap (0 - J0 h0 l0) else J0 h0 l0
def JDa:Int:=
 if J0 h1 l1 > JE6 l0 h0 then J0 h1 l1 else JE6 l0 h0
def Q9:Int:=
 if IntKind.i64.wrap (0 - J0 h1 l1) > JDa l0 l1 h0 h1 then IntKind.i64.wrap (0 - J0 h1 l1) else JDa l0 l1 h0 h1
def JCP:Int:=
 JI l0 (X8 (J0 h0 l0) ((stF l0 l1 (J0 h0 l0) (J0 h1 l1) (Q9 l0 l1 h0 h1) e0 e1 e2 e3 e4 e5 e6 e7 r).fin (bs0 (Q9 l0 l1 h0 h1))) (Q9 l0 l1 h0 h1) 2)
def JD2:Int:=
 JI l1 (X8 (J0 h1 l1) ((stF l0 l1 (J0 h0 l0) (J0 h1 l1) (Q9 l0 l1 h0 h1) e0 e1 e2 e3 e4 e5 e6 e7 r).fin (bs0 (Q9 l0 l1 h0 h1))) (Q9 l0 l1 h0 h1) 2)
def JDu:Prop:=
 -9223372036854775808 ≤ J0 h0 l0 ∧ J0 h0 l0 < 9223372036854775808
def JIT:Prop:=
 -9223372036854775808 ≤ Q9 l0 l1 h0 h1 ∧ Q9 l0 l1 h0 h1 < 9223372036854775808
def YW:Int:=
 (stF l0 l1 (J0 h0 l0) (J0 h1 l1) (Q9 l0 l1 h0 h1) e0 e1 e2 e3 e4 e5 e6 e7 r).fin (bs0 (Q9 l0 l1 h0 h1))
def Wp:List Prop:=
 [0 ≤ (bs0 (Q9 l0 l1 h0 h1)).fst ∧ (bs0 (Q9 l0 l1 h0 h1)).fst ≤ (bs0 (Q9 l0 l1 h0 h1)).snd ∧ (bs0 (Q9 l0 l1 h0 h1)).snd ≤ 1000000000000 ∧ JDu l0 h0 ∧ JDu l1 h1 ∧ JIT l0 l1 h0 h1,(bs0 (Q9 l0 l1 h0 h1)).snd = Q9 l0 l1 h0 h1,(bs0 (Q9 l0 l1 h0 h1)).fst = 0,JDu l0 h0,-9223372036854775808 ≤ YW l0 l1 h0 h1 e0 e1 e2 e3 e4 e5 e6 e7 r ∧ YW l0 l1 h0 h1 e0 e1 e2 e3 e4 e5 e6 e7 r < 9223372036854775808,JIT l0 l1 h0 h1,JDu l1 h1,-9223372036854775808 ≤ YW l0 l1 h0 h1 e0 e1 e2 e3 e4 e5 e6 e7 r ∧ YW l0 l1 h0 h1 e0 e1 e2 e3 e4 e5 e6 e7 r < 9223372036854775808,JIT l0 l1 h0 h1]
end
theorem Jam {l0:Int} {l1:Int} {h0:Int} {h1:Int} {e0:Int} {e1:Int} {e2:Int} {e3:Int} {e4:Int} {e5:Int} {e6:Int} {e7:Bool} {r:Int} (hW:∀ q ∈ ([bd 1048576 l0,bd 1048576 l1,bd 1048576 h0,bd 1048576 h1]:List Prop),q):∀ q ∈ (Wp l0 l1 h0 h1 e0 e1 e2 e3 e4 e5 e6 e7 r),q := by
  simp only [awc,awn,and_true] at hW
  unfold Wp
  simp only [awc,awn,and_true]
  obtain ⟨b0,b1,b2,b3⟩ := hW
  have d0:J0 h0 l0 = h0 - l0 := XR (by omega) (by omega)
  have d1:J0 h1 l1 = h1 - l1 := XR (by omega) (by omega)
  have hn:0 ≤ Q9 l0 l1 h0 h1 ∧ Q9 l0 l1 h0 h1 ≤ 2097152 := by
    unfold Q9 JDa JE6
    rw [d0,d1,Zy (x := 0 - (h0 - l0)) (by omega) (by omega),Zy (x := 0 - (h1 - l1)) (by omega) (by omega)]
    repeat' split
    all_goals omega
  have hf:0 ≤ YW l0 l1 h0 h1 e0 e1 e2 e3 e4 e5 e6 e7 r ∧ YW l0 l1 h0 h1 e0 e1 e2 e3 e4 e5 e6 e7 r ≤ Q9 l0 l1 h0 h1 := JmZ _ hn.1
  have i6:XT (YW l0 l1 h0 h1 e0 e1 e2 e3 e4 e5 e6 e7 r) := ⟨by omega,by omega⟩
  have i5:XT (Q9 l0 l1 h0 h1) := ⟨by omega,by omega⟩
  have i0:XT (J0 h0 l0) := Jk _
  have i1:XT (J0 h1 l1) := Jk _
  exact ⟨⟨Int.le_refl 0,hn.1,show Q9 l0 l1 h0 h1 ≤ _ by omega,i0,i1,i5⟩,rfl,rfl,i0,i6,i5,i1,i6,i5⟩
def JSR (e0 e1 e2 e3 e4 e5 e6:Int) (e7:Bool) (r:Int):Jn :=
 [(0,Obj.clo [SV.one (SC.ptr 1 0),SV.one (SC.ptr 2 0)]),(1,Obj.blk 91 [(3,Ci e0),(4,Ci e1),(5,Ci e2),(6,Ci e3),(7,Ci e4),(8,Ci e5),(9,Ci e6),(10,Cb e7)]),(2,Obj.blk 3 [(11,Ci r)])]
theorem JaZ (l0 l1 h0 h1 e0 e1 e2 e3 e4 e5 e6:Int) (e7:Bool) (r:Int) (hNeeds:∀ pN ∈ (Wp l0 l1 h0 h1 e0 e1 e2 e3 e4 e5 e6 e7 r),pN):Runs (Jr (JB JKS) JpM 135) (Wk.args [.i l0,.i l1,.i h0,.i h1,.i e0,.i e1,.i e2,.i e3,.i e4,.i e5,.i e6,.b e7,.i r]) (Wk.memo [.i l0,.i l1,.i h0,.i h1,.i e0,.i e1,.i e2,.i e3,.i e4,.i e5,.i e6,.b e7,.i r] []) Wk.n (SV.agg [Ci (JCP l0 l1 h0 h1 e0 e1 e2 e3 e4 e5 e6 e7 r),Ci (JD2 l0 l1 h0 h1 e0 e1 e2 e3 e4 e5 e6 e7 r)]) (JSR e0 e1 e2 e3 e4 e5 e6 e7 r) :=
  Runs.of1 (ps := (Wp l0 l1 h0 h1 e0 e1 e2 e3 e4 e5 e6 e7 r)) (by kernel_rfl) hNeeds
def JHB:List Pm → Qm → Option CRes
  | [.i l0,.i l1,.i h0,.i h1,.i e0,.i e1,.i e2,.i e3,.i e4,.i e5,.i e6,.b e7,.i r],[] => some ⟨SV.agg [Ci (JCP l0 l1 h0 h1 e0 e1 e2 e3 e4 e5 e6 e7 r),Ci (JD2 l0 l1 h0 h1 e0 e1 e2 e3 e4 e5 e6 e7 r)],
 JSR e0 e1 e2 e3 e4 e5 e6 e7 r,[bd 1048576 l0,bd 1048576 l1,bd 1048576 h0,bd 1048576 h1],[],1229⟩
  | _,_ => none
theorem JfQ:Qg Tryz.prog 135 (JS Wk JHB) := by
  refine JH (JD JcB 135) fun ps ls r hr hn _ => ?_
  unfold JHB at hr
  split at hr
  · cases hr; exact ⟨_,JaZ _ _ _ _ _ _ _ _ _ _ _ _ _ (Jam (by exact hn)),fun _ => rfl⟩
  · cases hr
def jb:List (Nat × JY) := (135,JS Wk JHB) :: JKS
theorem JIR:Known Tryz.prog (JB jb) JpM := J7 JcB JfQ
structure CvS where
  i:Nat
  a0:Int
  a1:Int
  b0:Int
  b1:Int
section
variable (P:Int → Int → Bool) (a0 a1 b0 b1 d z:Int) (full:Bool) (s:CvS)
def JMM:Bool:= Jc (IntKind.i64.wrap (s.b0 - s.a0)) 1 && Jc (IntKind.i64.wrap (s.b1 - s.a1)) 1
def oH0:Int:= Xg (QL a0 a1 b0 b1 d) z (J8 (QL a0 a1 b0 b1 d) (QM a0 a1 b0 b1 d) (QL a0 a1 b0 b1 d) (QM a0 a1 b0 b1 d)) 2
def oH1:Int:= Xg (QM a0 a1 b0 b1 d) z (J8 (QL a0 a1 b0 b1 d) (QM a0 a1 b0 b1 d) (QL a0 a1 b0 b1 d) (QM a0 a1 b0 b1 d)) 2
def JTt:Int:= bif !full || decide (Int.ofNat s.i > 0) then oH0 s.a0 s.a1 s.b0 s.b1 d z else IntKind.i64.wrap (0 - s.a0)
def JTv:Int:= bif !full || decide (Int.ofNat s.i > 0) then oH1 s.a0 s.a1 s.b0 s.b1 d z else IntKind.i64.wrap (0 - s.a1)
def cvN:CvS:=
  ⟨s.i + 1,bif P (JTt d z full s) (JTv d z full s) then s.a0 else JTt d z full s,bif P (JTt d z full s) (JTv d z full s) then s.a1 else JTv d z full s,
    bif P (JTt d z full s) (JTv d z full s) then JTt d z full s else s.b0,bif P (JTt d z full s) (JTv d z full s) then JTv d z full s else s.b1⟩
end
def cv (P:Int → Int → Bool) (d z:Int) (full:Bool):Nat → CvS → Int × Int
  | 0,s => (s.b0,s.b1)
  | f + 1,s => bif (!full || decide (Int.ofNat s.i > 0)) && JMM s then (s.b0,s.b1) else cv P d z full f (cvN P d z full s)
def cv0 (a0 a1 b0 b1:Int):CvS := ⟨0,a0,a1,b0,b1⟩
def JpI (id t u:Nat) (x y:Int):Nat × SX.Obj := (id,.blk 54 [(t,I x),(u,I y)])
def crP (f4 f5 e0 e1 e2 e3 e4 e5 e6 r u w:Int):Bool := ZW e0 e1 e2 e3 e4 e5 e6 (JI f4 u) (JI f5 w) r
def crM (f0 f1 f2 f3 f4 f5 f6:Int) (f7:Bool) (e0 e1 e2 e3 e4 e5 e6:Int) (e7:Bool) (r:Int):Jn :=
  [Jtx 30 31,Jp4 12 13 f0 f1 f2 f3 f4 f5 f6 f7,(0,.clo [.one (.ptr 1 0),.one (.ptr 2 0)]),Jp4 1 3 e0 e1 e2 e3 e4 e5 e6 e7,(2,.blk 3 [(11,I r)])]
def crF (z:Int) (f0 f1 f2 f3 f4 f5 f6:Int) (f7:Bool) (e0 e1 e2 e3 e4 e5 e6:Int) (e7:Bool) (r:Int):Fam CvS (Int × Int) where
  k := 60
  E s := [(44,ent 1000000000 (.one (I (Int.ofNat s.i)))),(15,ent 377 (.one (.ptr 374 0))),(14,ent 373 (.one (.ptr 370 0))),(12,ent 309 (.one (I z))),(10,ent 33 (.one (.ptr 30 0))),(5,ent 21 (.one (.ptr 12 0))),(4,ent 8 (.one (.clo 133 0)))]
  M s := JpI 374 1000000001 1000000002 s.b0 s.b1 :: JpI 370 1000000003 1000000004 s.a0 s.a1 :: crM f0 f1 f2 f3 f4 f5 f6 f7 e0 e1 e2 e3 e4 e5 e6 e7 r
  out t := .leaf (.exit 0) [(15,ent 377 (.one (.ptr 374 0))),(10,ent 33 (.one (.ptr 30 0))),(5,ent 21 (.one (.ptr 12 0)))] (JpI 374 386 387 t.1 t.2 :: crM f0 f1 f2 f3 f4 f5 f6 f7 e0 e1 e2 e3 e4 e5 e6 e7 r)
  fin s := cv (crP f4 f5 e0 e1 e2 e3 e4 e5 e6 r) f6 z f7 (24 - s.i) s
  next s _ := cvN (crP f4 f5 e0 e1 e2 e3 e4 e5 e6 r) f6 z f7 s
  J s := s.i ≤ 24 ∧ XT z
  μ s := 24 - s.i
section
variable (z f0 f1 f2 f3 f4 f5 f6:Int) (f7:Bool) (e0 e1 e2 e3 e4 e5 e6:Int) (e7:Bool) (r:Int) (s:CvS)
def Juk:Prop:=
 decide (Int.ofNat s.i < 24) = true
def JuP:Prop:=
 (!f7 || decide (Int.ofNat s.i > 0)) = true
def Juq:Prop:=
 (Jc (IntKind.i64.wrap (s.b0 - s.a0)) 1 && Jc (IntKind.i64.wrap (s.b1 - s.a1)) 1) = false
def Jrx:Prop:=
 -9223372036854775808 ≤ z ∧ z < 9223372036854775808
def Jmq:Prop:=
 ((crF z f0 f1 f2 f3 f4 f5 f6 f7 e0 e1 e2 e3 e4 e5 e6 e7 r).fin s).fst = s.b0 ∧ ((crF z f0 f1 f2 f3 f4 f5 f6 f7 e0 e1 e2 e3 e4 e5 e6 e7 r).fin s).snd = s.b1
def JuV:Int:=
 J8 (QL s.a0 s.a1 s.b0 s.b1 f6) (QM s.a0 s.a1 s.b0 s.b1 f6) (QL s.a0 s.a1 s.b0 s.b1 f6) (QM s.a0 s.a1 s.b0 s.b1 f6)
def JXD:Int:=
 Xg (QL s.a0 s.a1 s.b0 s.b1 f6) z (JuV f6 s) 2
def JZR:Int:=
 Xg (QM s.a0 s.a1 s.b0 s.b1 f6) z (JuV f6 s) 2
def JUw:List Prop:=
 [Juk s → JuP f7 s → Juq s → Jrx z,Juk s → (JuP f7 s → ((Jc (IntKind.i64.wrap (s.b0 - s.a0)) 1 && Jc (IntKind.i64.wrap (s.b1 - s.a1)) 1) = true → Jmq z f0 f1 f2 f3 f4 f5 f6 f7 e0 e1 e2 e3 e4 e5 e6 e7 r s) ∧ (Juq s → (((crF z f0 f1 f2 f3 f4 f5 f6 f7 e0 e1 e2 e3 e4 e5 e6 e7 r).next s 1).i ≤ 24 ∧ Jrx z) ∧ (crF z f0 f1 f2 f3 f4 f5 f6 f7 e0 e1 e2 e3 e4 e5 e6 e7 r).μ ((crF z f0 f1 f2 f3 f4 f5 f6 f7 e0 e1 e2 e3 e4 e5 e6 e7 r).next s 1) < (crF z f0 f1 f2 f3 f4 f5 f6 f7 e0 e1 e2 e3 e4 e5 e6 e7 r).μ s ∧ (crF z f0 f1 f2 f3 f4 f5 f6 f7 e0 e1 e2 e3 e4 e5 e6 e7 r).fin ((crF z f0 f1 f2 f3 f4 f5 f6 f7 e0 e1 e2 e3 e4 e5 e6 e7 r).next s 1) = (crF z f0 f1 f2 f3 f4 f5 f6 f7 e0 e1 e2 e3 e4 e5 e6 e7 r).fin s ∧ Int.ofNat ((crF z f0 f1 f2 f3 f4 f5 f6 f7 e0 e1 e2 e3 e4 e5 e6 e7 r).next s 1).i = IntKind.i64.wrap (Int.ofNat s.i + 1) ∧ (((crF z f0 f1 f2 f3 f4 f5 f6 f7 e0 e1 e2 e3 e4 e5 e6 e7 r).next s 1).b0 = bif ZW e0 e1 e2 e3 e4 e5 e6 (JI f4 (JXD z f6 s)) (JI f5 (JZR z f6 s)) r then JXD z f6 s else s.b0) ∧ (((crF z f0 f1 f2 f3 f4 f5 f6 f7 e0 e1 e2 e3 e4 e5 e6 e7 r).next s 1).b1 = bif ZW e0 e1 e2 e3 e4 e5 e6 (JI f4 (JXD z f6 s)) (JI f5 (JZR z f6 s)) r then JZR z f6 s else s.b1) ∧ (((crF z f0 f1 f2 f3 f4 f5 f6 f7 e0 e1 e2 e3 e4 e5 e6 e7 r).next s 1).a0 = bif ZW e0 e1 e2 e3 e4 e5 e6 (JI f4 (JXD z f6 s)) (JI f5 (JZR z f6 s)) r then s.a0 else JXD z f6 s) ∧ ((crF z f0 f1 f2 f3 f4 f5 f6 f7 e0 e1 e2 e3 e4 e5 e6 e7 r).next s 1).a1 = bif ZW e0 e1 e2 e3 e4 e5 e6 (JI f4 (JXD z f6 s)) (JI f5 (JZR z f6 s)) r then s.a1 else JZR z f6 s)) ∧ ((!f7 || decide (Int.ofNat s.i > 0)) = false → (((crF z f0 f1 f2 f3 f4 f5 f6 f7 e0 e1 e2 e3 e4 e5 e6 e7 r).next s 2).i ≤ 24 ∧ Jrx z) ∧ (crF z f0 f1 f2 f3 f4 f5 f6 f7 e0 e1 e2 e3 e4 e5 e6 e7 r).μ ((crF z f0 f1 f2 f3 f4 f5 f6 f7 e0 e1 e2 e3 e4 e5 e6 e7 r).next s 2) < (crF z f0 f1 f2 f3 f4 f5 f6 f7 e0 e1 e2 e3 e4 e5 e6 e7 r).μ s ∧ (crF z f0 f1 f2 f3 f4 f5 f6 f7 e0 e1 e2 e3 e4 e5 e6 e7 r).fin ((crF z f0 f1 f2 f3 f4 f5 f6 f7 e0 e1 e2 e3 e4 e5 e6 e7 r).next s 2) = (crF z f0 f1 f2 f3 f4 f5 f6 f7 e0 e1 e2 e3 e4 e5 e6 e7 r).fin s ∧ Int.ofNat ((crF z f0 f1 f2 f3 f4 f5 f6 f7 e0 e1 e2 e3 e4 e5 e6 e7 r).next s 2).i = IntKind.i64.wrap (Int.ofNat s.i + 1) ∧ (((crF z f0 f1 f2 f3 f4 f5 f6 f7 e0 e1 e2 e3 e4 e5 e6 e7 r).next s 2).b0 = bif ZW e0 e1 e2 e3 e4 e5 e6 (JI f4 (IntKind.i64.wrap (0 - s.a0))) (JI f5 (IntKind.i64.wrap (0 - s.a1))) r then IntKind.i64.wrap (0 - s.a0) else s.b0) ∧ (((crF z f0 f1 f2 f3 f4 f5 f6 f7 e0 e1 e2 e3 e4 e5 e6 e7 r).next s 2).b1 = bif ZW e0 e1 e2 e3 e4 e5 e6 (JI f4 (IntKind.i64.wrap (0 - s.a0))) (JI f5 (IntKind.i64.wrap (0 - s.a1))) r then IntKind.i64.wrap (0 - s.a1) else s.b1) ∧ (((crF z f0 f1 f2 f3 f4 f5 f6 f7 e0 e1 e2 e3 e4 e5 e6 e7 r).next s 2).a0 = bif ZW e0 e1 e2 e3 e4 e5 e6 (JI f4 (IntKind.i64.wrap (0 - s.a0))) (JI f5 (IntKind.i64.wrap (0 - s.a1))) r then s.a0 else IntKind.i64.wrap (0 - s.a0)) ∧ ((crF z f0 f1 f2 f3 f4 f5 f6 f7 e0 e1 e2 e3 e4 e5 e6 e7 r).next s 2).a1 = bif ZW e0 e1 e2 e3 e4 e5 e6 (JI f4 (IntKind.i64.wrap (0 - s.a0))) (JI f5 (IntKind.i64.wrap (0 - s.a1))) r then s.a1 else IntKind.i64.wrap (0 - s.a1)),decide (Int.ofNat s.i < 24) = false → Jmq z f0 f1 f2 f3 f4 f5 f6 f7 e0 e1 e2 e3 e4 e5 e6 e7 r s]
end
theorem Jry (z f0 f1 f2 f3 f4 f5 f6:Int) (f7:Bool) (e0 e1 e2 e3 e4 e5 e6:Int) (e7:Bool) (r:Int) (s:CvS) (hNeeds:∀ pN ∈ (JUw z f0 f1 f2 f3 f4 f5 f6 f7 e0 e1 e2 e3 e4 e5 e6 e7 r s),pN):Q4 (Xh (crF z f0 f1 f2 f3 f4 f5 f6 f7 e0 e1 e2 e3 e4 e5 e6 e7 r) (QW Tryz.prog (JB jb) JpM 136 0) 385 s) :=
  Q4.of (ps := (JUw z f0 f1 f2 f3 f4 f5 f6 f7 e0 e1 e2 e3 e4 e5 e6 e7 r s)) (by kernel_rfl) (by kernel_rfl) hNeeds
theorem Ju8 (P:Int → Int → Bool) (d z:Int) (full:Bool) (s:CvS) (h:s.i < 24):cv P d z full (24 - s.i) s = bif (!full || decide (Int.ofNat s.i > 0)) && JMM s then (s.b0,s.b1) else cv P d z full (24 - (s.i + 1)) (cvN P d z full s) := by
  have e:24 - s.i = (24 - (s.i + 1)) + 1 := by omega
  rw [e]; rfl
theorem JoH (z f0 f1 f2 f3 f4 f5 f6:Int) (f7:Bool) (e0 e1 e2 e3 e4 e5 e6:Int) (e7:Bool) (r:Int):Z1 (crF z f0 f1 f2 f3 f4 f5 f6 f7 e0 e1 e2 e3 e4 e5 e6 e7 r) (QW Tryz.prog (JB jb) JpM 136 0) 385 := by
  intro s hJ
  obtain ⟨hi,hz⟩:s.i ≤ 24 ∧ XT z := hJ
  refine Jry z f0 f1 f2 f3 f4 f5 f6 f7 e0 e1 e2 e3 e4 e5 e6 e7 r s ?_
  unfold JUw
  intro p hp
  simp only [List.mem_cons,List.not_mem_nil,or_false] at hp
  have hw:IntKind.i64.wrap (Int.ofNat s.i + 1) = Int.ofNat (s.i + 1) := by
    rw [Zy (by simp; omega) (by simp; omega)]; rfl
  rcases hp with rfl | rfl | rfl
  · exact fun _ _ _ => hz
  · intro h0
    have hi':s.i < 24 := by
      have h0:decide (Int.ofNat s.i < 24) = true := h0
      simp at h0; omega
    have E1 := Ju8 (crP f4 f5 e0 e1 e2 e3 e4 e5 e6 r) f6 z f7 s hi'
    refine ⟨fun g1 => ⟨fun g2 => ?_,fun g2 => ?_⟩,fun g1 => ?_⟩
    · have g1:(!f7 || decide (Int.ofNat s.i > 0)) = true := g1
      have g2:JMM s = true := g2
      rw [g1,g2] at E1
      have e2:(crF z f0 f1 f2 f3 f4 f5 f6 f7 e0 e1 e2 e3 e4 e5 e6 e7 r).fin s = (s.b0,s.b1) := E1
      unfold Jmq
      rw [e2]
      exact ⟨rfl,rfl⟩
    · have g1:(!f7 || decide (Int.ofNat s.i > 0)) = true := g1
      have g2:JMM s = false := g2
      rw [g1,g2] at E1
      have m0:JTt f6 z f7 s = JXD z f6 s := by unfold JTt; rw [g1]; rfl
      have m1:JTv f6 z f7 s = JZR z f6 s := by unfold JTv; rw [g1]; rfl
      refine ⟨⟨by show s.i + 1 ≤ 24; omega,hz⟩,?_,E1.symm,hw.symm,?_,?_,?_,?_⟩
      · show 24 - (s.i + 1) < 24 - s.i; omega
      all_goals (rw [← m0,← m1]; rfl)
    · have m0:JTt f6 z f7 s = IntKind.i64.wrap (0 - s.a0) := by unfold JTt; rw [g1]; rfl
      have m1:JTv f6 z f7 s = IntKind.i64.wrap (0 - s.a1) := by unfold JTv; rw [g1]; rfl
      rw [g1] at E1
      refine ⟨⟨by show s.i + 1 ≤ 24; omega,hz⟩,?_,E1.symm,hw.symm,?_,?_,?_,?_⟩
      · show 24 - (s.i + 1) < 24 - s.i; omega
      all_goals (rw [← m0,← m1]; rfl)
  · intro h
    have hi':24 - s.i = 0 := by
      simp at h; omega
    have e2:(crF z f0 f1 f2 f3 f4 f5 f6 f7 e0 e1 e2 e3 e4 e5 e6 e7 r).fin s = (s.b0,s.b1) := by
      show cv _ _ _ _ (24 - s.i) s = _
      rw [hi']; rfl
    unfold Jmq
    rw [e2]
    exact ⟨rfl,rfl⟩
def crL:QG := fun env mem m => match Wb env 12,JHg mem 374,JHg mem 370,JbI mem 12,JbI mem 1,JHg mem 2 with
  | some z,some [b0,b1],some [a0,a1],some ([f0,f1,f2,f3,f4,f5,f6],f7),some ([e0,e1,e2,e3,e4,e5,e6],e7),some [r] => zD (crF z f0 f1 f2 f3 f4 f5 f6 f7 e0 e1 e2 e3 e4 e5 e6 e7 r) 385 (fun _ _ => some (cv0 a0 a1 b0 b1)) env mem m
  | _,_,_,_,_,_ => none
def zi:FuncId → Nat → Option QG := JB6 JpM 136 6 crL
theorem Jbm:Known Tryz.prog (JB jb) zi := by
  refine Qf 0 JIR (by kernel_rfl) (Qs fun env mem m x h => ?_)
  unfold crL at h
  have hlen:(QU Tryz.prog 136).length = 1 := by kernel_rfl
  split at h
  · exact ⟨_,XW (Qc X5 JIR (by omega)) (JoH _ _ _ _ _ _ _ _ _ _ _ _ _ _ _ _ _ _),h⟩
  · cases h
def JCB:Tpl := ⟨[.agg [.int .i64,.int .i64,.int .i64,.int .i64,.int .i64,.int .i64,.int .i64,.bool],.agg [.int .i64,.int .i64],.agg [.int .i64,.int .i64],.one (.int .i64),.one (.clo 133 0)],[(0,.clo [.one (.ptr 1 0),.one (.ptr 2 0)]),(1,.blk 91 [(3,.int .i64),(4,.int .i64),(5,.int .i64),(6,.int .i64),(7,.int .i64),(8,.int .i64),(9,.int .i64),(10,.bool)]),(2,.blk 3 [(11,.int .i64)])],12⟩
section
variable (f0 f1 f2 f3 f4 f5 f6:Int) (f7:Bool) (l0 l1 h0 h1 rr e0 e1 e2 e3 e4 e5 e6:Int) (e7:Bool) (r:Int)
def JIg:Int:=
 JI f4 ((crF (IntKind.i64.wrap (JE5 (J8 (J0 f0 f4) (J0 f1 f5) (J0 f0 f4) (J0 f1 f5)) 2 - IntKind.i64.wrap (f6 * rr))) f0 f1 f2 f3 f4 f5 f6 f7 e0 e1 e2 e3 e4 e5 e6 e7 r).fin (cv0 (J0 l0 f4) (J0 l1 f5) (J0 h0 f4) (J0 h1 f5))).fst
def JJV:Int:=
 JI f5 ((crF (IntKind.i64.wrap (JE5 (J8 (J0 f0 f4) (J0 f1 f5) (J0 f0 f4) (J0 f1 f5)) 2 - IntKind.i64.wrap (f6 * rr))) f0 f1 f2 f3 f4 f5 f6 f7 e0 e1 e2 e3 e4 e5 e6 e7 r).fin (cv0 (J0 l0 f4) (J0 l1 f5) (J0 h0 f4) (J0 h1 f5))).snd
def Jat:Int:=
 IntKind.i64.wrap (JE5 (J8 (J0 f0 f4) (J0 f1 f5) (J0 f0 f4) (J0 f1 f5)) 2 - IntKind.i64.wrap (f6 * rr))
def JBA:List Prop:=
 [-9223372036854775808 ≤ J8 (J0 f0 f4) (J0 f1 f5) (J0 f0 f4) (J0 f1 f5) ∧ J8 (J0 f0 f4) (J0 f1 f5) (J0 f0 f4) (J0 f1 f5) < 9223372036854775808,(cv0 (J0 l0 f4) (J0 l1 f5) (J0 h0 f4) (J0 h1 f5)).i ≤ 24 ∧ -9223372036854775808 ≤ Jat f0 f1 f4 f5 f6 rr ∧ Jat f0 f1 f4 f5 f6 rr < 9223372036854775808,Int.ofNat (cv0 (J0 l0 f4) (J0 l1 f5) (J0 h0 f4) (J0 h1 f5)).i = 0,(cv0 (J0 l0 f4) (J0 l1 f5) (J0 h0 f4) (J0 h1 f5)).b0 = J0 h0 f4,(cv0 (J0 l0 f4) (J0 l1 f5) (J0 h0 f4) (J0 h1 f5)).b1 = J0 h1 f5,(cv0 (J0 l0 f4) (J0 l1 f5) (J0 h0 f4) (J0 h1 f5)).a0 = J0 l0 f4,(cv0 (J0 l0 f4) (J0 l1 f5) (J0 h0 f4) (J0 h1 f5)).a1 = J0 l1 f5]
end
theorem Jg0 {f0:Int} {f1:Int} {f4:Int} {f5:Int} {f6:Int} {l0:Int} {l1:Int} {h0:Int} {h1:Int} {rr:Int}:∀ q ∈ (JBA f0 f1 f4 f5 f6 l0 l1 h0 h1 rr),q := by
  unfold JBA
  simp only [awc,awn,and_true]
  exact ⟨Jk _,⟨Nat.zero_le _,Jk _⟩,rfl,rfl,rfl,rfl,rfl⟩
def JbO (e0 e1 e2 e3 e4 e5 e6:Int) (e7:Bool) (r:Int):Jn :=
 [(0,Obj.clo [SV.one (SC.ptr 1 0),SV.one (SC.ptr 2 0)]),(1,Obj.blk 91 [(3,Ci e0),(4,Ci e1),(5,Ci e2),(6,Ci e3),(7,Ci e4),(8,Ci e5),(9,Ci e6),(10,Cb e7)]),(2,Obj.blk 3 [(11,Ci r)])]
theorem JgK (f0 f1 f2 f3 f4 f5 f6:Int) (f7:Bool) (l0 l1 h0 h1 rr e0 e1 e2 e3 e4 e5 e6:Int) (e7:Bool) (r:Int) (hNeeds:∀ pN ∈ (JBA f0 f1 f4 f5 f6 l0 l1 h0 h1 rr),pN):Runs (Jr (JB jb) zi 136) (JCB.args [.i f0,.i f1,.i f2,.i f3,.i f4,.i f5,.i f6,.b f7,.i l0,.i l1,.i h0,.i h1,.i rr,.i e0,.i e1,.i e2,.i e3,.i e4,.i e5,.i e6,.b e7,.i r]) (JCB.memo [.i f0,.i f1,.i f2,.i f3,.i f4,.i f5,.i f6,.b f7,.i l0,.i l1,.i h0,.i h1,.i rr,.i e0,.i e1,.i e2,.i e3,.i e4,.i e5,.i e6,.b e7,.i r] []) JCB.n (SV.agg [Ci (JIg f0 f1 f2 f3 f4 f5 f6 f7 l0 l1 h0 h1 rr e0 e1 e2 e3 e4 e5 e6 e7 r),Ci (JJV f0 f1 f2 f3 f4 f5 f6 f7 l0 l1 h0 h1 rr e0 e1 e2 e3 e4 e5 e6 e7 r)]) (JbO e0 e1 e2 e3 e4 e5 e6 e7 r) :=
  Runs.of1 (ps := (JBA f0 f1 f4 f5 f6 l0 l1 h0 h1 rr)) (by kernel_rfl) hNeeds
def JLu:List Pm → Qm → Option CRes
  | [.i f0,.i f1,.i f2,.i f3,.i f4,.i f5,.i f6,.b f7,.i l0,.i l1,.i h0,.i h1,.i rr,.i e0,.i e1,.i e2,.i e3,.i e4,.i e5,.i e6,.b e7,.i r],[] => some ⟨SV.agg [Ci (JIg f0 f1 f2 f3 f4 f5 f6 f7 l0 l1 h0 h1 rr e0 e1 e2 e3 e4 e5 e6 e7 r),Ci (JJV f0 f1 f2 f3 f4 f5 f6 f7 l0 l1 h0 h1 rr e0 e1 e2 e3 e4 e5 e6 e7 r)],
 JbO e0 e1 e2 e3 e4 e5 e6 e7 r,[],[],478⟩
  | _,_ => none
theorem Joi:Qg Tryz.prog 136 (JS JCB JLu) := by
  refine JH (JD Jbm 136) fun ps ls r hr hn _ => ?_
  unfold JLu at hr
  split at hr
  · cases hr; exact ⟨_,JgK _ _ _ _ _ _ _ _ _ _ _ _ _ _ _ _ _ _ _ _ _ _ (fun p hp => Jg0 p hp),fun _ => rfl⟩
  · cases hr
def JVx:List (Nat × JY) := (136,JS JCB JLu) :: jb
theorem JMy:Known Tryz.prog (JB JVx) zi := J7 Jbm Joi
theorem JUO (A B C D X:Int) (hX:X = A ∨ X = B ∨ X = C ∨ X = D):bd 1048576 (bif !Jc A 1048576 then 0 else bif !Jc B 1048576 then 0 else bif !Jc C 1048576 then 0 else bif !Jc D 1048576 then 0 else X) := by
  have z:bd 1048576 0 := by decide
  cases hA:Jc A 1048576
  · exact z
  cases hB:Jc B 1048576
  · exact z
  cases hC:Jc C 1048576
  · exact z
  cases hD:Jc D 1048576
  · exact z
  have q:∀ {x},Jc x 1048576 = true → bd 1048576 x := fun h => (Wm (by omega) (by omega)).1 h
  rcases hX with rfl | rfl | rfl | rfl
  · exact q hA
  · exact q hB
  · exact q hC
  · exact q hD
theorem JFk (e0 e1 e2 e3 e4 e5 e6 r:Int):bd 1048576 (XM e0 e1 e2 e3 e4 e5 e6 r) ∧ bd 1048576 (XJ e0 e1 e2 e3 e4 e5 e6 r) ∧ bd 1048576 (Xc e0 e1 e2 e3 e4 e5 e6 r) ∧ bd 1048576 (Xd e0 e1 e2 e3 e4 e5 e6 r) := by
  have z:bd 1048576 0 := by decide
  have key:∀ (p q s:Bool) (x:Int),bd 1048576 x → bd 1048576 (bif p then bif q then 0 else bif s then 0 else x else x) := fun p q s x h => by
    cases p <;> cases q <;> cases s <;> first | exact h | exact z
  refine ⟨key _ _ _ _ ?_,key _ _ _ _ ?_,key _ _ _ _ ?_,key _ _ _ _ ?_⟩
  · exact JUO _ _ _ _ _ (.inl rfl)
  · exact JUO _ _ _ _ _ (.inr (.inl rfl))
  · exact JUO _ _ _ _ _ (.inr (.inr (.inl rfl)))
  · exact JUO _ _ _ _ _ (.inr (.inr (.inr rfl)))
def JI2:Tpl := ⟨[.agg [.int .i64,.int .i64,.int .i64,.int .i64,.int .i64,.int .i64,.int .i64,.bool],.agg [.int .i64,.int .i64,.int .i64,.int .i64,.int .i64,.int .i64,.int .i64,.bool],.one (.int .i64)],[],0⟩
section
variable (e0 e1 e2 e3 e4 e5 e6:Int) (e7:Bool) (f0 f1 f2 f3 f4 f5 f6:Int) (f7:Bool) (r:Int)
def JAv:Int:=
 bif f6 == 0 then JCP (XM f0 f1 f2 f3 f4 f5 f6 r) (XJ f0 f1 f2 f3 f4 f5 f6 r) (Xc f0 f1 f2 f3 f4 f5 f6 r) (Xd f0 f1 f2 f3 f4 f5 f6 r) e0 e1 e2 e3 e4 e5 e6 e7 r else JIg f0 f1 f2 f3 f4 f5 f6 f7 (XM f0 f1 f2 f3 f4 f5 f6 r) (XJ f0 f1 f2 f3 f4 f5 f6 r) (Xc f0 f1 f2 f3 f4 f5 f6 r) (Xd f0 f1 f2 f3 f4 f5 f6 r) r e0 e1 e2 e3 e4 e5 e6 e7 r
def JBo:Int:=
 bif f6 == 0 then JD2 (XM f0 f1 f2 f3 f4 f5 f6 r) (XJ f0 f1 f2 f3 f4 f5 f6 r) (Xc f0 f1 f2 f3 f4 f5 f6 r) (Xd f0 f1 f2 f3 f4 f5 f6 r) e0 e1 e2 e3 e4 e5 e6 e7 r else JJV f0 f1 f2 f3 f4 f5 f6 f7 (XM f0 f1 f2 f3 f4 f5 f6 r) (XJ f0 f1 f2 f3 f4 f5 f6 r) (Xc f0 f1 f2 f3 f4 f5 f6 r) (Xd f0 f1 f2 f3 f4 f5 f6 r) r e0 e1 e2 e3 e4 e5 e6 e7 r
def JMK:Int:=
 bif Qk e0 e1 e2 e3 e4 e5 e6 r != 0 then 0 else bif Qk f0 f1 f2 f3 f4 f5 f6 r != 0 then 0 else bif !ZW e0 e1 e2 e3 e4 e5 e6 (Xc f0 f1 f2 f3 f4 f5 f6 r) (Xd f0 f1 f2 f3 f4 f5 f6 r) r then 0 else bif !Jc (JAv e0 e1 e2 e3 e4 e5 e6 e7 f0 f1 f2 f3 f4 f5 f6 f7 r) 1048576 || !Jc (JBo e0 e1 e2 e3 e4 e5 e6 e7 f0 f1 f2 f3 f4 f5 f6 f7 r) 1048576 then 0 else bif !JHW e0 e1 e2 e3 e4 e5 e6 e7 (JAv e0 e1 e2 e3 e4 e5 e6 e7 f0 f1 f2 f3 f4 f5 f6 f7 r) (JBo e0 e1 e2 e3 e4 e5 e6 e7 f0 f1 f2 f3 f4 f5 f6 f7 r) (XM e0 e1 e2 e3 e4 e5 e6 r) (XJ e0 e1 e2 e3 e4 e5 e6 r) then 0 else JAv e0 e1 e2 e3 e4 e5 e6 e7 f0 f1 f2 f3 f4 f5 f6 f7 r
def JMe:Int:=
 bif Qk e0 e1 e2 e3 e4 e5 e6 r != 0 then 0 else bif Qk f0 f1 f2 f3 f4 f5 f6 r != 0 then 0 else bif !ZW e0 e1 e2 e3 e4 e5 e6 (Xc f0 f1 f2 f3 f4 f5 f6 r) (Xd f0 f1 f2 f3 f4 f5 f6 r) r then 0 else bif !Jc (JAv e0 e1 e2 e3 e4 e5 e6 e7 f0 f1 f2 f3 f4 f5 f6 f7 r) 1048576 || !Jc (JBo e0 e1 e2 e3 e4 e5 e6 e7 f0 f1 f2 f3 f4 f5 f6 f7 r) 1048576 then 0 else bif !JHW e0 e1 e2 e3 e4 e5 e6 e7 (JAv e0 e1 e2 e3 e4 e5 e6 e7 f0 f1 f2 f3 f4 f5 f6 f7 r) (JBo e0 e1 e2 e3 e4 e5 e6 e7 f0 f1 f2 f3 f4 f5 f6 f7 r) (XM e0 e1 e2 e3 e4 e5 e6 r) (XJ e0 e1 e2 e3 e4 e5 e6 r) then 0 else JBo e0 e1 e2 e3 e4 e5 e6 e7 f0 f1 f2 f3 f4 f5 f6 f7 r
def JQS:Int:=
 bif Qk e0 e1 e2 e3 e4 e5 e6 r != 0 then Qk e0 e1 e2 e3 e4 e5 e6 r else bif Qk f0 f1 f2 f3 f4 f5 f6 r != 0 then Qk f0 f1 f2 f3 f4 f5 f6 r else bif !ZW e0 e1 e2 e3 e4 e5 e6 (Xc f0 f1 f2 f3 f4 f5 f6 r) (Xd f0 f1 f2 f3 f4 f5 f6 r) r then 16 else bif !Jc (JAv e0 e1 e2 e3 e4 e5 e6 e7 f0 f1 f2 f3 f4 f5 f6 f7 r) 1048576 || !Jc (JBo e0 e1 e2 e3 e4 e5 e6 e7 f0 f1 f2 f3 f4 f5 f6 f7 r) 1048576 then 3 else bif !JHW e0 e1 e2 e3 e4 e5 e6 e7 (JAv e0 e1 e2 e3 e4 e5 e6 e7 f0 f1 f2 f3 f4 f5 f6 f7 r) (JBo e0 e1 e2 e3 e4 e5 e6 e7 f0 f1 f2 f3 f4 f5 f6 f7 r) (XM e0 e1 e2 e3 e4 e5 e6 r) (XJ e0 e1 e2 e3 e4 e5 e6 r) then 16 else 0
def JHc:List Prop:=
 [(Qk e0 e1 e2 e3 e4 e5 e6 r != 0) = false → (Qk f0 f1 f2 f3 f4 f5 f6 r != 0) = false → (!ZW e0 e1 e2 e3 e4 e5 e6 (Xc f0 f1 f2 f3 f4 f5 f6 r) (Xd f0 f1 f2 f3 f4 f5 f6 r) r) = false → (f6 == 0) = true → (-1048576 ≤ XM f0 f1 f2 f3 f4 f5 f6 r ∧ XM f0 f1 f2 f3 f4 f5 f6 r ≤ 1048576) ∧ (-1048576 ≤ XJ f0 f1 f2 f3 f4 f5 f6 r ∧ XJ f0 f1 f2 f3 f4 f5 f6 r ≤ 1048576) ∧ (-1048576 ≤ Xc f0 f1 f2 f3 f4 f5 f6 r ∧ Xc f0 f1 f2 f3 f4 f5 f6 r ≤ 1048576) ∧ -1048576 ≤ Xd f0 f1 f2 f3 f4 f5 f6 r ∧ Xd f0 f1 f2 f3 f4 f5 f6 r ≤ 1048576]
end
theorem JpC {e0:Int} {e1:Int} {e2:Int} {e3:Int} {e4:Int} {e5:Int} {e6:Int} {f0:Int} {f1:Int} {f2:Int} {f3:Int} {f4:Int} {f5:Int} {f6:Int} {r:Int}:∀ q ∈ (JHc e0 e1 e2 e3 e4 e5 e6 f0 f1 f2 f3 f4 f5 f6 r),q := by
  unfold JHc
  simp only [awc,awn,and_true]
  intro _ _ _ _
  exact JFk _ _ _ _ _ _ _ _
theorem Jny (e0 e1 e2 e3 e4 e5 e6:Int) (e7:Bool) (f0 f1 f2 f3 f4 f5 f6:Int) (f7:Bool) (r:Int) (hNeeds:∀ pN ∈ (JHc e0 e1 e2 e3 e4 e5 e6 f0 f1 f2 f3 f4 f5 f6 r),pN):Runs (Jr (JB JVx) zi 108) (JI2.args [.i e0,.i e1,.i e2,.i e3,.i e4,.i e5,.i e6,.b e7,.i f0,.i f1,.i f2,.i f3,.i f4,.i f5,.i f6,.b f7,.i r]) (JI2.memo [.i e0,.i e1,.i e2,.i e3,.i e4,.i e5,.i e6,.b e7,.i f0,.i f1,.i f2,.i f3,.i f4,.i f5,.i f6,.b f7,.i r] []) JI2.n (SV.tup [(true,[Ci (JMK e0 e1 e2 e3 e4 e5 e6 e7 f0 f1 f2 f3 f4 f5 f6 f7 r),Ci (JMe e0 e1 e2 e3 e4 e5 e6 e7 f0 f1 f2 f3 f4 f5 f6 f7 r)]),(false,[Ci (JQS e0 e1 e2 e3 e4 e5 e6 e7 f0 f1 f2 f3 f4 f5 f6 f7 r)])]) ([]) :=
  Runs.of1 (ps := (JHc e0 e1 e2 e3 e4 e5 e6 f0 f1 f2 f3 f4 f5 f6 r)) (by kernel_rfl) hNeeds
def JZM:List Pm → Qm → Option CRes
  | [.i e0,.i e1,.i e2,.i e3,.i e4,.i e5,.i e6,.b e7,.i f0,.i f1,.i f2,.i f3,.i f4,.i f5,.i f6,.b f7,.i r],[] => some ⟨SV.tup [(true,[Ci (JMK e0 e1 e2 e3 e4 e5 e6 e7 f0 f1 f2 f3 f4 f5 f6 f7 r),Ci (JMe e0 e1 e2 e3 e4 e5 e6 e7 f0 f1 f2 f3 f4 f5 f6 f7 r)]),(false,[Ci (JQS e0 e1 e2 e3 e4 e5 e6 e7 f0 f1 f2 f3 f4 f5 f6 f7 r)])],
 [],[],[],25762⟩
  | _,_ => none
theorem JuA:Qg Tryz.prog 108 (JS JI2 JZM) := by
  refine JH (JD JMy 108) fun ps ls r hr hn _ => ?_
  unfold JZM at hr
  split at hr
  · cases hr; exact ⟨_,Jny _ _ _ _ _ _ _ _ _ _ _ _ _ _ _ _ _ (fun p hp => JpC p hp),fun _ => rfl⟩
  · cases hr
def JjY:List (Nat × JY) := (108,JS JI2 JZM) :: JVx
theorem JXJ:Known Tryz.prog (JB JjY) zi := J7 JMy JuA
def JC9:Tpl := ⟨[.agg pI],[],0⟩
def XZ (k f0 f1 f2 t0 t1 t2 p c0 c1 c2 d:Int) (fu:Bool):Int :=
 bif k != 3 || !Kg p || !XG f0 f1 f2 || !XG t0 t1 t2 || !XG c0 c1 c2 || d != 1 && d != -1 || J9 p f0 f1 f2 != J9 p c0 c1 c2 then 1 else bif decide (J8 (Jf f0 f1 f2 p c0 c1 c2) (Ji f0 f1 f2 p c0 c1 c2) (Jf f0 f1 f2 p c0 c1 c2) (Ji f0 f1 f2 p c0 c1 c2) < 64) || decide (J8 (Jf t0 t1 t2 p c0 c1 c2) (Ji t0 t1 t2 p c0 c1 c2) (Jf t0 t1 t2 p c0 c1 c2) (Ji t0 t1 t2 p c0 c1 c2) < 64) || !jL (J8 (Jf f0 f1 f2 p c0 c1 c2) (Ji f0 f1 f2 p c0 c1 c2) (Jf f0 f1 f2 p c0 c1 c2) (Ji f0 f1 f2 p c0 c1 c2)) (J8 (Jf t0 t1 t2 p c0 c1 c2) (Ji t0 t1 t2 p c0 c1 c2) (Jf t0 t1 t2 p c0 c1 c2) (Ji t0 t1 t2 p c0 c1 c2)) || fu && !(Jf f0 f1 f2 p c0 c1 c2 == Jf t0 t1 t2 p c0 c1 c2 && Ji f0 f1 f2 p c0 c1 c2 == Ji t0 t1 t2 p c0 c1 c2) || !fu && XF (Jf f0 f1 f2 p c0 c1 c2) (Ji f0 f1 f2 p c0 c1 c2) (Jf t0 t1 t2 p c0 c1 c2) (Ji t0 t1 t2 p c0 c1 c2) then 12 else 0
theorem JfY (k bl f0 f1 f2 t0 t1 t2 p c0 c1 c2 d:Int) (fu:Bool) (fe:Int) (pr:Bool) (si ra be n sp:Int) (on:Bool):Runs (Jr (JB JjY) zi 95) (JC9.args [.i k,.i bl,.i f0,.i f1,.i f2,.i t0,.i t1,.i t2,.i p,.i c0,.i c1,.i c2,.i d,.b fu,.i fe,.b pr,.i si,.i ra,.i be,.i n,.i sp,.b on]) (JC9.memo [.i k,.i bl,.i f0,.i f1,.i f2,.i t0,.i t1,.i t2,.i p,.i c0,.i c1,.i c2,.i d,.b fu,.i fe,.b pr,.i si,.i ra,.i be,.i n,.i sp,.b on] []) JC9.n (SV.one (Ci (XZ k f0 f1 f2 t0 t1 t2 p c0 c1 c2 d fu))) ([]) :=
  Runs.of1 (ps := []) (by kernel_rfl) (by simp)
def JM6:List Pm → Qm → Option CRes
  | [.i k,.i bl,.i f0,.i f1,.i f2,.i t0,.i t1,.i t2,.i p,.i c0,.i c1,.i c2,.i d,.b fu,.i fe,.b pr,.i si,.i ra,.i be,.i n,.i sp,.b on],[] => some ⟨SV.one (Ci (XZ k f0 f1 f2 t0 t1 t2 p c0 c1 c2 d fu)),
 [],[],[],1152⟩
  | _,_ => none
theorem JoJ:Qg Tryz.prog 95 (JS JC9 JM6) := by
  refine JH (JD JXJ 95) fun ps ls r hr hn _ => ?_
  unfold JM6 at hr
  split at hr
  · cases hr; exact ⟨_,JfY _ _ _ _ _ _ _ _ _ _ _ _ _ _ _ _ _ _ _ _ _ _,fun _ => rfl⟩
  · cases hr
def JY6:List (Nat × JY) := (95,JS JC9 JM6) :: JjY
theorem JOf:Known Tryz.prog (JB JY6) zi := J7 JXJ JoJ
def zu:Tpl := ⟨[.one (.int .i64)],[],0⟩
def J5 (k:Int):Bool :=
 decide (k ≥ 1) && decide (k ≤ 6)
theorem Jf8 (k:Int):Runs (Jr (JB JY6) zi 46) (zu.args [.i k]) (zu.memo [.i k] []) zu.n (SV.one (Cb (J5 k))) ([]) :=
  Runs.of1 (ps := []) (by kernel_rfl) (by simp)
def JJP:List Pm → Qm → Option CRes
  | [.i k],[] => some ⟨SV.one (Cb (J5 k)),
 [],[],[],8⟩
  | _,_ => none
theorem JkO:Qg Tryz.prog 46 (JS zu JJP) := by
  refine JH (JD JOf 46) fun ps ls r hr hn _ => ?_
  unfold JJP at hr
  split at hr
  · cases hr; exact ⟨_,Jf8 _,fun _ => rfl⟩
  · cases hr
def JQL:List (Nat × JY) := (46,JS zu JJP) :: JY6
theorem JL8:Known Tryz.prog (JB JQL) zi := J7 JOf JkO
def JCw:Tpl := ⟨[.agg pI],[],0⟩
def JJr:List GK := [.v Jx]
section
variable (x:List GC)
def Jb4:Bool:=
 bif xi x 0 == 1 then xi x 14 == 0 && !xb x 15 && xi x 18 == 0 else bif decide (xi x 14 < 1) || decide (xi x 14 > 60000000) then false else bif bif xi x 0 == 2 then xi x 0 == 2 else xi x 0 == 3 then decide (xi x 18 ≥ 0) && decide (xi x 18 ≤ 1000) else bif bif xi x 0 == 5 then xi x 0 == 5 else xi x 0 == 6 then xi x 18 == 0 && xb x 15 else xi x 18 == 0
def Jc3:Bool:=
 bif xi x 0 == 6 then bif xi x 19 != 3 && xi x 19 != 4 then false else Jb4 x else bif xi x 19 != 0 then false else Jb4 x
def JRD:Bool:=
 decide (xi x 19 ≥ 0)
def QY:Bool:=
 bif decide (xi x 1 < 0) || decide (xi x 1 ≥ 2000) then false else bif J5 (xi x 0) then bif !XG (xi x 2) (xi x 3) (xi x 4) || !XG (xi x 5) (xi x 6) (xi x 7) || xi x 20 != 0 || xb x 21 || !bif xi x 16 == 0 then xi x 17 == 0 && (xi x 8 == 0 || xi x 0 == 3) else (xi x 0 == 1 || xi x 0 == 2 || xi x 0 == 3) && Kg (xi x 8) && (xi x 16 == 1 || xi x 16 == -1) && decide (xi x 17 ≥ 0) && decide (xi x 17 ≤ 32768) then false else bif xi x 0 == 3 then bif XZ (xi x 0) (xi x 2) (xi x 3) (xi x 4) (xi x 5) (xi x 6) (xi x 7) (xi x 8) (xi x 9) (xi x 10) (xi x 11) (xi x 12) (xb x 13) != 0 then false else Jc3 x else bif !(xi x 9 == 0 && (xi x 10 == 0 && xi x 11 == 0)) || xi x 12 != 0 || xb x 13 then false else Jc3 x else bif !(xi x 0 == xi x 0 && (xi x 1 == xi x 1 && (xi x 2 == 0 && (xi x 3 == 0 && (xi x 4 == 0 && (xi x 5 == 0 && (xi x 6 == 0 && (xi x 7 == 0 && (xi x 8 == 0 && (xi x 9 == 0 && (xi x 10 == 0 && (xi x 11 == 0 && (xi x 12 == 0 && (xb x 13 == false && (xi x 14 == 0 && (xb x 15 == false && (xi x 16 == 0 && (xi x 17 == 0 && (xi x 18 == 0 && (xi x 19 == xi x 19 && (xi x 20 == xi x 20 && xb x 21 == xb x 21))))))))))))))))))))) then false else bif xi x 0 == 8 then !xb x 21 && decide (xi x 19 ≥ 3) && decide (xi x 19 ≤ 5) && decide (xi x 20 ≥ 0) && decide (xi x 20 ≤ 30000) && (xi x 19 != 5 || xi x 20 == 0) else bif xi x 0 == 9 then xi x 20 == 0 && (xi x 19 == 7 || xi x 19 == 8) else bif xi x 0 == 10 then xi x 20 == 0 && JRD x && decide (xi x 19 < 16) else bif xi x 0 == 7 then !xb x 21 && xi x 20 == 0 && JRD x && decide (xi x 19 ≤ 60000) else bif xi x 0 == 11 then !xb x 21 && xi x 20 == 0 && JRD x && decide (xi x 19 ≤ 32) else (bif xi x 0 == 12 then xi x 0 == 12 else bif xi x 0 == 13 then xi x 0 == 13 else xi x 0 == 14) && (!xb x 21 && xi x 20 == 0 && xi x 19 == 0)
end
theorem Jft (x:List GC):Runs (Jr (JB JQL) zi 47) (JCw.args (Je JJr [.v x])) (JCw.memo (Je JJr [.v x]) []) JCw.n (SV.one (Cb (QY x))) ([]) :=
  Runs.of1 (ps := []) (by kernel_rfl) (by simp)
def JLP:List Gm → Qm → Option CRes
  | [.v x],[] => some ⟨SV.one (Cb (QY x)),
 [],[],[],1925⟩
  | _,_ => none
theorem JoO:Qg Tryz.prog 47 (Z4 JJr JCw JLP) := by
  refine QZ (JD JL8 47) fun ps ls r hr hn _ => ?_
  unfold JLP at hr
  split at hr
  · cases hr; exact ⟨_,Jft _,fun _ => rfl⟩
  · cases hr
def JXe:List (Nat × JY) := (47,Z4 JJr JCw JLP) :: JQL
theorem JNu:Known Tryz.prog (JB JXe) zi := J7 JL8 JoO
def JEv:Tpl := ⟨[.agg pI,.one (.int .i64),.one (.int .i64)],[],0⟩
def JNy:List GK := [.v Jx,.i,.i]
section
variable (x:List GC) (pl ra:Int)
def JEu:Int:=
 IntKind.i64.wrap (J3 pl (xi x 5) (xi x 6) (xi x 7) - J3 pl (xi x 2) (xi x 3) (xi x 4))
def JFK:Int:=
 IntKind.i64.wrap (J4 pl (xi x 5) (xi x 6) (xi x 7) - J4 pl (xi x 2) (xi x 3) (xi x 4))
def JZ:Bool:=
 xi x 0 == 2 && J9 pl (xi x 2) (xi x 3) (xi x 4) == J9 pl (xi x 5) (xi x 6) (xi x 7) && decide (J8 (JEu x pl) (JFK x pl) (JEu x pl) (JFK x pl) > 0) && decide (J8 (JEu x pl) (JFK x pl) (JEu x pl) (JFK x pl) ≥ IntKind.i64.wrap (ra * ra))
end
theorem JjX (x:List GC) (pl ra:Int):Runs (Jr (JB JXe) zi 65) (JEv.args (Je JNy [.v x,.i pl,.i ra])) (JEv.memo (Je JNy [.v x,.i pl,.i ra]) []) JEv.n (SV.one (Cb (JZ x pl ra))) ([]) :=
  Runs.of1 (ps := []) (by kernel_rfl) (by simp)
def JRM:List Gm → Qm → Option CRes
  | [.v x,.i pl,.i ra],[] => some ⟨SV.one (Cb (JZ x pl ra)),
 [],[],[],254⟩
  | _,_ => none
theorem Jsq:Qg Tryz.prog 65 (Z4 JNy JEv JRM) := by
  refine QZ (JD JNu 65) fun ps ls r hr hn _ => ?_
  unfold JRM at hr
  split at hr
  · cases hr; exact ⟨_,JjX _ _ _,fun _ => rfl⟩
  · cases hr
def JUK:List (Nat × JY) := (65,Z4 JNy JEv JRM) :: JXe
theorem JT5:Known Tryz.prog (JB JUK) zi := J7 JNu Jsq
def Ks:List (Nat × PO) := [(0,.blk 66 [(3,.int .i64),(4,.int .i64),(5,.int .i64),(6,.int .i64),(7,.int .i64),(8,.int .i64),(9,.int .i64),(10,.int .i64),(11,.int .i64),(12,.int .i64),(13,.int .i64),(14,.int .i64),(15,.int .i64),(16,.bool),(17,.int .i64),(18,.bool),(19,.int .i64),(20,.int .i64),(21,.int .i64),(22,.int .i64),(23,.int .i64),(24,.bool),(25,.int .i64),(26,.int .i64),(27,.int .i64),(28,.int .i64),(29,.int .i64),(30,.int .i64),(31,.int .i64),(32,.int .i64),(33,.int .i64),(34,.int .i64),(35,.int .i64),(36,.int .i64),(37,.int .i64),(38,.bool),(39,.int .i64),(40,.bool),(41,.int .i64),(42,.int .i64),(43,.int .i64),(44,.int .i64),(45,.int .i64),(46,.bool),(47,.int .i64),(48,.int .i64),(49,.bool),(50,.wh 1),(51,.bool),(52,.bool),(53,.bool),(54,.bool),(55,.int .i64),(56,.int .i64),(57,.int .i64),(58,.wh 2),(59,.int .i64)]),(1,.row false 40 22 60 Wc),(2,.row false 40 22 61 Wc)]
def qx:Tpl := ⟨[.one (.ptr 0 0),.agg pI,.agg [.int .i64,.int .i64],.one (.int .i64),.one (.int .i64),.one (.bool)],Ks,62⟩
def JKQ:List GK := [.v Jx,.i,.i,.i,.i,.b,.v Jx,.v Jx,.i,.i,.b,.b,.b,.b,.b,.i,.i,.i,.i]
section
variable (x:List GC) (u w lo hi:Int) (al:Bool) (l:List GC) (a0 a1:Int) (O:LL)
def Jm8:Int:=
 bif al || !(JR (xi l 8) a0 a1 lo == JR (xi l 8) u w hi && (JP (xi l 8) a0 a1 lo == JP (xi l 8) u w hi && JQ (xi l 8) a0 a1 lo == JQ (xi l 8) u w hi)) then u else u
def Jmc:Int:=
 bif al || !(JR (xi l 8) a0 a1 lo == JR (xi l 8) u w hi && (JP (xi l 8) a0 a1 lo == JP (xi l 8) u w hi && JQ (xi l 8) a0 a1 lo == JQ (xi l 8) u w hi)) then w else w
def Zq:LL:=
 bif al || !(JR (xi l 8) a0 a1 lo == JR (xi l 8) u w hi && (JP (xi l 8) a0 a1 lo == JP (xi l 8) u w hi && JQ (xi l 8) a0 a1 lo == JQ (xi l 8) u w hi)) then O ++ [[xi x 0,xi x 1,JR (xi l 8) a0 a1 lo,JP (xi l 8) a0 a1 lo,JQ (xi l 8) a0 a1 lo,JR (xi l 8) u w hi,JP (xi l 8) u w hi,JQ (xi l 8) u w hi,bif xi x 0 != 3 then 0 else xi x 8,xi x 9,xi x 10,xi x 11,xi x 12,bif xb x 13 then 1 else 0,xi x 14,bif xb x 15 then 1 else 0,0,0,xi x 18,xi x 19,xi x 20,bif xb x 21 then 1 else 0]] else O
def JD8:List Prop:=
 [(al || !(JR (xi l 8) a0 a1 lo == JR (xi l 8) u w hi && (JP (xi l 8) a0 a1 lo == JP (xi l 8) u w hi && JQ (xi l 8) a0 a1 lo == JQ (xi l 8) u w hi))) = true → (O.length + 1) * 176 ≤ 140737488355328 ∧ O.length + 1 ≤ 9223372036854775807]
end
theorem JnO {u:Int} {w:Int} {lo:Int} {hi:Int} {al:Bool} {l:List GC} {a0:Int} {a1:Int} {O:LL} (hW:∀ q ∈ ([O.length ≤ 1000000]:List Prop),q):∀ q ∈ (JD8 u w lo hi al l a0 a1 O),q := by
  simp only [awc,awn,and_true] at hW
  unfold JD8
  simp only [awc,awn,and_true]
  exact fun _ => ⟨by omega,by omega⟩
def Jmp (x:List GC) (u w lo hi:Int) (al:Bool) (l y:List GC) (a0 a1:Int) (tr op cl en mo:Bool) (la0 la1 la2 er:Int) (C O:LL):Jn :=
 [(0,Obj.blk 66 [(3,Ci (xi l 0)),(4,Ci (xi l 1)),(5,Ci (xi l 2)),(6,Ci (xi l 3)),(7,Ci (xi l 4)),(8,Ci (xi l 5)),(9,Ci (xi l 6)),(10,Ci (xi l 7)),(11,Ci (xi l 8)),(12,Ci (xi l 9)),(13,Ci (xi l 10)),(14,Ci (xi l 11)),(15,Ci (xi l 12)),(16,Cb (xb l 13)),(17,Ci (xi l 14)),(18,Cb (xb l 15)),(19,Ci (xi l 16)),(20,Ci (xi l 17)),(21,Ci (xi l 18)),(22,Ci (xi l 19)),(23,Ci (xi l 20)),(24,Cb (xb l 21)),(25,Ci (xi y 0)),(26,Ci (xi y 1)),(27,Ci (xi y 2)),(28,Ci (xi y 3)),(29,Ci (xi y 4)),(30,Ci (xi y 5)),(31,Ci (xi y 6)),(32,Ci (xi y 7)),(33,Ci (xi y 8)),(34,Ci (xi y 9)),(35,Ci (xi y 10)),(36,Ci (xi y 11)),(37,Ci (xi y 12)),(38,Cb (xb y 13)),(39,Ci (xi y 14)),(40,Cb (xb y 15)),(41,Ci (xi y 16)),(42,Ci (xi y 17)),(43,Ci (xi y 18)),(44,Ci (xi y 19)),(45,Ci (xi y 20)),(46,Cb (xb y 21)),(593,Ci (Jm8 u w lo hi al l a0 a1)),(594,Ci (Jmc u w lo hi al l a0 a1)),(49,Cb tr),(50,SC.wh 1),(51,Cb op),(52,Cb cl),(53,Cb en),(54,Cb mo),(55,Ci la0),(56,Ci la1),(57,Ci la2),(591,SC.wh 589),(59,Ci er)]),(589,Obj.row false 40 22 (RowC.lst 592 Wc (Zq x u w lo hi al l a0 a1 O))),(1,Obj.row false 40 22 (RowC.lst 60 Wc C))]
theorem JoC (x:List GC) (u w lo hi:Int) (al:Bool) (l y:List GC) (a0 a1:Int) (tr op cl en mo:Bool) (la0 la1 la2 er:Int) (C O:LL) (hNeeds:∀ pN ∈ (JD8 u w lo hi al l a0 a1 O),pN):Runs (Jr (JB JUK) zi 72) (qx.args (Je JKQ [.v x,.i u,.i w,.i lo,.i hi,.b al,.v l,.v y,.i a0,.i a1,.b tr,.b op,.b cl,.b en,.b mo,.i la0,.i la1,.i la2,.i er])) (qx.memo (Je JKQ [.v x,.i u,.i w,.i lo,.i hi,.b al,.v l,.v y,.i a0,.i a1,.b tr,.b op,.b cl,.b en,.b mo,.i la0,.i la1,.i la2,.i er]) [C,O]) qx.n (SV.tup []) (Jmp x u w lo hi al l y a0 a1 tr op cl en mo la0 la1 la2 er C O) :=
  Runs.of1 (ps := (JD8 u w lo hi al l a0 a1 O)) (by kernel_rfl) hNeeds
def JWR:List Gm → Qm → Option CRes
  | [.v x,.i u,.i w,.i lo,.i hi,.b al,.v l,.v y,.i a0,.i a1,.b tr,.b op,.b cl,.b en,.b mo,.i la0,.i la1,.i la2,.i er],[C,O] => some ⟨SV.tup [],[(0,Obj.blk 66 [(3,Ci (xi l 0)),(4,Ci (xi l 1)),(5,Ci (xi l 2)),(6,Ci (xi l 3)),(7,Ci (xi l 4)),(8,Ci (xi l 5)),(9,Ci (xi l 6)),(10,Ci (xi l 7)),(11,Ci (xi l 8)),(12,Ci (xi l 9)),(13,Ci (xi l 10)),(14,Ci (xi l 11)),(15,Ci (xi l 12)),(16,Cb (xb l 13)),(17,Ci (xi l 14)),(18,Cb (xb l 15)),(19,Ci (xi l 16)),(20,Ci (xi l 17)),(21,Ci (xi l 18)),(22,Ci (xi l 19)),(23,Ci (xi l 20)),(24,Cb (xb l 21)),(25,Ci (xi y 0)),(26,Ci (xi y 1)),(27,Ci (xi y 2)),(28,Ci (xi y 3)),(29,Ci (xi y 4)),(30,Ci (xi y 5)),(31,Ci (xi y 6)),(32,Ci (xi y 7)),(33,Ci (xi y 8)),(34,Ci (xi y 9)),(35,Ci (xi y 10)),(36,Ci (xi y 11)),(37,Ci (xi y 12)),(38,Cb (xb y 13)),(39,Ci (xi y 14)),(40,Cb (xb y 15)),(41,Ci (xi y 16)),(42,Ci (xi y 17)),(43,Ci (xi y 18)),(44,Ci (xi y 19)),(45,Ci (xi y 20)),(46,Cb (xb y 21)),(593,Ci (u)),(594,Ci (w)),(49,Cb tr),(50,SC.wh 1),(51,Cb op),(52,Cb cl),(53,Cb en),(54,Cb mo),(55,Ci la0),(56,Ci la1),(57,Ci la2),(591,SC.wh 589),(59,Ci er)]),(589,Obj.row false 40 22 (RowC.lst 592 Wc (Zq x u w lo hi al l a0 a1 O))),(1,Obj.row false 40 22 (RowC.lst 60 Wc C))],[O.length ≤ 1000000],[],595⟩
  | _,_ => none
theorem Jgg (x:List GC) (u w lo hi:Int) (al:Bool) (l y:List GC) (a0 a1:Int) (tr op cl en mo:Bool) (la0 la1 la2 er:Int) (C O:LL) (hNeeds:∀ pN ∈ (JD8 u w lo hi al l a0 a1 O),pN):Runs (Jr (JB JUK) zi 72) (qx.args (Je JKQ [.v x,.i u,.i w,.i lo,.i hi,.b al,.v l,.v y,.i a0,.i a1,.b tr,.b op,.b cl,.b en,.b mo,.i la0,.i la1,.i la2,.i er])) (qx.memo (Je JKQ [.v x,.i u,.i w,.i lo,.i hi,.b al,.v l,.v y,.i a0,.i a1,.b tr,.b op,.b cl,.b en,.b mo,.i la0,.i la1,.i la2,.i er]) [C,O]) qx.n (SV.tup [])
    ([(0,
     Obj.blk 66
     [(3,SC.int IntKind.i64 (SI.v (xi l 0))),(4,SC.int IntKind.i64 (SI.v (xi l 1))),(5,SC.int IntKind.i64 (SI.v (xi l 2))),(6,SC.int IntKind.i64 (SI.v (xi l 3))),
     (7,SC.int IntKind.i64 (SI.v (xi l 4))),(8,SC.int IntKind.i64 (SI.v (xi l 5))),(9,SC.int IntKind.i64 (SI.v (xi l 6))),(10,SC.int IntKind.i64 (SI.v (xi l 7))),
     (11,SC.int IntKind.i64 (SI.v (xi l 8))),(12,SC.int IntKind.i64 (SI.v (xi l 9))),(13,SC.int IntKind.i64 (SI.v (xi l 10))),(14,SC.int IntKind.i64 (SI.v (xi l 11))),
     (15,SC.int IntKind.i64 (SI.v (xi l 12))),(16,SC.bool (SB.v (xb l 13))),(17,SC.int IntKind.i64 (SI.v (xi l 14))),(18,SC.bool (SB.v (xb l 15))),(19,SC.int IntKind.i64 (SI.v (xi l 16))),
     (20,SC.int IntKind.i64 (SI.v (xi l 17))),(21,SC.int IntKind.i64 (SI.v (xi l 18))),(22,SC.int IntKind.i64 (SI.v (xi l 19))),(23,SC.int IntKind.i64 (SI.v (xi l 20))),
     (24,SC.bool (SB.v (xb l 21))),(25,SC.int IntKind.i64 (SI.v (xi y 0))),(26,SC.int IntKind.i64 (SI.v (xi y 1))),(27,SC.int IntKind.i64 (SI.v (xi y 2))),
     (28,SC.int IntKind.i64 (SI.v (xi y 3))),(29,SC.int IntKind.i64 (SI.v (xi y 4))),(30,SC.int IntKind.i64 (SI.v (xi y 5))),(31,SC.int IntKind.i64 (SI.v (xi y 6))),
     (32,SC.int IntKind.i64 (SI.v (xi y 7))),(33,SC.int IntKind.i64 (SI.v (xi y 8))),(34,SC.int IntKind.i64 (SI.v (xi y 9))),(35,SC.int IntKind.i64 (SI.v (xi y 10))),
     (36,SC.int IntKind.i64 (SI.v (xi y 11))),(37,SC.int IntKind.i64 (SI.v (xi y 12))),(38,SC.bool (SB.v (xb y 13))),(39,SC.int IntKind.i64 (SI.v (xi y 14))),(40,SC.bool (SB.v (xb y 15))),
     (41,SC.int IntKind.i64 (SI.v (xi y 16))),(42,SC.int IntKind.i64 (SI.v (xi y 17))),(43,SC.int IntKind.i64 (SI.v (xi y 18))),(44,SC.int IntKind.i64 (SI.v (xi y 19))),
     (45,SC.int IntKind.i64 (SI.v (xi y 20))),(46,SC.bool (SB.v (xb y 21))),(593,SC.int IntKind.i64 (SI.v (u))),
     (594,SC.int IntKind.i64 (SI.v (w))),(49,SC.bool (SB.v tr)),(50,SC.wh 1),(51,SC.bool (SB.v op)),(52,SC.bool (SB.v cl)),(53,SC.bool (SB.v en)),
     (54,SC.bool (SB.v mo)),(55,SC.int IntKind.i64 (SI.v la0)),(56,SC.int IntKind.i64 (SI.v la1)),(57,SC.int IntKind.i64 (SI.v la2)),(591,SC.wh 589),(59,SC.int IntKind.i64 (SI.v er))]),
    (589,
     Obj.row false 40 22
     (RowC.lst 592
     [CK.int IntKind.i64,CK.int IntKind.i64,CK.int IntKind.i64,CK.int IntKind.i64,CK.int IntKind.i64,CK.int IntKind.i64,CK.int IntKind.i64,CK.int IntKind.i64,CK.int IntKind.i64,
     CK.int IntKind.i64,CK.int IntKind.i64,CK.int IntKind.i64,CK.int IntKind.i64,CK.bool,CK.int IntKind.i64,CK.bool,CK.int IntKind.i64,CK.int IntKind.i64,CK.int IntKind.i64,
     CK.int IntKind.i64,CK.int IntKind.i64,CK.bool]
     (Zq x u w lo hi al l a0 a1 O))),
    (1,
     Obj.row false 40 22
     (RowC.lst 60
     [CK.int IntKind.i64,CK.int IntKind.i64,CK.int IntKind.i64,CK.int IntKind.i64,CK.int IntKind.i64,CK.int IntKind.i64,CK.int IntKind.i64,CK.int IntKind.i64,CK.int IntKind.i64,
     CK.int IntKind.i64,CK.int IntKind.i64,CK.int IntKind.i64,CK.int IntKind.i64,CK.bool,CK.int IntKind.i64,CK.bool,CK.int IntKind.i64,CK.int IntKind.i64,CK.int IntKind.i64,
     CK.int IntKind.i64,CK.int IntKind.i64,CK.bool]
     C))]) :=
  (JoC x u w lo hi al l y a0 a1 tr op cl en mo la0 la1 la2 er C O hNeeds).to (by first | rfl | (simp only [])) ((by simp only [Jmp,Ci,Cb,Wc,Jm8,Jmc,Bool.cond_self]))
theorem Ju5:Qg Tryz.prog 72 (Z4 JKQ qx JWR) := by
  refine QZ (JD JT5 72) fun ps ls r hr hn _ => ?_
  unfold JWR at hr
  split at hr
  · cases hr; exact ⟨_,Jgg _ _ _ _ _ _ _ _ _ _ _ _ _ _ _ _ _ _ _ _ _ (JnO (by exact hn)),fun _ => rfl⟩
  · cases hr
def JjL:List (Nat × JY) := (72,Z4 JKQ qx JWR) :: JUK
theorem JUp:Known Tryz.prog (JB JjL) zi := J7 JT5 Ju5
theorem WR (x:List GC) (u w lo hi:Int) (al:Bool) (l:List GC) (a0 a1:Int) (O:LL):O.length ≤ (Zq x u w lo hi al l a0 a1 O).length ∧ (Zq x u w lo hi al l a0 a1 O).length ≤ O.length + 1 := by
  unfold Zq
  generalize (al || _:Bool) = c
  cases c
  · exact ⟨Nat.le_refl _,Nat.le_succ _⟩
  · simp only [cond_true,List.length_append,List.length_cons,List.length_nil]; omega
def JCW:Tpl := ⟨[.one (.ptr 0 0),.agg [.int .i64,.int .i64],.one (.bool)],Ks,62⟩
def JJo:List GK := [.i,.i,.b,.v Jx,.v Jx,.i,.i,.b,.b,.b,.b,.b,.i,.i,.i,.i]
def jf (u:Int) (l y:List GC):Int :=
 IntKind.i64.wrap (u - J3 (xi l 8) (xi y 9) (xi y 10) (xi y 11))
def jd (w:Int) (l y:List GC):Int :=
 IntKind.i64.wrap (w - J4 (xi l 8) (xi y 9) (xi y 10) (xi y 11))
def W6 (u w:Int) (tm:Bool) (l y:List GC) (a0 a1:Int) (tr:Bool):Bool :=
 bif tr then bif !KG (xi y 2) (xi y 3) (xi y 4) (xi y 5) (xi y 6) (xi y 7) (xi y 8) (xi y 9) (xi y 10) (xi y 11) (xi y 12) (xb y 13) (IntKind.i64.wrap (a0 - J3 (xi l 8) (xi y 9) (xi y 10) (xi y 11))) (IntKind.i64.wrap (a1 - J4 (xi l 8) (xi y 9) (xi y 10) (xi y 11))) then false else !tm || KG (JR (xi l 8) a0 a1 (J9 (xi l 8) (xi y 2) (xi y 3) (xi y 4))) (JP (xi l 8) a0 a1 (J9 (xi l 8) (xi y 2) (xi y 3) (xi y 4))) (JQ (xi l 8) a0 a1 (J9 (xi l 8) (xi y 2) (xi y 3) (xi y 4))) (xi y 5) (xi y 6) (xi y 7) (xi y 8) (xi y 9) (xi y 10) (xi y 11) (xi y 12) (xb y 13) (jf u l y) (jd w l y) else !tm || KG (xi y 2) (xi y 3) (xi y 4) (xi y 5) (xi y 6) (xi y 7) (xi y 8) (xi y 9) (xi y 10) (xi y 11) (xi y 12) (xb y 13) (jf u l y) (jd w l y)
def Jb9 (l y:List GC) (a0 a1:Int) (tr op cl en mo:Bool) (la0 la1 la2 er:Int) (C O:LL):Jn :=
 [(0,Obj.blk 66 [(3,Ci (xi l 0)),(4,Ci (xi l 1)),(5,Ci (xi l 2)),(6,Ci (xi l 3)),(7,Ci (xi l 4)),(8,Ci (xi l 5)),(9,Ci (xi l 6)),(10,Ci (xi l 7)),(11,Ci (xi l 8)),(12,Ci (xi l 9)),(13,Ci (xi l 10)),(14,Ci (xi l 11)),(15,Ci (xi l 12)),(16,Cb (xb l 13)),(17,Ci (xi l 14)),(18,Cb (xb l 15)),(19,Ci (xi l 16)),(20,Ci (xi l 17)),(21,Ci (xi l 18)),(22,Ci (xi l 19)),(23,Ci (xi l 20)),(24,Cb (xb l 21)),(25,Ci (xi y 0)),(26,Ci (xi y 1)),(27,Ci (xi y 2)),(28,Ci (xi y 3)),(29,Ci (xi y 4)),(30,Ci (xi y 5)),(31,Ci (xi y 6)),(32,Ci (xi y 7)),(33,Ci (xi y 8)),(34,Ci (xi y 9)),(35,Ci (xi y 10)),(36,Ci (xi y 11)),(37,Ci (xi y 12)),(38,Cb (xb y 13)),(39,Ci (xi y 14)),(40,Cb (xb y 15)),(41,Ci (xi y 16)),(42,Ci (xi y 17)),(43,Ci (xi y 18)),(44,Ci (xi y 19)),(45,Ci (xi y 20)),(46,Cb (xb y 21)),(47,Ci a0),(48,Ci a1),(49,Cb tr),(50,SC.wh 1),(51,Cb op),(52,Cb cl),(53,Cb en),(54,Cb mo),(55,Ci la0),(56,Ci la1),(57,Ci la2),(58,SC.wh 2),(59,Ci er)]),(1,Obj.row false 40 22 (RowC.lst 60 Wc C)),(2,Obj.row false 40 22 (RowC.lst 61 Wc O))]
theorem JgV (u w:Int) (tm:Bool) (l y:List GC) (a0 a1:Int) (tr op cl en mo:Bool) (la0 la1 la2 er:Int) (C O:LL):Runs (Jr (JB JjL) zi 104) (JCW.args (Je JJo [.i u,.i w,.b tm,.v l,.v y,.i a0,.i a1,.b tr,.b op,.b cl,.b en,.b mo,.i la0,.i la1,.i la2,.i er])) (JCW.memo (Je JJo [.i u,.i w,.b tm,.v l,.v y,.i a0,.i a1,.b tr,.b op,.b cl,.b en,.b mo,.i la0,.i la1,.i la2,.i er]) [C,O]) JCW.n (SV.one (Cb (W6 u w tm l y a0 a1 tr))) (Jb9 l y a0 a1 tr op cl en mo la0 la1 la2 er C O) :=
  Runs.of1 (ps := []) (by kernel_rfl) (by simp)
def JLj:List Gm → Qm → Option CRes
  | [.i u,.i w,.b tm,.v l,.v y,.i a0,.i a1,.b tr,.b op,.b cl,.b en,.b mo,.i la0,.i la1,.i la2,.i er],[C,O] => some ⟨SV.one (Cb (W6 u w tm l y a0 a1 tr)),
 Jb9 l y a0 a1 tr op cl en mo la0 la1 la2 er C O,[],[],2498⟩
  | _,_ => none
theorem Jn7:Qg Tryz.prog 104 (Z4 JJo JCW JLj) := by
  refine QZ (JD JUp 104) fun ps ls r hr hn _ => ?_
  unfold JLj at hr
  split at hr
  · cases hr; exact ⟨_,JgV _ _ _ _ _ _ _ _ _ _ _ _ _ _ _ _ _ _,fun _ => rfl⟩
  · cases hr
def JYG:List (Nat × JY) := (104,Z4 JJo JCW JLj) :: JjL
theorem JNc:Known Tryz.prog (JB JYG) zi := J7 JUp Jn7
def JGE:Tpl := ⟨[.one (.ptr 0 0),.agg [.int .i64,.int .i64],.one (.bool)],Ks,62⟩
def JMu:List GK := [.i,.i,.b,.v Jx,.v Jx,.i,.i,.b,.b,.b,.b,.b,.i,.i,.i,.i]
section
variable (u w:Int) (tm:Bool) (l y:List GC) (a0 a1:Int) (tr:Bool) (O:LL)
def kc:Int:=
 J8 (IntKind.i64.wrap (u - a0)) (IntKind.i64.wrap (w - a1)) (IntKind.i64.wrap (J3 (xi l 8) (xi y 5) (xi y 6) (xi y 7) - J3 (xi l 8) (xi y 2) (xi y 3) (xi y 4))) (IntKind.i64.wrap (J4 (xi l 8) (xi y 5) (xi y 6) (xi y 7) - J4 (xi l 8) (xi y 2) (xi y 3) (xi y 4)))
def Q7:Int:=
 bif xi y 0 == 2 then bif (tm || tr) && decide (kc u w l y a0 a1 ≤ 0) then 16 else 0 else bif (tm || tr) && !xb y 13 && !W6 u w tm (J1 l) (J1 y) a0 a1 tr then 16 else bif XZ (xi y 0) (JR (xi l 8) a0 a1 (J9 (xi l 8) (xi y 2) (xi y 3) (xi y 4))) (JP (xi l 8) a0 a1 (J9 (xi l 8) (xi y 2) (xi y 3) (xi y 4))) (JQ (xi l 8) a0 a1 (J9 (xi l 8) (xi y 2) (xi y 3) (xi y 4))) (JR (xi l 8) u w (J9 (xi l 8) (xi y 5) (xi y 6) (xi y 7))) (JP (xi l 8) u w (J9 (xi l 8) (xi y 5) (xi y 6) (xi y 7))) (JQ (xi l 8) u w (J9 (xi l 8) (xi y 5) (xi y 6) (xi y 7))) (bif xi y 0 != 3 then 0 else xi y 8) (xi y 9) (xi y 10) (xi y 11) (xi y 12) (xb y 13 && !tm && !tr) != 0 then 16 else 0
def KP:Int:=
 bif xi y 0 == 2 then bif (tm || tr) && decide (kc u w l y a0 a1 ≤ 0) then a0 else u else bif (tm || tr) && !xb y 13 && !W6 u w tm (J1 l) (J1 y) a0 a1 tr then a0 else bif XZ (xi y 0) (JR (xi l 8) a0 a1 (J9 (xi l 8) (xi y 2) (xi y 3) (xi y 4))) (JP (xi l 8) a0 a1 (J9 (xi l 8) (xi y 2) (xi y 3) (xi y 4))) (JQ (xi l 8) a0 a1 (J9 (xi l 8) (xi y 2) (xi y 3) (xi y 4))) (JR (xi l 8) u w (J9 (xi l 8) (xi y 5) (xi y 6) (xi y 7))) (JP (xi l 8) u w (J9 (xi l 8) (xi y 5) (xi y 6) (xi y 7))) (JQ (xi l 8) u w (J9 (xi l 8) (xi y 5) (xi y 6) (xi y 7))) (bif xi y 0 != 3 then 0 else xi y 8) (xi y 9) (xi y 10) (xi y 11) (xi y 12) (xb y 13 && !tm && !tr) != 0 then a0 else u
def KK:Int:=
 bif xi y 0 == 2 then bif (tm || tr) && decide (kc u w l y a0 a1 ≤ 0) then a1 else w else bif (tm || tr) && !xb y 13 && !W6 u w tm (J1 l) (J1 y) a0 a1 tr then a1 else bif XZ (xi y 0) (JR (xi l 8) a0 a1 (J9 (xi l 8) (xi y 2) (xi y 3) (xi y 4))) (JP (xi l 8) a0 a1 (J9 (xi l 8) (xi y 2) (xi y 3) (xi y 4))) (JQ (xi l 8) a0 a1 (J9 (xi l 8) (xi y 2) (xi y 3) (xi y 4))) (JR (xi l 8) u w (J9 (xi l 8) (xi y 5) (xi y 6) (xi y 7))) (JP (xi l 8) u w (J9 (xi l 8) (xi y 5) (xi y 6) (xi y 7))) (JQ (xi l 8) u w (J9 (xi l 8) (xi y 5) (xi y 6) (xi y 7))) (bif xi y 0 != 3 then 0 else xi y 8) (xi y 9) (xi y 10) (xi y 11) (xi y 12) (xb y 13 && !tm && !tr) != 0 then a1 else w
def JXH:Int:=
 bif xi y 0 != 3 then 0 else xi y 8
def Zj:LL:=
 bif xi y 0 == 2 then bif (tm || tr) && decide (kc u w l y a0 a1 ≤ 0) then O else Zq (J1 y) u w (J9 (xi l 8) (xi y 2) (xi y 3) (xi y 4)) (J9 (xi l 8) (xi y 5) (xi y 6) (xi y 7)) false (J1 l) a0 a1 O else bif (tm || tr) && !xb y 13 && !W6 u w tm (J1 l) (J1 y) a0 a1 tr then O else bif XZ (xi y 0) (JR (xi l 8) a0 a1 (J9 (xi l 8) (xi y 2) (xi y 3) (xi y 4))) (JP (xi l 8) a0 a1 (J9 (xi l 8) (xi y 2) (xi y 3) (xi y 4))) (JQ (xi l 8) a0 a1 (J9 (xi l 8) (xi y 2) (xi y 3) (xi y 4))) (JR (xi l 8) u w (J9 (xi l 8) (xi y 5) (xi y 6) (xi y 7))) (JP (xi l 8) u w (J9 (xi l 8) (xi y 5) (xi y 6) (xi y 7))) (JQ (xi l 8) u w (J9 (xi l 8) (xi y 5) (xi y 6) (xi y 7))) (JXH y) (xi y 9) (xi y 10) (xi y 11) (xi y 12) (xb y 13 && !tm && !tr) != 0 then O else O ++ [[xi y 0,xi y 1,JR (xi l 8) a0 a1 (J9 (xi l 8) (xi y 2) (xi y 3) (xi y 4)),JP (xi l 8) a0 a1 (J9 (xi l 8) (xi y 2) (xi y 3) (xi y 4)),JQ (xi l 8) a0 a1 (J9 (xi l 8) (xi y 2) (xi y 3) (xi y 4)),JR (xi l 8) u w (J9 (xi l 8) (xi y 5) (xi y 6) (xi y 7)),JP (xi l 8) u w (J9 (xi l 8) (xi y 5) (xi y 6) (xi y 7)),JQ (xi l 8) u w (J9 (xi l 8) (xi y 5) (xi y 6) (xi y 7)),JXH y,xi y 9,xi y 10,xi y 11,xi y 12,bif xb y 13 && !tm && !tr then 1 else 0,xi y 14,bif xb y 15 then 1 else 0,0,0,xi y 18,xi y 19,xi y 20,bif xb y 21 then 1 else 0]]
def JDk:List Prop:=
 [(xi y 0 == 2) = true → ((tm || tr) && decide (kc u w l y a0 a1 ≤ 0)) = false → O.length ≤ 1000000,(xi y 0 == 2) = false → ((tm || tr) && !xb y 13 && !W6 u w tm (J1 l) (J1 y) a0 a1 tr) = false → (XZ (xi y 0) (JR (xi l 8) a0 a1 (J9 (xi l 8) (xi y 2) (xi y 3) (xi y 4))) (JP (xi l 8) a0 a1 (J9 (xi l 8) (xi y 2) (xi y 3) (xi y 4))) (JQ (xi l 8) a0 a1 (J9 (xi l 8) (xi y 2) (xi y 3) (xi y 4))) (JR (xi l 8) u w (J9 (xi l 8) (xi y 5) (xi y 6) (xi y 7))) (JP (xi l 8) u w (J9 (xi l 8) (xi y 5) (xi y 6) (xi y 7))) (JQ (xi l 8) u w (J9 (xi l 8) (xi y 5) (xi y 6) (xi y 7))) (bif xi y 0 != 3 then 0 else xi y 8) (xi y 9) (xi y 10) (xi y 11) (xi y 12) (xb y 13 && !tm && !tr) != 0) = false → (O.length + 1) * 176 ≤ 140737488355328 ∧ O.length + 1 ≤ 9223372036854775807]
end
theorem Jj9 {u:Int} {w:Int} {tm:Bool} {l:List GC} {y:List GC} {a0:Int} {a1:Int} {tr:Bool} {O:LL} (hW:∀ q ∈ ([O.length ≤ 1000000]:List Prop),q):∀ q ∈ (JDk u w tm l y a0 a1 tr O),q := by
  simp only [awc,awn,and_true] at hW
  unfold JDk
  simp only [awc,awn,and_true]
  exact ⟨fun _ _ => hW,fun _ _ _ => ⟨by omega,by omega⟩⟩
def JgO (u w:Int) (tm:Bool) (l y:List GC) (a0 a1:Int) (tr op cl en mo:Bool) (la0 la1 la2 er:Int) (C O:LL):Jn :=
 [(0,Obj.blk 66 [(3,Ci (xi l 0)),(4,Ci (xi l 1)),(5,Ci (xi l 2)),(6,Ci (xi l 3)),(7,Ci (xi l 4)),(8,Ci (xi l 5)),(9,Ci (xi l 6)),(10,Ci (xi l 7)),(11,Ci (xi l 8)),(12,Ci (xi l 9)),(13,Ci (xi l 10)),(14,Ci (xi l 11)),(15,Ci (xi l 12)),(16,Cb (xb l 13)),(17,Ci (xi l 14)),(18,Cb (xb l 15)),(19,Ci (xi l 16)),(20,Ci (xi l 17)),(21,Ci (xi l 18)),(22,Ci (xi l 19)),(23,Ci (xi l 20)),(24,Cb (xb l 21)),(25,Ci (xi y 0)),(26,Ci (xi y 1)),(27,Ci (xi y 2)),(28,Ci (xi y 3)),(29,Ci (xi y 4)),(30,Ci (xi y 5)),(31,Ci (xi y 6)),(32,Ci (xi y 7)),(33,Ci (xi y 8)),(34,Ci (xi y 9)),(35,Ci (xi y 10)),(36,Ci (xi y 11)),(37,Ci (xi y 12)),(38,Cb (xb y 13)),(39,Ci (xi y 14)),(40,Cb (xb y 15)),(41,Ci (xi y 16)),(42,Ci (xi y 17)),(43,Ci (xi y 18)),(44,Ci (xi y 19)),(45,Ci (xi y 20)),(46,Cb (xb y 21)),(5758,Ci (KP u w tm l y a0 a1 tr)),(5759,Ci (KK u w tm l y a0 a1 tr)),(49,Cb tr),(50,SC.wh 1),(51,Cb op),(52,Cb cl),(53,Cb en),(54,Cb mo),(55,Ci la0),(56,Ci la1),(57,Ci la2),(5734,SC.wh 5732),(59,Ci er)]),(5732,Obj.row false 40 22 (RowC.lst 5757 Wc (Zj u w tm l y a0 a1 tr O))),(1,Obj.row false 40 22 (RowC.lst 60 Wc C))]
theorem Jkz (u w:Int) (tm:Bool) (l y:List GC) (a0 a1:Int) (tr op cl en mo:Bool) (la0 la1 la2 er:Int) (C O:LL) (hNeeds:∀ pN ∈ (JDk u w tm l y a0 a1 tr O),pN):Runs (Jr (JB JYG) zi 69) (JGE.args (Je JMu [.i u,.i w,.b tm,.v l,.v y,.i a0,.i a1,.b tr,.b op,.b cl,.b en,.b mo,.i la0,.i la1,.i la2,.i er])) (JGE.memo (Je JMu [.i u,.i w,.b tm,.v l,.v y,.i a0,.i a1,.b tr,.b op,.b cl,.b en,.b mo,.i la0,.i la1,.i la2,.i er]) [C,O]) JGE.n (SV.one (Ci (Q7 u w tm l y a0 a1 tr))) (JgO u w tm l y a0 a1 tr op cl en mo la0 la1 la2 er C O) :=
  Runs.of1 (ps := (JDk u w tm l y a0 a1 tr O)) (by kernel_rfl) hNeeds
def JQQ:List Gm → Qm → Option CRes
  | [.i u,.i w,.b tm,.v l,.v y,.i a0,.i a1,.b tr,.b op,.b cl,.b en,.b mo,.i la0,.i la1,.i la2,.i er],[C,O] => some ⟨SV.one (Ci (Q7 u w tm l y a0 a1 tr)),
 JgO u w tm l y a0 a1 tr op cl en mo la0 la1 la2 er C O,[O.length ≤ 1000000],[],5760⟩
  | _,_ => none
theorem Jpd:Qg Tryz.prog 69 (Z4 JMu JGE JQQ) := by
  refine QZ (JD JNc 69) fun ps ls r hr hn _ => ?_
  unfold JQQ at hr
  split at hr
  · cases hr; exact ⟨_,Jkz _ _ _ _ _ _ _ _ _ _ _ _ _ _ _ _ _ _ (Jj9 (by exact hn)),fun _ => rfl⟩
  · cases hr
def JUW:List (Nat × JY) := (69,Z4 JMu JGE JQQ) :: JYG
theorem JSw:Known Tryz.prog (JB JUW) zi := J7 JNc Jpd
def JEk (O A:LL):Prop := O.length ≤ A.length ∧ A.length ≤ O.length + 1
theorem JEk.self (O:LL):JEk O O := ⟨Nat.le_refl _,Nat.le_succ _⟩
theorem JEk.one (O:LL) (r:List Int):JEk O (O ++ [r]) := by
  unfold JEk; simp only [List.length_append,List.length_cons,List.length_nil]; omega
theorem JEk.ite {c:Bool} {O A B:LL} (h:JEk O A) (k:JEk O B):JEk O (bif c then A else B) := by cases c <;> assumption
theorem Ym (u w:Int) (tm:Bool) (l y:List GC) (a0 a1:Int) (tr:Bool) (O:LL):JEk O (Zj u w tm l y a0 a1 tr O) := by
  unfold Zj
  exact .ite (.ite (.self O) (WR ..)) (.ite (.self O) (.ite (.self O) (.one O _)))
def kl:Tpl := ⟨[.one (.ptr 0 0),.agg pI,.agg [.int .i64,.int .i64],.one (.bool)],Ks,62⟩
def JJn:List GK := [.v Jx,.i,.i,.b,.v Jx,.v Jx,.i,.i,.b,.b,.b,.b,.b,.i,.i,.i,.i]
section
variable (x:List GC) (w u:Int) (l:List GC) (a1 a0:Int)
def Xq:Int:=
 IntKind.i64.wrap (a0 - J3 (xi l 8) (xi x 2) (xi x 3) (xi x 4))
def Xv:Int:=
 IntKind.i64.wrap (a1 - J4 (xi l 8) (xi x 2) (xi x 3) (xi x 4))
def Xs:Int:=
 IntKind.i64.wrap (u - J3 (xi l 8) (xi x 2) (xi x 3) (xi x 4))
def Xr:Int:=
 IntKind.i64.wrap (w - J4 (xi l 8) (xi x 2) (xi x 3) (xi x 4))
end
section
variable (x:List GC) (u w:Int) (ou:Bool) (l:List GC) (a0 a1:Int) (O:LL)
def j6:Int:=
 IntKind.i64.wrap (JE (Xq x l a0) (Xv x l a1) (Xs x u l) (Xr x w l) * IntKind.i64.wrap (0 - xi l 16))
def Jlb:Int:=
 bif ou && (decide (j6 x u w l a0 a1 > 0) || j6 x u w l a0 a1 == 0 && decide (J8 (Xq x l a0) (Xv x l a1) (Xs x u l) (Xr x w l) < 0)) && decide (J8 (Xq x l a0) (Xv x l a1) (Xq x l a0) (Xv x l a1) ≥ 64) && decide (J8 (Xs x u l) (Xr x w l) (Xs x u l) (Xr x w l) ≥ 64) then u else u
def Jle:Int:=
 bif ou && (decide (j6 x u w l a0 a1 > 0) || j6 x u w l a0 a1 == 0 && decide (J8 (Xq x l a0) (Xv x l a1) (Xs x u l) (Xr x w l) < 0)) && decide (J8 (Xq x l a0) (Xv x l a1) (Xq x l a0) (Xv x l a1) ≥ 64) && decide (J8 (Xs x u l) (Xr x w l) (Xs x u l) (Xr x w l) ≥ 64) then w else w
def j0:LL:=
 bif ou && (decide (j6 x u w l a0 a1 > 0) || j6 x u w l a0 a1 == 0 && decide (J8 (Xq x l a0) (Xv x l a1) (Xs x u l) (Xr x w l) < 0)) && decide (J8 (Xq x l a0) (Xv x l a1) (Xq x l a0) (Xv x l a1) ≥ 64) && decide (J8 (Xs x u l) (Xr x w l) (Xs x u l) (Xr x w l) ≥ 64) then O ++ [[3,xi x 1,JR (xi l 8) a0 a1 (J9 (xi l 8) (xi x 2) (xi x 3) (xi x 4)),JP (xi l 8) a0 a1 (J9 (xi l 8) (xi x 2) (xi x 3) (xi x 4)),JQ (xi l 8) a0 a1 (J9 (xi l 8) (xi x 2) (xi x 3) (xi x 4)),JR (xi l 8) u w (J9 (xi l 8) (xi x 2) (xi x 3) (xi x 4)),JP (xi l 8) u w (J9 (xi l 8) (xi x 2) (xi x 3) (xi x 4)),JQ (xi l 8) u w (J9 (xi l 8) (xi x 2) (xi x 3) (xi x 4)),xi l 8,JR (xi l 8) (J3 (xi l 8) (xi x 2) (xi x 3) (xi x 4)) (J4 (xi l 8) (xi x 2) (xi x 3) (xi x 4)) (J9 (xi l 8) (xi x 2) (xi x 3) (xi x 4)),JP (xi l 8) (J3 (xi l 8) (xi x 2) (xi x 3) (xi x 4)) (J4 (xi l 8) (xi x 2) (xi x 3) (xi x 4)) (J9 (xi l 8) (xi x 2) (xi x 3) (xi x 4)),JQ (xi l 8) (J3 (xi l 8) (xi x 2) (xi x 3) (xi x 4)) (J4 (xi l 8) (xi x 2) (xi x 3) (xi x 4)) (J9 (xi l 8) (xi x 2) (xi x 3) (xi x 4)),IntKind.i64.wrap (0 - xi l 16),0,xi x 14,bif xb x 15 then 1 else 0,0,0,0,0,0,0]] else Zq [GC.i 2,GC.i (xi x 1),GC.i 0,GC.i 0,GC.i 0,GC.i 0,GC.i 0,GC.i 0,GC.i 0,GC.i 0,GC.i 0,GC.i 0,GC.i 0,GC.b false,GC.i (xi x 14),GC.b (xb x 15),GC.i 0,GC.i 0,GC.i 0,GC.i 0,GC.i 0,GC.b false] u w (J9 (xi l 8) (xi x 2) (xi x 3) (xi x 4)) (J9 (xi l 8) (xi x 2) (xi x 3) (xi x 4)) false (J1 l) a0 a1 O
def JDA:List Prop:=
 [(ou && (decide (j6 x u w l a0 a1 > 0) || j6 x u w l a0 a1 == 0 && decide (J8 (Xq x l a0) (Xv x l a1) (Xs x u l) (Xr x w l) < 0)) && decide (J8 (Xq x l a0) (Xv x l a1) (Xq x l a0) (Xv x l a1) ≥ 64) && decide (J8 (Xs x u l) (Xr x w l) (Xs x u l) (Xr x w l) ≥ 64)) = true → (O.length + 1) * 176 ≤ 140737488355328 ∧ O.length + 1 ≤ 9223372036854775807,(ou && (decide (j6 x u w l a0 a1 > 0) || j6 x u w l a0 a1 == 0 && decide (J8 (Xq x l a0) (Xv x l a1) (Xs x u l) (Xr x w l) < 0)) && decide (J8 (Xq x l a0) (Xv x l a1) (Xq x l a0) (Xv x l a1) ≥ 64) && decide (J8 (Xs x u l) (Xr x w l) (Xs x u l) (Xr x w l) ≥ 64)) = false → O.length ≤ 1000000]
end
theorem JoX {x:List GC} {u:Int} {w:Int} {ou:Bool} {l:List GC} {a0:Int} {a1:Int} {O:LL} (hW:∀ q ∈ ([O.length ≤ 1000000]:List Prop),q):∀ q ∈ (JDA x u w ou l a0 a1 O),q := by
  simp only [awc,awn,and_true] at hW
  unfold JDA
  simp only [awc,awn,and_true]
  exact ⟨fun _ => ⟨by omega,by omega⟩,fun _ => hW⟩
def JmN (x:List GC) (u w:Int) (ou:Bool) (l y:List GC) (a0 a1:Int) (tr op cl en mo:Bool) (la0 la1 la2 er:Int) (C O:LL):Jn :=
 [(0,Obj.blk 66 [(3,Ci (xi l 0)),(4,Ci (xi l 1)),(5,Ci (xi l 2)),(6,Ci (xi l 3)),(7,Ci (xi l 4)),(8,Ci (xi l 5)),(9,Ci (xi l 6)),(10,Ci (xi l 7)),(11,Ci (xi l 8)),(12,Ci (xi l 9)),(13,Ci (xi l 10)),(14,Ci (xi l 11)),(15,Ci (xi l 12)),(16,Cb (xb l 13)),(17,Ci (xi l 14)),(18,Cb (xb l 15)),(19,Ci (xi l 16)),(20,Ci (xi l 17)),(21,Ci (xi l 18)),(22,Ci (xi l 19)),(23,Ci (xi l 20)),(24,Cb (xb l 21)),(25,Ci (xi y 0)),(26,Ci (xi y 1)),(27,Ci (xi y 2)),(28,Ci (xi y 3)),(29,Ci (xi y 4)),(30,Ci (xi y 5)),(31,Ci (xi y 6)),(32,Ci (xi y 7)),(33,Ci (xi y 8)),(34,Ci (xi y 9)),(35,Ci (xi y 10)),(36,Ci (xi y 11)),(37,Ci (xi y 12)),(38,Cb (xb y 13)),(39,Ci (xi y 14)),(40,Cb (xb y 15)),(41,Ci (xi y 16)),(42,Ci (xi y 17)),(43,Ci (xi y 18)),(44,Ci (xi y 19)),(45,Ci (xi y 20)),(46,Cb (xb y 21)),(1678,Ci (Jlb x u w ou l a0 a1)),(1679,Ci (Jle x u w ou l a0 a1)),(49,Cb tr),(50,SC.wh 1),(51,Cb op),(52,Cb cl),(53,Cb en),(54,Cb mo),(55,Ci la0),(56,Ci la1),(57,Ci la2),(1664,SC.wh 1662),(59,Ci er)]),(1662,Obj.row false 40 22 (RowC.lst 1677 Wc (j0 x u w ou l a0 a1 O))),(1,Obj.row false 40 22 (RowC.lst 60 Wc C))]
theorem Jne (x:List GC) (u w:Int) (ou:Bool) (l y:List GC) (a0 a1:Int) (tr op cl en mo:Bool) (la0 la1 la2 er:Int) (C O:LL) (hNeeds:∀ pN ∈ (JDA x u w ou l a0 a1 O),pN):Runs (Jr (JB JUW) zi 109) (kl.args (Je JJn [.v x,.i u,.i w,.b ou,.v l,.v y,.i a0,.i a1,.b tr,.b op,.b cl,.b en,.b mo,.i la0,.i la1,.i la2,.i er])) (kl.memo (Je JJn [.v x,.i u,.i w,.b ou,.v l,.v y,.i a0,.i a1,.b tr,.b op,.b cl,.b en,.b mo,.i la0,.i la1,.i la2,.i er]) [C,O]) kl.n (SV.tup []) (JmN x u w ou l y a0 a1 tr op cl en mo la0 la1 la2 er C O) :=
  Runs.of1 (ps := (JDA x u w ou l a0 a1 O)) (by kernel_rfl) hNeeds
def JW5:List Gm → Qm → Option CRes
  | [.v x,.i u,.i w,.b ou,.v l,.v y,.i a0,.i a1,.b tr,.b op,.b cl,.b en,.b mo,.i la0,.i la1,.i la2,.i er],[C,O] => some ⟨SV.tup [],[(0,Obj.blk 66 [(3,Ci (xi l 0)),(4,Ci (xi l 1)),(5,Ci (xi l 2)),(6,Ci (xi l 3)),(7,Ci (xi l 4)),(8,Ci (xi l 5)),(9,Ci (xi l 6)),(10,Ci (xi l 7)),(11,Ci (xi l 8)),(12,Ci (xi l 9)),(13,Ci (xi l 10)),(14,Ci (xi l 11)),(15,Ci (xi l 12)),(16,Cb (xb l 13)),(17,Ci (xi l 14)),(18,Cb (xb l 15)),(19,Ci (xi l 16)),(20,Ci (xi l 17)),(21,Ci (xi l 18)),(22,Ci (xi l 19)),(23,Ci (xi l 20)),(24,Cb (xb l 21)),(25,Ci (xi y 0)),(26,Ci (xi y 1)),(27,Ci (xi y 2)),(28,Ci (xi y 3)),(29,Ci (xi y 4)),(30,Ci (xi y 5)),(31,Ci (xi y 6)),(32,Ci (xi y 7)),(33,Ci (xi y 8)),(34,Ci (xi y 9)),(35,Ci (xi y 10)),(36,Ci (xi y 11)),(37,Ci (xi y 12)),(38,Cb (xb y 13)),(39,Ci (xi y 14)),(40,Cb (xb y 15)),(41,Ci (xi y 16)),(42,Ci (xi y 17)),(43,Ci (xi y 18)),(44,Ci (xi y 19)),(45,Ci (xi y 20)),(46,Cb (xb y 21)),(1678,Ci (u)),(1679,Ci (w)),(49,Cb tr),(50,SC.wh 1),(51,Cb op),(52,Cb cl),(53,Cb en),(54,Cb mo),(55,Ci la0),(56,Ci la1),(57,Ci la2),(1664,SC.wh 1662),(59,Ci er)]),(1662,Obj.row false 40 22 (RowC.lst 1677 Wc (j0 x u w ou l a0 a1 O))),(1,Obj.row false 40 22 (RowC.lst 60 Wc C))],[O.length ≤ 1000000],[],1680⟩
  | _,_ => none
theorem Jfq (x:List GC) (u w:Int) (ou:Bool) (l y:List GC) (a0 a1:Int) (tr op cl en mo:Bool) (la0 la1 la2 er:Int) (C O:LL) (hNeeds:∀ pN ∈ (JDA x u w ou l a0 a1 O),pN):Runs (Jr (JB JUW) zi 109) (kl.args (Je JJn [.v x,.i u,.i w,.b ou,.v l,.v y,.i a0,.i a1,.b tr,.b op,.b cl,.b en,.b mo,.i la0,.i la1,.i la2,.i er])) (kl.memo (Je JJn [.v x,.i u,.i w,.b ou,.v l,.v y,.i a0,.i a1,.b tr,.b op,.b cl,.b en,.b mo,.i la0,.i la1,.i la2,.i er]) [C,O]) kl.n (SV.tup [])
    ([(0,
     Obj.blk 66
     [(3,SC.int IntKind.i64 (SI.v (xi l 0))),(4,SC.int IntKind.i64 (SI.v (xi l 1))),(5,SC.int IntKind.i64 (SI.v (xi l 2))),(6,SC.int IntKind.i64 (SI.v (xi l 3))),
     (7,SC.int IntKind.i64 (SI.v (xi l 4))),(8,SC.int IntKind.i64 (SI.v (xi l 5))),(9,SC.int IntKind.i64 (SI.v (xi l 6))),(10,SC.int IntKind.i64 (SI.v (xi l 7))),
     (11,SC.int IntKind.i64 (SI.v (xi l 8))),(12,SC.int IntKind.i64 (SI.v (xi l 9))),(13,SC.int IntKind.i64 (SI.v (xi l 10))),(14,SC.int IntKind.i64 (SI.v (xi l 11))),
     (15,SC.int IntKind.i64 (SI.v (xi l 12))),(16,SC.bool (SB.v (xb l 13))),(17,SC.int IntKind.i64 (SI.v (xi l 14))),(18,SC.bool (SB.v (xb l 15))),(19,SC.int IntKind.i64 (SI.v (xi l 16))),
     (20,SC.int IntKind.i64 (SI.v (xi l 17))),(21,SC.int IntKind.i64 (SI.v (xi l 18))),(22,SC.int IntKind.i64 (SI.v (xi l 19))),(23,SC.int IntKind.i64 (SI.v (xi l 20))),
     (24,SC.bool (SB.v (xb l 21))),(25,SC.int IntKind.i64 (SI.v (xi y 0))),(26,SC.int IntKind.i64 (SI.v (xi y 1))),(27,SC.int IntKind.i64 (SI.v (xi y 2))),
     (28,SC.int IntKind.i64 (SI.v (xi y 3))),(29,SC.int IntKind.i64 (SI.v (xi y 4))),(30,SC.int IntKind.i64 (SI.v (xi y 5))),(31,SC.int IntKind.i64 (SI.v (xi y 6))),
     (32,SC.int IntKind.i64 (SI.v (xi y 7))),(33,SC.int IntKind.i64 (SI.v (xi y 8))),(34,SC.int IntKind.i64 (SI.v (xi y 9))),(35,SC.int IntKind.i64 (SI.v (xi y 10))),
     (36,SC.int IntKind.i64 (SI.v (xi y 11))),(37,SC.int IntKind.i64 (SI.v (xi y 12))),(38,SC.bool (SB.v (xb y 13))),(39,SC.int IntKind.i64 (SI.v (xi y 14))),(40,SC.bool (SB.v (xb y 15))),
     (41,SC.int IntKind.i64 (SI.v (xi y 16))),(42,SC.int IntKind.i64 (SI.v (xi y 17))),(43,SC.int IntKind.i64 (SI.v (xi y 18))),(44,SC.int IntKind.i64 (SI.v (xi y 19))),
     (45,SC.int IntKind.i64 (SI.v (xi y 20))),(46,SC.bool (SB.v (xb y 21))),(1678,SC.int IntKind.i64 (SI.v (u))),
     (1679,SC.int IntKind.i64 (SI.v (w))),(49,SC.bool (SB.v tr)),(50,SC.wh 1),(51,SC.bool (SB.v op)),(52,SC.bool (SB.v cl)),(53,SC.bool (SB.v en)),
     (54,SC.bool (SB.v mo)),(55,SC.int IntKind.i64 (SI.v la0)),(56,SC.int IntKind.i64 (SI.v la1)),(57,SC.int IntKind.i64 (SI.v la2)),(1664,SC.wh 1662),
     (59,SC.int IntKind.i64 (SI.v er))]),
    (1662,
     Obj.row false 40 22
     (RowC.lst 1677
     [CK.int IntKind.i64,CK.int IntKind.i64,CK.int IntKind.i64,CK.int IntKind.i64,CK.int IntKind.i64,CK.int IntKind.i64,CK.int IntKind.i64,CK.int IntKind.i64,CK.int IntKind.i64,
     CK.int IntKind.i64,CK.int IntKind.i64,CK.int IntKind.i64,CK.int IntKind.i64,CK.bool,CK.int IntKind.i64,CK.bool,CK.int IntKind.i64,CK.int IntKind.i64,CK.int IntKind.i64,
     CK.int IntKind.i64,CK.int IntKind.i64,CK.bool]
     (j0 x u w ou l a0 a1 O))),
    (1,
     Obj.row false 40 22
     (RowC.lst 60
     [CK.int IntKind.i64,CK.int IntKind.i64,CK.int IntKind.i64,CK.int IntKind.i64,CK.int IntKind.i64,CK.int IntKind.i64,CK.int IntKind.i64,CK.int IntKind.i64,CK.int IntKind.i64,
     CK.int IntKind.i64,CK.int IntKind.i64,CK.int IntKind.i64,CK.int IntKind.i64,CK.bool,CK.int IntKind.i64,CK.bool,CK.int IntKind.i64,CK.int IntKind.i64,CK.int IntKind.i64,
     CK.int IntKind.i64,CK.int IntKind.i64,CK.bool]
     C))]) :=
  (Jne x u w ou l y a0 a1 tr op cl en mo la0 la1 la2 er C O hNeeds).to (by first | rfl | (simp only [])) ((by simp only [JmN,Ci,Cb,Wc,Jlb,Jle,Bool.cond_self]))
theorem Jto:Qg Tryz.prog 109 (Z4 JJn kl JW5) := by
  refine QZ (JD JSw 109) fun ps ls r hr hn _ => ?_
  unfold JW5 at hr
  split at hr
  · cases hr; exact ⟨_,Jfq _ _ _ _ _ _ _ _ _ _ _ _ _ _ _ _ _ _ _ (JoX (by exact hn)),fun _ => rfl⟩
  · cases hr
def JP2:List (Nat × JY) := (109,Z4 JJn kl JW5) :: JUW
theorem JZs:Known Tryz.prog (JB JP2) zi := J7 JSw Jto
theorem Jhe (x:List GC) (u w:Int) (ou:Bool) (l:List GC) (a0 a1:Int) (O:LL):JEk O (j0 x u w ou l a0 a1 O) := by
  unfold j0
  exact .ite (.one O _) (WR ..)
def B (x:Bool):SC := .bool (.v x)
def CKi:List CK := [.int .i64,.int .i64,.int .i64,.int .i64,.int .i64,.int .i64,.int .i64,.int .i64,.int .i64,.int .i64,.int .i64,.int .i64,.int .i64,.bool,.int .i64,.bool,.int .i64,.int .i64,.int .i64,.int .i64,.int .i64,.bool]
def YM (id tag:Nat) (xs:LL):Nat × SX.Obj := (id,.row false 40 22 (.lst tag CKi xs))
def Jjl (g:Nat → Nat) (l y:List GC) (a0 a1:Int) (tr:Bool) (c:Nat) (op cl en mo:Bool) (la0 la1 la2:Int) (o:Nat) (er:Int):List (Nat × SC) :=
  [(g 0,I (xi l 0)),(g 1,I (xi l 1)),(g 2,I (xi l 2)),(g 3,I (xi l 3)),(g 4,I (xi l 4)),(g 5,I (xi l 5)),(g 6,I (xi l 6)),(g 7,I (xi l 7)),(g 8,I (xi l 8)),(g 9,I (xi l 9)),(g 10,I (xi l 10)),(g 11,I (xi l 11)),(g 12,I (xi l 12)),(g 13,B (xb l 13)),(g 14,I (xi l 14)),(g 15,B (xb l 15)),(g 16,I (xi l 16)),(g 17,I (xi l 17)),(g 18,I (xi l 18)),(g 19,I (xi l 19)),(g 20,I (xi l 20)),(g 21,B (xb l 21)),(g 22,I (xi y 0)),(g 23,I (xi y 1)),(g 24,I (xi y 2)),(g 25,I (xi y 3)),(g 26,I (xi y 4)),(g 27,I (xi y 5)),(g 28,I (xi y 6)),(g 29,I (xi y 7)),(g 30,I (xi y 8)),(g 31,I (xi y 9)),(g 32,I (xi y 10)),(g 33,I (xi y 11)),(g 34,I (xi y 12)),(g 35,B (xb y 13)),(g 36,I (xi y 14)),(g 37,B (xb y 15)),(g 38,I (xi y 16)),(g 39,I (xi y 17)),(g 40,I (xi y 18)),(g 41,I (xi y 19)),(g 42,I (xi y 20)),(g 43,B (xb y 21)),(g 44,I a0),(g 45,I a1),(g 46,B tr),(g 47,.wh c),(g 48,B op),(g 49,B cl),(g 50,B en),(g 51,B mo),(g 52,I la0),(g 53,I la1),(g 54,I la2),(g 55,.wh o),(g 56,I er)]
def JbT:List Bool → List (Nat × SC) → Option (List GC × List (Nat × SC))
  | [],r => some ([],r)
  | false :: ks,(_,.int _ x) :: r => match JbT ks r with
    | some (l,q) => some (.i x.val :: l,q)
    | none => none
  | true :: ks,(_,.bool x) :: r => match JbT ks r with
    | some (l,q) => some (.b x.val :: l,q)
    | none => none
  | _,_ => none
section
variable (l:List GC) (a0 a1:Int) (O C:LL) (j:Nat) (r:List Int)
def JTp:LL:=
  bif J5 (r.getD 0 0) then Zq (JX r) a0 a1 (J9 (xi l 8) (r.getD 2 0) (r.getD 3 0) (r.getD 4 0)) (J9 (xi l 8) (r.getD 5 0) (r.getD 6 0) (r.getD 7 0)) false (J1 l) a0 a1 O else O ++ [Jlp r]
def JGZ:LL:= (C.take j).foldl (JTp l a0 a1) O
def JWw:LL:= C.foldl (JTp l a0 a1) O
end
theorem JnY (l:List GC) (a0 a1:Int) (O C:LL) (j:Nat) (h:j < C.length):JGZ l a0 a1 O C (j + 1) = JTp l a0 a1 (JGZ l a0 a1 O C j) (C.getD j []) := by
  have e:C.getD j [] = C[j] := by simp [List.getD,List.getElem?_eq_getElem h]
  unfold JGZ
  rw [List.take_succ_eq_append_getElem h,List.foldl_append,e]
  rfl
theorem JrB (l:List GC) (a0 a1:Int) (O C:LL):JGZ l a0 a1 O C C.length = JWw l a0 a1 O C := by
  unfold JGZ; rw [List.take_length]; rfl
theorem Jsf (l:List GC) (a0 a1:Int) (O:LL) (r:List Int):JEk O (JTp l a0 a1 O r) := by
  unfold JTp
  exact .ite (WR ..) (.one O _)
theorem JWL (l:List GC) (a0 a1:Int):∀ (C O:LL),O.length ≤ (JWw l a0 a1 O C).length ∧ (JWw l a0 a1 O C).length ≤ O.length + C.length
  | [],O => ⟨Nat.le_refl _,Nat.le_refl _⟩
  | r :: C,O => by
    have h := Jsf l a0 a1 O r
    have k := JWL l a0 a1 C (JTp l a0 a1 O r)
    unfold JEk at h
    have e:JWw l a0 a1 O (r :: C) = JWw l a0 a1 (JTp l a0 a1 O r) C := rfl
    rw [e,List.length_cons]; omega
theorem JrR (l:List GC) (a0 a1:Int) (O C:LL) (j:Nat):(JGZ l a0 a1 O C j).length ≤ O.length + C.length := by
  have h := JWL l a0 a1 (C.take j) O
  have k:(C.take j).length ≤ C.length := by rw [List.length_take]; omega
  have e:JGZ l a0 a1 O C j = JWw l a0 a1 O (C.take j) := rfl
  rw [e]; omega
def JwY (k:Nat):Nat := bif Nat.beq k 44 || Nat.beq k 45 || Nat.beq k 55 then 1000000000 + k else k + 3
def Jwo (k:Nat):Nat := bif Nat.beq k 44 || Nat.beq k 45 || Nat.beq k 55 then 69 + k else k + 3
def JEG (l y:List GC) (a0 a1:Int) (tr op cl en mo:Bool) (la0 la1 la2 er:Int) (C O:LL):Fam Nat Unit where
  k := 120
  E j := [(14,ent 1000000060 (.one (I (Int.ofNat j)))),(13,ent 1000000061 (.one (I (Int.ofNat C.length)))),(12,ent 1000000062 (.one (.wh 1))),(0,ent 0 (.one (.ptr 0 0)))]
  M j := [(0,.blk 66 (Jjl JwY l y a0 a1 tr 1 op cl en mo la0 la1 la2 71 er)),YM 1 60 C,YM 71 1000000070 (JGZ l a0 a1 O C j)]
  out _ := .leaf (.exit 0) [(0,ent 0 (.one (.ptr 0 0)))] [(0,.blk 66 (Jjl Jwo l y a0 a1 tr 1 op cl en mo la0 la1 la2 71 er)),YM 1 60 C,YM 71 130 (JWw l a0 a1 O C)]
  fin _ := ()
  next j _ := j + 1
  J j := j ≤ C.length ∧ C.length ≤ 1000 ∧ O.length ≤ 900000
  μ j := C.length - j
section
variable (l y:List GC) (a0 a1:Int) (tr op cl en mo:Bool) (la0 la1 la2 er:Int) (C O:LL) (j:Nat)
def Jcj:Prop:=
 decide (Int.ofNat j < Int.ofNat C.length) = true
def JjG:Prop:=
 (!J5 ((C.getD (Int.ofNat j).toNat []).getD 0 0)) = true
def JjB:Prop:=
 (!J5 ((C.getD (Int.ofNat j).toNat []).getD 0 0)) = false
def Jqv:Prop:=
 C.length ≤ 1000 ∧ O.length ≤ 900000
def JQa:List Prop:=
 [Jcj C j → 0 ≤ Int.ofNat j ∧ (Int.ofNat j).toNat < C.length ∧ (Int.ofNat j).toNat < C.length ∧ (JjG C j → ((JGZ l a0 a1 O C j).length + 1) * 176 ≤ 140737488355328 ∧ (JGZ l a0 a1 O C j).length + 1 ≤ 9223372036854775807) ∧ (JjB C j → (JGZ l a0 a1 O C j).length ≤ 1000000),Jcj C j → (JjG C j → ((JEG l y a0 a1 tr op cl en mo la0 la1 la2 er C O).next j 0 ≤ C.length ∧ Jqv C O) ∧ (JEG l y a0 a1 tr op cl en mo la0 la1 la2 er C O).μ ((JEG l y a0 a1 tr op cl en mo la0 la1 la2 er C O).next j 0) < (JEG l y a0 a1 tr op cl en mo la0 la1 la2 er C O).μ j ∧ (JEG l y a0 a1 tr op cl en mo la0 la1 la2 er C O).fin ((JEG l y a0 a1 tr op cl en mo la0 la1 la2 er C O).next j 0) = (JEG l y a0 a1 tr op cl en mo la0 la1 la2 er C O).fin j ∧ Int.ofNat ((JEG l y a0 a1 tr op cl en mo la0 la1 la2 er C O).next j 0) = IntKind.i64.wrap (Int.ofNat j + 1) ∧ Int.ofNat C.length = Int.ofNat C.length ∧ a0 = a0 ∧ a1 = a1 ∧ JGZ l a0 a1 O C ((JEG l y a0 a1 tr op cl en mo la0 la1 la2 er C O).next j 0) = JGZ l a0 a1 O C j ++ [Jlp (C.getD (Int.ofNat j).toNat [])]) ∧ (JjB C j → ((JEG l y a0 a1 tr op cl en mo la0 la1 la2 er C O).next j 1 ≤ C.length ∧ Jqv C O) ∧ (JEG l y a0 a1 tr op cl en mo la0 la1 la2 er C O).μ ((JEG l y a0 a1 tr op cl en mo la0 la1 la2 er C O).next j 1) < (JEG l y a0 a1 tr op cl en mo la0 la1 la2 er C O).μ j ∧ (JEG l y a0 a1 tr op cl en mo la0 la1 la2 er C O).fin ((JEG l y a0 a1 tr op cl en mo la0 la1 la2 er C O).next j 1) = (JEG l y a0 a1 tr op cl en mo la0 la1 la2 er C O).fin j ∧ Int.ofNat ((JEG l y a0 a1 tr op cl en mo la0 la1 la2 er C O).next j 1) = IntKind.i64.wrap (Int.ofNat j + 1) ∧ Int.ofNat C.length = Int.ofNat C.length ∧ a0 = a0 ∧ a1 = a1 ∧ JGZ l a0 a1 O C ((JEG l y a0 a1 tr op cl en mo la0 la1 la2 er C O).next j 1) = Zq (JX (C.getD (Int.ofNat j).toNat [])) a0 a1 (J9 (xi l 8) ((C.getD (Int.ofNat j).toNat []).getD 2 0) ((C.getD (Int.ofNat j).toNat []).getD 3 0) ((C.getD (Int.ofNat j).toNat []).getD 4 0)) (J9 (xi l 8) ((C.getD (Int.ofNat j).toNat []).getD 5 0) ((C.getD (Int.ofNat j).toNat []).getD 6 0) ((C.getD (Int.ofNat j).toNat []).getD 7 0)) false (J1 l) a0 a1 (JGZ l a0 a1 O C j)),decide (Int.ofNat j < Int.ofNat C.length) = false → a0 = a0 ∧ a1 = a1 ∧ JWw l a0 a1 O C = JGZ l a0 a1 O C j]
end
theorem JnH (l y:List GC) (a0 a1:Int) (tr op cl en mo:Bool) (la0 la1 la2 er:Int) (C O:LL) (j:Nat) (hNeeds:∀ pN ∈ (JQa l y a0 a1 tr op cl en mo la0 la1 la2 er C O j),pN):Q4 (Xh (JEG l y a0 a1 tr op cl en mo la0 la1 la2 er C O) (QW Tryz.prog (JB JP2) zi 70 0) 69 j) :=
  Q4.of (ps := (JQa l y a0 a1 tr op cl en mo la0 la1 la2 er C O j)) (by kernel_rfl) (by kernel_rfl) hNeeds
theorem Ji4 (l y:List GC) (a0 a1:Int) (tr op cl en mo:Bool) (la0 la1 la2 er:Int) (C O:LL):Z1 (JEG l y a0 a1 tr op cl en mo la0 la1 la2 er C O) (QW Tryz.prog (JB JP2) zi 70 0) 69 := by
  intro j hJ
  obtain ⟨h1,h2,h3⟩:j ≤ C.length ∧ C.length ≤ 1000 ∧ O.length ≤ 900000 := hJ
  refine JnH l y a0 a1 tr op cl en mo la0 la1 la2 er C O j ?_
  unfold JQa
  have hl := JrR l a0 a1 O C j
  have lt:Jcj C j → j < C.length := by unfold Jcj; simp
  simp only [awc,awn,and_true]
  refine ⟨fun h => ⟨by simp,lt h,lt h,fun _ => ⟨by omega,by omega⟩,fun _ => by omega⟩,fun h => ?_,fun h => ?_⟩
  · have hj := lt h
    have hs := JnY l a0 a1 O C j hj
    have e6:IntKind.i64.wrap (Int.ofNat j + 1) = Int.ofNat (j + 1) := Zy (by simp; omega) (by simp; omega)
    refine ⟨fun h1 => ⟨⟨hj,h2,h3⟩,by show C.length - (j + 1) < C.length - j; omega,trivial,e6.symm,trivial,trivial,trivial,?_⟩,fun h1 => ⟨⟨hj,h2,h3⟩,by show C.length - (j + 1) < C.length - j; omega,trivial,e6.symm,trivial,trivial,trivial,?_⟩⟩
    · show JGZ l a0 a1 O C (j + 1) = _
      rw [hs]; unfold JTp
      unfold JjG at h1
      rw [show J5 ((C.getD j []).getD 0 0) = false by simpa using h1]; rfl
    · show JGZ l a0 a1 O C (j + 1) = _
      rw [hs]; unfold JTp
      unfold JjB at h1
      rw [show J5 ((C.getD j []).getD 0 0) = true by simpa using h1]; rfl
  · have:j = C.length := by simp at h; omega
    rw [this]; exact ⟨trivial,trivial,(JrB ..).symm⟩
def Jum:QG := fun env mem m => match SX.JC mem 0,SX.JC mem 1,SX.JC mem 2 with
  | some (.blk _ cs),some (.row _ _ _ (.lst _ _ C)),some (.row _ _ _ (.lst _ _ O)) => (match JbT Jx cs with
    | some (l,r) => (match JbT Jx r with
      | some (y,[(_,.int _ a0),(_,.int _ a1),(_,.bool tr),_,(_,.bool op),(_,.bool cl),(_,.bool en),(_,.bool mo),(_,.int _ la0),(_,.int _ la1),(_,.int _ la2),_,(_,.int _ er)]) => zD (JEG l y a0.val a1.val tr.val op.val cl.val en.val mo.val la0.val la1.val la2.val er.val C O) 69 (fun _ _ => some 0) env mem m
      | _ => none)
    | none => none)
  | _,_,_ => none
def Zf:FuncId → Nat → Option QG := JB6 zi 70 1 Jum
theorem JZ2:Known Tryz.prog (JB JP2) Zf := by
  refine Qf 0 JZs (by kernel_rfl) (Qs fun env mem m x h => ?_)
  unfold Jum at h
  have hlen:(QU Tryz.prog 70).length = 1 := by kernel_rfl
  split at h
  · split at h
    · split at h
      · exact ⟨_,XW (Qc X5 JZs (by omega)) (Ji4 _ _ _ _ _ _ _ _ _ _ _ _ _ _ _),h⟩
      · cases h
    · cases h
  · cases h
def kY:Tpl := ⟨[.one (.ptr 0 0)],Ks,62⟩
def JHA:List GK := [.v Jx,.v Jx,.i,.i,.b,.b,.b,.b,.b,.i,.i,.i,.i]
def QT (l:List GC) (a0 a1:Int) (C O:LL):LL :=
 JWw (J1 l) a0 a1 O C
def jj (l:List GC) (a0 a1:Int) (C O:LL):List Prop :=
 [0 ≤ C.length ∧ C.length ≤ 1000 ∧ O.length ≤ 900000,Int.ofNat 0 = 0,Int.ofNat C.length = Int.ofNat C.length,a0 = a0,a1 = a1,JGZ (J1 l) a0 a1 O C 0 = O]
theorem JdL {l:List GC} {a0:Int} {a1:Int} {C:LL} {O:LL} (hW:∀ q ∈ ([C.length ≤ 1000,O.length ≤ 900000]:List Prop),q):∀ q ∈ (jj l a0 a1 C O),q := by
  simp only [awc,awn,and_true] at hW
  unfold jj
  simp only [awc,awn,and_true]
  exact ⟨⟨Nat.zero_le _,hW⟩,rfl,trivial,trivial,trivial,rfl⟩
def JWV (l y:List GC) (a0 a1:Int) (tr op cl en mo:Bool) (la0 la1 la2 er:Int) (C O:LL):Jn :=
 [(0,Obj.blk 66 [(3,Ci (xi l 0)),(4,Ci (xi l 1)),(5,Ci (xi l 2)),(6,Ci (xi l 3)),(7,Ci (xi l 4)),(8,Ci (xi l 5)),(9,Ci (xi l 6)),(10,Ci (xi l 7)),(11,Ci (xi l 8)),(12,Ci (xi l 9)),(13,Ci (xi l 10)),(14,Ci (xi l 11)),(15,Ci (xi l 12)),(16,Cb (xb l 13)),(17,Ci (xi l 14)),(18,Cb (xb l 15)),(19,Ci (xi l 16)),(20,Ci (xi l 17)),(21,Ci (xi l 18)),(22,Ci (xi l 19)),(23,Ci (xi l 20)),(24,Cb (xb l 21)),(25,Ci (xi y 0)),(26,Ci (xi y 1)),(27,Ci (xi y 2)),(28,Ci (xi y 3)),(29,Ci (xi y 4)),(30,Ci (xi y 5)),(31,Ci (xi y 6)),(32,Ci (xi y 7)),(33,Ci (xi y 8)),(34,Ci (xi y 9)),(35,Ci (xi y 10)),(36,Ci (xi y 11)),(37,Ci (xi y 12)),(38,Cb (xb y 13)),(39,Ci (xi y 14)),(40,Cb (xb y 15)),(41,Ci (xi y 16)),(42,Ci (xi y 17)),(43,Ci (xi y 18)),(44,Ci (xi y 19)),(45,Ci (xi y 20)),(46,Cb (xb y 21)),(113,Ci a0),(114,Ci a1),(49,Cb tr),(197,SC.wh 195),(51,Cb op),(52,Cb cl),(53,Cb en),(54,Cb mo),(55,Ci la0),(56,Ci la1),(57,Ci la2),(124,SC.wh 71),(59,Ci er)]),(195,Obj.row false 40 22 (RowC.lit 196 [])),(1,Obj.row false 40 22 (RowC.lst 60 Wc C)),(71,Obj.row false 40 22 (RowC.lst 130 Wc (QT l a0 a1 C O)))]
theorem JfH (l y:List GC) (a0 a1:Int) (tr op cl en mo:Bool) (la0 la1 la2 er:Int) (C O:LL) (hNeeds:∀ pN ∈ (jj l a0 a1 C O),pN):Runs (Jr (JB JP2) Zf 70) (kY.args (Je JHA [.v l,.v y,.i a0,.i a1,.b tr,.b op,.b cl,.b en,.b mo,.i la0,.i la1,.i la2,.i er])) (kY.memo (Je JHA [.v l,.v y,.i a0,.i a1,.b tr,.b op,.b cl,.b en,.b mo,.i la0,.i la1,.i la2,.i er]) [C,O]) kY.n (SV.tup []) (JWV l y a0 a1 tr op cl en mo la0 la1 la2 er C O) :=
  Runs.of1 (ps := (jj l a0 a1 C O)) (by kernel_rfl) hNeeds
def JJZ:List Gm → Qm → Option CRes
  | [.v l,.v y,.i a0,.i a1,.b tr,.b op,.b cl,.b en,.b mo,.i la0,.i la1,.i la2,.i er],[C,O] => some ⟨SV.tup [],
 JWV l y a0 a1 tr op cl en mo la0 la1 la2 er C O,[C.length ≤ 1000,O.length ≤ 900000],[],198⟩
  | _,_ => none
theorem JjI:Qg Tryz.prog 70 (Z4 JHA kY JJZ) := by
  refine QZ (JD JZ2 70) fun ps ls r hr hn _ => ?_
  unfold JJZ at hr
  split at hr
  · cases hr; exact ⟨_,JfH _ _ _ _ _ _ _ _ _ _ _ _ _ _ _ (JdL (by exact hn)),fun _ => rfl⟩
  · cases hr
def JQD:List (Nat × JY) := (70,Z4 JHA kY JJZ) :: JP2
theorem JL1:Known Tryz.prog (JB JQD) Zf := J7 JZ2 JjI
theorem JAS (l:List GC) (a0 a1:Int) (C O:LL):(QT l a0 a1 C O).length ≤ O.length + C.length := (JWL l a0 a1 C O).2
theorem Wg {c:Bool} {a b:LL} {k:Nat} (h:a.length ≤ k) (h':b.length ≤ k):(bif c then a else b).length ≤ k := by cases c <;> assumption
def JG0:Tpl := ⟨[.one (.ptr 0 0),.agg pI],Ks,62⟩
def JO8:List GK := [.v Jx,.v Jx,.v Jx,.i,.i,.b,.b,.b,.b,.b,.i,.i,.i,.i]
section
variable (x:List GC) (C:LL) (op tr:Bool) (a0:Int) (y l:List GC)
def JMk:Int:=
 bif !JZ (J1 x) (xi x 8) (xi x 17) then 14 else 0
def Jdz:Int:=
 bif !JZ (J1 x) (xi x 8) (xi x 17) then xi l 0 else xi x 0
def JeF:Int:=
 bif !JZ (J1 x) (xi x 8) (xi x 17) then xi l 1 else xi x 1
def Jer:Int:=
 bif !JZ (J1 x) (xi x 8) (xi x 17) then xi l 2 else xi x 2
def Je7:Int:=
 bif !JZ (J1 x) (xi x 8) (xi x 17) then xi l 3 else xi x 3
def Jep:Int:=
 bif !JZ (J1 x) (xi x 8) (xi x 17) then xi l 4 else xi x 4
def Je0:Int:=
 bif !JZ (J1 x) (xi x 8) (xi x 17) then xi l 5 else xi x 5
def JdV:Int:=
 bif !JZ (J1 x) (xi x 8) (xi x 17) then xi l 6 else xi x 6
def JdE:Int:=
 bif !JZ (J1 x) (xi x 8) (xi x 17) then xi l 7 else xi x 7
def Jey:Int:=
 bif !JZ (J1 x) (xi x 8) (xi x 17) then xi l 8 else xi x 8
def JZy:Int:=
 bif !JZ (J1 x) (xi x 8) (xi x 17) then xi l 9 else xi x 9
def JY3:Int:=
 bif !JZ (J1 x) (xi x 8) (xi x 17) then xi l 10 else xi x 10
def JZE:Int:=
 bif !JZ (J1 x) (xi x 8) (xi x 17) then xi l 11 else xi x 11
def JYP:Int:=
 bif !JZ (J1 x) (xi x 8) (xi x 17) then xi l 12 else xi x 12
def JUz:Bool:=
 bif !JZ (J1 x) (xi x 8) (xi x 17) then xb l 13 else xb x 13
def JYZ:Int:=
 bif !JZ (J1 x) (xi x 8) (xi x 17) then xi l 14 else xi x 14
def JYb:Bool:=
 bif !JZ (J1 x) (xi x 8) (xi x 17) then xb l 15 else xb x 15
def JVQ:Int:=
 bif !JZ (J1 x) (xi x 8) (xi x 17) then xi l 16 else xi x 16
def JWr:Int:=
 bif !JZ (J1 x) (xi x 8) (xi x 17) then xi l 17 else xi x 17
def JY4:Int:=
 bif !JZ (J1 x) (xi x 8) (xi x 17) then xi l 18 else xi x 18
def JVh:Int:=
 bif !JZ (J1 x) (xi x 8) (xi x 17) then xi l 19 else xi x 19
def JZD:Int:=
 bif !JZ (J1 x) (xi x 8) (xi x 17) then xi l 20 else xi x 20
def JX7:Bool:=
 bif !JZ (J1 x) (xi x 8) (xi x 17) then xb l 21 else xb x 21
def JYU:Int:=
 bif !JZ (J1 x) (xi x 8) (xi x 17) then xi y 0 else 0
def JV7:Int:=
 bif !JZ (J1 x) (xi x 8) (xi x 17) then xi y 1 else 0
def JZ3:Int:=
 bif !JZ (J1 x) (xi x 8) (xi x 17) then xi y 2 else 0
def JZg:Int:=
 bif !JZ (J1 x) (xi x 8) (xi x 17) then xi y 3 else 0
def JX9:Int:=
 bif !JZ (J1 x) (xi x 8) (xi x 17) then xi y 4 else 0
def JYr:Int:=
 bif !JZ (J1 x) (xi x 8) (xi x 17) then xi y 5 else 0
def JWJ:Int:=
 bif !JZ (J1 x) (xi x 8) (xi x 17) then xi y 6 else 0
def JZH:Int:=
 bif !JZ (J1 x) (xi x 8) (xi x 17) then xi y 7 else 0
def JV4:Int:=
 bif !JZ (J1 x) (xi x 8) (xi x 17) then xi y 8 else 0
def JWT:Int:=
 bif !JZ (J1 x) (xi x 8) (xi x 17) then xi y 9 else 0
def JZw:Int:=
 bif !JZ (J1 x) (xi x 8) (xi x 17) then xi y 10 else 0
def JYw:Int:=
 bif !JZ (J1 x) (xi x 8) (xi x 17) then xi y 11 else 0
def Ja9:Int:=
 bif !JZ (J1 x) (xi x 8) (xi x 17) then xi y 12 else 0
def JVH:Bool:=
 !JZ (J1 x) (xi x 8) (xi x 17) && xb y 13
def JW9:Int:=
 bif !JZ (J1 x) (xi x 8) (xi x 17) then xi y 14 else 0
def JZl:Bool:=
 !JZ (J1 x) (xi x 8) (xi x 17) && xb y 15
def JZC:Int:=
 bif !JZ (J1 x) (xi x 8) (xi x 17) then xi y 16 else 0
def JaF:Int:=
 bif !JZ (J1 x) (xi x 8) (xi x 17) then xi y 17 else 0
def JVE:Int:=
 bif !JZ (J1 x) (xi x 8) (xi x 17) then xi y 18 else 0
def JUt:Int:=
 bif !JZ (J1 x) (xi x 8) (xi x 17) then xi y 19 else 0
def JaH:Int:=
 bif !JZ (J1 x) (xi x 8) (xi x 17) then xi y 20 else 0
def JX0:Bool:=
 !JZ (J1 x) (xi x 8) (xi x 17) && xb y 21
def JIU:Int:=
 bif !JZ (J1 x) (xi x 8) (xi x 17) then a0 else 0
def Ja7:Bool:=
 !JZ (J1 x) (xi x 8) (xi x 17) && tr
def JZW:Bool:=
 bif !JZ (J1 x) (xi x 8) (xi x 17) then op else true
def JHu:LL:=
 bif !JZ (J1 x) (xi x 8) (xi x 17) then C else []
end
def JT6 := Wc
def JpW (x l y:List GC) (a0 a1:Int) (tr op cl en mo:Bool) (la0 la1 la2 er:Int) (C O:LL) := [(0,Obj.blk 66 [(413,Ci (Jdz x l)),(414,Ci (JeF x l)),(415,Ci (Jer x l)),(416,Ci (Je7 x l)),(417,Ci (Jep x l)),(418,Ci (Je0 x l)),(419,Ci (JdV x l)),(420,Ci (JdE x l)),(421,Ci (Jey x l)),(422,Ci (JZy x l)),(423,Ci (JY3 x l)),(424,Ci (JZE x l)),(425,Ci (JYP x l)),(426,Cb (JUz x l)),(427,Ci (JYZ x l)),(428,Cb (JYb x l)),(429,Ci (JVQ x l)),(430,Ci (JWr x l)),(431,Ci (JY4 x l)),(432,Ci (JVh x l)),(433,Ci (JZD x l)),(434,Cb (JX7 x l)),(435,Ci (JYU x y)),(436,Ci (JV7 x y)),(437,Ci (JZ3 x y)),(438,Ci (JZg x y)),(439,Ci (JX9 x y)),(440,Ci (JYr x y)),(441,Ci (JWJ x y)),(442,Ci (JZH x y)),(443,Ci (JV4 x y)),(444,Ci (JWT x y)),(445,Ci (JZw x y)),(446,Ci (JYw x y)),(447,Ci (Ja9 x y)),(448,Cb (JVH x y)),(449,Ci (JW9 x y)),(450,Cb (JZl x y)),(451,Ci (JZC x y)),(452,Ci (JaF x y)),(453,Ci (JVE x y)),(454,Ci (JUt x y)),(455,Ci (JaH x y)),(456,Cb (JX0 x y)),(457,Ci (JIU x a0)),(458,Ci (JIU x a1)),(459,Cb (Ja7 x tr)),(411,SC.wh 409),(460,Cb (JZW x op)),(52,Cb cl),(53,Cb en),(54,Cb mo),(55,Ci la0),(56,Ci la1),(57,Ci la2),(58,SC.wh 2),(59,Ci er)]),(409,Obj.row false 40 22 (RowC.lst 412 JT6 (JHu x C))),(2,Obj.row false 40 22 (RowC.lst 61 JT6 O))]
theorem JlE (x l y:List GC) (a0 a1:Int) (tr op cl en mo:Bool) (la0 la1 la2 er:Int) (C O:LL):Runs (Jr (JB JQD) Zf 48) (JG0.args (Je JO8 [.v x,.v l,.v y,.i a0,.i a1,.b tr,.b op,.b cl,.b en,.b mo,.i la0,.i la1,.i la2,.i er])) (JG0.memo (Je JO8 [.v x,.v l,.v y,.i a0,.i a1,.b tr,.b op,.b cl,.b en,.b mo,.i la0,.i la1,.i la2,.i er]) [C,O]) JG0.n (SV.one (Ci (JMk x))) ((JpW x l y a0 a1 tr op cl en mo la0 la1 la2 er C O)) :=
  Runs.of1 (ps := []) (by kernel_rfl) (by simp)
def JRU:List Gm → Qm → Option CRes
  | [.v x,.v l,.v y,.i a0,.i a1,.b tr,.b op,.b cl,.b en,.b mo,.i la0,.i la1,.i la2,.i er],[C,O] => some ⟨SV.one (Ci (JMk x)),
 (JpW x l y a0 a1 tr op cl en mo la0 la1 la2 er C O),[],[],461⟩
  | _,_ => none
theorem Jqo:Qg Tryz.prog 48 (Z4 JO8 JG0 JRU) := by
  refine QZ (JD JL1 48) fun ps ls r hr hn _ => ?_
  unfold JRU at hr
  split at hr
  · cases hr; exact ⟨_,JlE _ _ _ _ _ _ _ _ _ _ _ _ _ _ _ _,fun _ => rfl⟩
  · cases hr
def Jd8:List (Nat × JY) := (48,Z4 JO8 JG0 JRU) :: JQD
theorem JSh:Known Tryz.prog (JB Jd8) Zf := J7 JL1 Jqo
def JFX:Tpl := ⟨[.one (.ptr 0 0),.agg pI],Ks,62⟩
def JOL:List GK := [.v Jx,.v Jx,.v Jx,.i,.i,.b,.b,.b,.b,.b,.i,.i,.i,.i]
section
variable (x l:List GC) (C O:LL) (a1 a0:Int) (y:List GC) (q0:Nat)
def JO4:Int:=
 Qk (J3 (xi l 8) (xi x 2) (xi x 3) (xi x 4)) (J4 (xi l 8) (xi x 2) (xi x 3) (xi x 4)) (J3 (xi l 8) (xi x 5) (xi x 6) (xi x 7)) (J4 (xi l 8) (xi x 5) (xi x 6) (xi x 7)) (bif xi x 0 == 3 then J3 (xi l 8) (xi x 9) (xi x 10) (xi x 11) else 0) (bif xi x 0 == 3 then J4 (xi l 8) (xi x 9) (xi x 10) (xi x 11) else 0) (bif xi x 0 == 3 then xi x 12 else 0) (IntKind.i64.wrap (xi l 16 * xi l 17))
def JO5:Int:=
 bif JO4 x l != 0 then JO4 x l else 0
def Zm:Int:=
 bif Qk (J3 (xi l 8) (xi x 2) (xi x 3) (xi x 4)) (J4 (xi l 8) (xi x 2) (xi x 3) (xi x 4)) (J3 (xi l 8) (xi x 5) (xi x 6) (xi x 7)) (J4 (xi l 8) (xi x 5) (xi x 6) (xi x 7)) (bif xi x 0 == 3 then J3 (xi l 8) (xi x 9) (xi x 10) (xi x 11) else 0) (bif xi x 0 == 3 then J4 (xi l 8) (xi x 9) (xi x 10) (xi x 11) else 0) (bif xi x 0 == 3 then xi x 12 else 0) (IntKind.i64.wrap (xi l 16 * xi l 17)) != 0 then xi y q0 else xi x q0
def JYJ:Int:= Zm x l y 0
def JYo:Int:= Zm x l y 1
def JZq:Int:= Zm x l y 2
def JXT:Int:= Zm x l y 3
def JXk:Int:= Zm x l y 4
def JXh:Int:= Zm x l y 5
def JWq:Int:= Zm x l y 6
def JWj:Int:= Zm x l y 7
def JYu:Int:= Zm x l y 8
def JXP:Int:= Zm x l y 9
def JZa:Int:= Zm x l y 10
def JX6:Int:= Zm x l y 11
def JVI:Int:= Zm x l y 12
def JOm:Bool:=
 bif Qk (J3 (xi l 8) (xi x 2) (xi x 3) (xi x 4)) (J4 (xi l 8) (xi x 2) (xi x 3) (xi x 4)) (J3 (xi l 8) (xi x 5) (xi x 6) (xi x 7)) (J4 (xi l 8) (xi x 5) (xi x 6) (xi x 7)) (bif xi x 0 == 3 then J3 (xi l 8) (xi x 9) (xi x 10) (xi x 11) else 0) (bif xi x 0 == 3 then J4 (xi l 8) (xi x 9) (xi x 10) (xi x 11) else 0) (bif xi x 0 == 3 then xi x 12 else 0) (IntKind.i64.wrap (xi l 16 * xi l 17)) != 0 then xb y q0 else xb x q0
def JYt:Bool:= JOm x l y 13
def JWa:Int:= Zm x l y 14
def JUu:Bool:= JOm x l y 15
def JWv:Int:= Zm x l y 16
def JZO:Int:= Zm x l y 17
def JYL:Int:= Zm x l y 18
def JXW:Int:= Zm x l y 19
def JXd:Int:= Zm x l y 20
def JZK:Bool:= JOm x l y 21
def Y8:Int:=
 bif xi x 0 == 3 then J3 (xi l 8) (xi x 9) (xi x 10) (xi x 11) else 0
def Y3:Int:=
 bif xi x 0 == 3 then J4 (xi l 8) (xi x 9) (xi x 10) (xi x 11) else 0
def Y5:Int:=
 bif xi x 0 == 3 then xi x 12 else 0
def JYe:Int:=
 bif Qk (J3 (xi l 8) (xi x 2) (xi x 3) (xi x 4)) (J4 (xi l 8) (xi x 2) (xi x 3) (xi x 4)) (J3 (xi l 8) (xi x 5) (xi x 6) (xi x 7)) (J4 (xi l 8) (xi x 5) (xi x 6) (xi x 7)) (Y8 x l) (Y3 x l) (Y5 x) (IntKind.i64.wrap (xi l 16 * xi l 17)) != 0 then a0 else XM (J3 (xi l 8) (xi x 2) (xi x 3) (xi x 4)) (J4 (xi l 8) (xi x 2) (xi x 3) (xi x 4)) (J3 (xi l 8) (xi x 5) (xi x 6) (xi x 7)) (J4 (xi l 8) (xi x 5) (xi x 6) (xi x 7)) (Y8 x l) (Y3 x l) (Y5 x) (IntKind.i64.wrap (xi l 16 * xi l 17))
def JVt:Int:=
 bif Qk (J3 (xi l 8) (xi x 2) (xi x 3) (xi x 4)) (J4 (xi l 8) (xi x 2) (xi x 3) (xi x 4)) (J3 (xi l 8) (xi x 5) (xi x 6) (xi x 7)) (J4 (xi l 8) (xi x 5) (xi x 6) (xi x 7)) (Y8 x l) (Y3 x l) (Y5 x) (IntKind.i64.wrap (xi l 16 * xi l 17)) != 0 then a1 else XJ (J3 (xi l 8) (xi x 2) (xi x 3) (xi x 4)) (J4 (xi l 8) (xi x 2) (xi x 3) (xi x 4)) (J3 (xi l 8) (xi x 5) (xi x 6) (xi x 7)) (J4 (xi l 8) (xi x 5) (xi x 6) (xi x 7)) (Y8 x l) (Y3 x l) (Y5 x) (IntKind.i64.wrap (xi l 16 * xi l 17))
def JMp:Int:=
 XM (J3 (xi l 8) (xi x 2) (xi x 3) (xi x 4)) (J4 (xi l 8) (xi x 2) (xi x 3) (xi x 4)) (J3 (xi l 8) (xi x 5) (xi x 6) (xi x 7)) (J4 (xi l 8) (xi x 5) (xi x 6) (xi x 7)) (Y8 x l) (Y3 x l) (Y5 x) (IntKind.i64.wrap (xi l 16 * xi l 17))
def JN9:Int:=
 XJ (J3 (xi l 8) (xi x 2) (xi x 3) (xi x 4)) (J4 (xi l 8) (xi x 2) (xi x 3) (xi x 4)) (J3 (xi l 8) (xi x 5) (xi x 6) (xi x 7)) (J4 (xi l 8) (xi x 5) (xi x 6) (xi x 7)) (Y8 x l) (Y3 x l) (Y5 x) (IntKind.i64.wrap (xi l 16 * xi l 17))
def JFM:LL:=
 bif Qk (J3 (xi l 8) (xi x 2) (xi x 3) (xi x 4)) (J4 (xi l 8) (xi x 2) (xi x 3) (xi x 4)) (J3 (xi l 8) (xi x 5) (xi x 6) (xi x 7)) (J4 (xi l 8) (xi x 5) (xi x 6) (xi x 7)) (Y8 x l) (Y3 x l) (Y5 x) (IntKind.i64.wrap (xi l 16 * xi l 17)) != 0 then O else QT (J1 l) (JMp x l) (JN9 x l) C (Zq (J1 l) (JMp x l) (JN9 x l) (J9 (xi l 8) (xi l 2) (xi l 3) (xi l 4)) (J9 (xi l 8) (xi l 2) (xi l 3) (xi l 4)) true (J1 l) (J3 (xi l 8) (xi l 2) (xi l 3) (xi l 4)) (J4 (xi l 8) (xi l 2) (xi l 3) (xi l 4)) O)
def JIa:LL:=
 bif Qk (J3 (xi l 8) (xi x 2) (xi x 3) (xi x 4)) (J4 (xi l 8) (xi x 2) (xi x 3) (xi x 4)) (J3 (xi l 8) (xi x 5) (xi x 6) (xi x 7)) (J4 (xi l 8) (xi x 5) (xi x 6) (xi x 7)) (bif xi x 0 == 3 then J3 (xi l 8) (xi x 9) (xi x 10) (xi x 11) else 0) (bif xi x 0 == 3 then J4 (xi l 8) (xi x 9) (xi x 10) (xi x 11) else 0) (bif xi x 0 == 3 then xi x 12 else 0) (IntKind.i64.wrap (xi l 16 * xi l 17)) != 0 then C else []
def JEB:List Prop:=
 [(Qk (J3 (xi l 8) (xi x 2) (xi x 3) (xi x 4)) (J4 (xi l 8) (xi x 2) (xi x 3) (xi x 4)) (J3 (xi l 8) (xi x 5) (xi x 6) (xi x 7)) (J4 (xi l 8) (xi x 5) (xi x 6) (xi x 7)) (Y8 x l) (Y3 x l) (Y5 x) (IntKind.i64.wrap (xi l 16 * xi l 17)) != 0) = false → O.length ≤ 1000000 ∧ C.length ≤ 1000 ∧ (Zq (J1 l) (XM (J3 (xi l 8) (xi x 2) (xi x 3) (xi x 4)) (J4 (xi l 8) (xi x 2) (xi x 3) (xi x 4)) (J3 (xi l 8) (xi x 5) (xi x 6) (xi x 7)) (J4 (xi l 8) (xi x 5) (xi x 6) (xi x 7)) (Y8 x l) (Y3 x l) (Y5 x) (IntKind.i64.wrap (xi l 16 * xi l 17))) (XJ (J3 (xi l 8) (xi x 2) (xi x 3) (xi x 4)) (J4 (xi l 8) (xi x 2) (xi x 3) (xi x 4)) (J3 (xi l 8) (xi x 5) (xi x 6) (xi x 7)) (J4 (xi l 8) (xi x 5) (xi x 6) (xi x 7)) (Y8 x l) (Y3 x l) (Y5 x) (IntKind.i64.wrap (xi l 16 * xi l 17))) (J9 (xi l 8) (xi l 2) (xi l 3) (xi l 4)) (J9 (xi l 8) (xi l 2) (xi l 3) (xi l 4)) true (J1 l) (J3 (xi l 8) (xi l 2) (xi l 3) (xi l 4)) (J4 (xi l 8) (xi l 2) (xi l 3) (xi l 4)) O).length ≤ 900000]
end
theorem Jk9 {x:List GC} {l:List GC} {C:LL} {O:LL} (hW:∀ q ∈ ([C.length ≤ 1000,O.length ≤ 800000]:List Prop),q):∀ q ∈ (JEB x l C O),q := by
  simp only [awc,awn,and_true] at hW
  unfold JEB
  simp only [awc,awn,and_true]
  obtain ⟨h1,h2⟩ := hW
  refine fun _ => ⟨by omega,h1,?_⟩
  refine Nat.le_trans (WR ..).2 (by omega)
def JrS (l x y:List GC) (a0 a1:Int) (tr op cl en mo:Bool) (la0 la1 la2 er:Int) (C O:LL) := [(0,Obj.blk 66 [(3,Ci (xi l 0)),(4,Ci (xi l 1)),(5,Ci (xi l 2)),(6,Ci (xi l 3)),(7,Ci (xi l 4)),(8,Ci (xi l 5)),(9,Ci (xi l 6)),(10,Ci (xi l 7)),(11,Ci (xi l 8)),(12,Ci (xi l 9)),(13,Ci (xi l 10)),(14,Ci (xi l 11)),(15,Ci (xi l 12)),(16,Cb (xb l 13)),(17,Ci (xi l 14)),(18,Cb (xb l 15)),(19,Ci (xi l 16)),(20,Ci (xi l 17)),(21,Ci (xi l 18)),(22,Ci (xi l 19)),(23,Ci (xi l 20)),(24,Cb (xb l 21)),(12673,Ci (JYJ x l y)),(12674,Ci (JYo x l y)),(12675,Ci (JZq x l y)),(12676,Ci (JXT x l y)),(12677,Ci (JXk x l y)),(12678,Ci (JXh x l y)),(12679,Ci (JWq x l y)),(12680,Ci (JWj x l y)),(12681,Ci (JYu x l y)),(12682,Ci (JXP x l y)),(12683,Ci (JZa x l y)),(12684,Ci (JX6 x l y)),(12685,Ci (JVI x l y)),(12686,Cb (JYt x l y)),(12687,Ci (JWa x l y)),(12688,Cb (JUu x l y)),(12689,Ci (JWv x l y)),(12690,Ci (JZO x l y)),(12691,Ci (JYL x l y)),(12692,Ci (JXW x l y)),(12693,Ci (JXd x l y)),(12694,Cb (JZK x l y)),(12695,Ci (JYe x l a0)),(12696,Ci (JVt x l a1)),(49,Cb tr),(12667,SC.wh 12665),(51,Cb op),(52,Cb cl),(53,Cb en),(54,Cb mo),(55,Ci la0),(56,Ci la1),(57,Ci la2),(12670,SC.wh 12668),(59,Ci er)]),(12668,Obj.row false 40 22 (RowC.lst 12672 JT6 (JFM x l C O))),(12665,Obj.row false 40 22 (RowC.lst 12671 JT6 (JIa x l C)))]
theorem Ji8 (x l y:List GC) (a0 a1:Int) (tr op cl en mo:Bool) (la0 la1 la2 er:Int) (C O:LL) (hNeeds:∀ pN ∈ (JEB x l C O),pN):Runs (Jr (JB Jd8) Zf 74) (JFX.args (Je JOL [.v x,.v l,.v y,.i a0,.i a1,.b tr,.b op,.b cl,.b en,.b mo,.i la0,.i la1,.i la2,.i er])) (JFX.memo (Je JOL [.v x,.v l,.v y,.i a0,.i a1,.b tr,.b op,.b cl,.b en,.b mo,.i la0,.i la1,.i la2,.i er]) [C,O]) JFX.n (SV.one (Ci (JO5 x l))) ((JrS l x y a0 a1 tr op cl en mo la0 la1 la2 er C O)) :=
  Runs.of1 (ps := (JEB x l C O)) (by kernel_rfl) hNeeds
def JRt:List Gm → Qm → Option CRes
  | [.v x,.v l,.v y,.i a0,.i a1,.b tr,.b op,.b cl,.b en,.b mo,.i la0,.i la1,.i la2,.i er],[C,O] => some ⟨SV.one (Ci (JO5 x l)),
 (JrS l x y a0 a1 tr op cl en mo la0 la1 la2 er C O),[C.length ≤ 1000,O.length ≤ 800000],[],12697⟩
  | _,_ => none
theorem Jt1:Qg Tryz.prog 74 (Z4 JOL JFX JRt) := by
  refine QZ (JD JSh 74) fun ps ls r hr hn _ => ?_
  unfold JRt at hr
  split at hr
  · cases hr; exact ⟨_,Ji8 _ _ _ _ _ _ _ _ _ _ _ _ _ _ _ _ (Jk9 (by exact hn)),fun _ => rfl⟩
  · cases hr
def JcO:List (Nat × JY) := (74,Z4 JOL JFX JRt) :: Jd8
theorem JSJ:Known Tryz.prog (JB JcO) Zf := J7 JSh Jt1
def JHr:Tpl := ⟨[.one (.ptr 0 0),.agg pI],Ks,62⟩
def JUX:List GK := [.v Jx,.v Jx,.v Jx,.i,.i,.b,.b,.b,.b,.b,.i,.i,.i,.i]
section
variable (x l y:List GC)
def X6:Int:=
 bif xi y 0 == 3 then J3 (xi l 8) (xi y 9) (xi y 10) (xi y 11) else 0
def X7:Int:=
 bif xi y 0 == 3 then J4 (xi l 8) (xi y 9) (xi y 10) (xi y 11) else 0
def Qi:Int:=
 bif xi y 0 == 3 then xi y 12 else 0
def YL:Bool:=
 xi y 0 == 3 && xb y 13
def KZ:Int:=
 bif xi x 0 == 3 then J3 (xi l 8) (xi x 9) (xi x 10) (xi x 11) else 0
def Kb:Int:=
 bif xi x 0 == 3 then J4 (xi l 8) (xi x 9) (xi x 10) (xi x 11) else 0
def Zd:Int:=
 JQS (J3 (xi l 8) (xi y 2) (xi y 3) (xi y 4)) (J4 (xi l 8) (xi y 2) (xi y 3) (xi y 4)) (J3 (xi l 8) (xi y 5) (xi y 6) (xi y 7)) (J4 (xi l 8) (xi y 5) (xi y 6) (xi y 7)) (X6 l y) (X7 l y) (Qi y) (YL y) (J3 (xi l 8) (xi x 2) (xi x 3) (xi x 4)) (J4 (xi l 8) (xi x 2) (xi x 3) (xi x 4)) (J3 (xi l 8) (xi x 5) (xi x 6) (xi x 7)) (J4 (xi l 8) (xi x 5) (xi x 6) (xi x 7)) (KZ x l) (Kb x l) (Qi x) (YL x) (IntKind.i64.wrap (xi l 16 * xi l 17))
end
def JCg (l y x:List GC) := JMK (J3 (xi l 8) (xi y 2) (xi y 3) (xi y 4)) (J4 (xi l 8) (xi y 2) (xi y 3) (xi y 4)) (J3 (xi l 8) (xi y 5) (xi y 6) (xi y 7)) (J4 (xi l 8) (xi y 5) (xi y 6) (xi y 7)) (X6 l y) (X7 l y) (Qi y) (YL y) (J3 (xi l 8) (xi x 2) (xi x 3) (xi x 4)) (J4 (xi l 8) (xi x 2) (xi x 3) (xi x 4)) (J3 (xi l 8) (xi x 5) (xi x 6) (xi x 7)) (J4 (xi l 8) (xi x 5) (xi x 6) (xi x 7)) (KZ x l) (Kb x l) (Qi x) (YL x) (IntKind.i64.wrap (xi l 16 * xi l 17))
def JD9 (l y x:List GC) := JMe (J3 (xi l 8) (xi y 2) (xi y 3) (xi y 4)) (J4 (xi l 8) (xi y 2) (xi y 3) (xi y 4)) (J3 (xi l 8) (xi y 5) (xi y 6) (xi y 7)) (J4 (xi l 8) (xi y 5) (xi y 6) (xi y 7)) (X6 l y) (X7 l y) (Qi y) (YL y) (J3 (xi l 8) (xi x 2) (xi x 3) (xi x 4)) (J4 (xi l 8) (xi x 2) (xi x 3) (xi x 4)) (J3 (xi l 8) (xi x 5) (xi x 6) (xi x 7)) (J4 (xi l 8) (xi x 5) (xi x 6) (xi x 7)) (KZ x l) (Kb x l) (Qi x) (YL x) (IntKind.i64.wrap (xi l 16 * xi l 17))
section
variable (x l y:List GC) (a0 a1:Int) (tr:Bool)
def JJy:Int:=
 Q7 (JCg l y x) (JD9 l y x) true (J1 l) (J1 y) a0 a1 tr
def JEs:Int:=
 Qk (J3 (xi l 8) (xi y 2) (xi y 3) (xi y 4)) (J4 (xi l 8) (xi y 2) (xi y 3) (xi y 4)) (J3 (xi l 8) (xi y 5) (xi y 6) (xi y 7)) (J4 (xi l 8) (xi y 5) (xi y 6) (xi y 7)) (X6 l y) (X7 l y) (Qi y) (IntKind.i64.wrap (xi l 16 * xi l 17))
def Qy:Int:=
 Qk (J3 (xi l 8) (xi x 2) (xi x 3) (xi x 4)) (J4 (xi l 8) (xi x 2) (xi x 3) (xi x 4)) (J3 (xi l 8) (xi x 5) (xi x 6) (xi x 7)) (J4 (xi l 8) (xi x 5) (xi x 6) (xi x 7)) (KZ x l) (Kb x l) (Qi x) (IntKind.i64.wrap (xi l 16 * xi l 17))
end
def JCe (l y:List GC) := Xc (J3 (xi l 8) (xi y 2) (xi y 3) (xi y 4)) (J4 (xi l 8) (xi y 2) (xi y 3) (xi y 4)) (J3 (xi l 8) (xi y 5) (xi y 6) (xi y 7)) (J4 (xi l 8) (xi y 5) (xi y 6) (xi y 7)) (X6 l y) (X7 l y) (Qi y) (IntKind.i64.wrap (xi l 16 * xi l 17))
def JCY (l y:List GC) := Xd (J3 (xi l 8) (xi y 2) (xi y 3) (xi y 4)) (J4 (xi l 8) (xi y 2) (xi y 3) (xi y 4)) (J3 (xi l 8) (xi y 5) (xi y 6) (xi y 7)) (J4 (xi l 8) (xi y 5) (xi y 6) (xi y 7)) (X6 l y) (X7 l y) (Qi y) (IntKind.i64.wrap (xi l 16 * xi l 17))
def JFo (l y:List GC) (a0 a1:Int) (tr:Bool):Int :=
 Q7 (JCe l y) (JCY l y) false (J1 l) (J1 y) a0 a1 tr
def Yu (l y x:List GC) := bif IntKind.i64.wrap (xi l 16 * xi l 17) == 0 then 0 else JBz (Z2 (xi y 0) (xi y 2) (xi y 3) (xi y 4) (xi y 5) (xi y 6) (xi y 7) (xi y 8) (xi y 9) (xi y 10) (xi y 11) (xi y 12) true) (Z3 (xi y 0) (xi y 2) (xi y 3) (xi y 4) (xi y 5) (xi y 6) (xi y 7) (xi y 8) (xi y 9) (xi y 10) (xi y 11) (xi y 12) true) (Z2 (xi x 0) (xi x 2) (xi x 3) (xi x 4) (xi x 5) (xi x 6) (xi x 7) (xi x 8) (xi x 9) (xi x 10) (xi x 11) (xi x 12) false) (Z3 (xi x 0) (xi x 2) (xi x 3) (xi x 4) (xi x 5) (xi x 6) (xi x 7) (xi x 8) (xi x 9) (xi x 10) (xi x 11) (xi x 12) false) (xi l 16)
section
variable (x l y:List GC) (a0 a1:Int) (tr:Bool) (C O:LL) (q0:Nat)
def JM1:Int:=
 bif (Yu l y x) == 2 then bif Zd x l y == 0 then bif JJy x l y a0 a1 tr != 0 then JJy x l y a0 a1 tr else 0 else bif Zd x l y != 0 then Zd x l y else 0 else bif JEs l y != 0 then JEs l y else bif Qy x l == 0 then bif JFo l y a0 a1 tr != 0 then JFo l y a0 a1 tr else 0 else bif Qy x l != 0 then Qy x l else 0
def XH:Int:=
 bif (Yu l y x) == 2 then bif Zd x l y == 0 then bif Q7 (JCg l y x) (JD9 l y x) true (J1 l) (J1 y) a0 a1 tr != 0 then xi y q0 else xi x q0 else bif Zd x l y != 0 then xi y q0 else xi x q0 else bif Qk (J3 (xi l 8) (xi y 2) (xi y 3) (xi y 4)) (J4 (xi l 8) (xi y 2) (xi y 3) (xi y 4)) (J3 (xi l 8) (xi y 5) (xi y 6) (xi y 7)) (J4 (xi l 8) (xi y 5) (xi y 6) (xi y 7)) (X6 l y) (X7 l y) (Qi y) (IntKind.i64.wrap (xi l 16 * xi l 17)) != 0 then xi y q0 else bif Qy x l == 0 then bif Q7 (JCe l y) (JCY l y) false (J1 l) (J1 y) a0 a1 tr != 0 then xi y q0 else xi x q0 else bif Qy x l != 0 then xi y q0 else xi x q0
def JUC:Int:= XH x l y a0 a1 tr 0
def JUG:Int:= XH x l y a0 a1 tr 1
def JUT:Int:= XH x l y a0 a1 tr 2
def JUf:Int:= XH x l y a0 a1 tr 3
def JUB:Int:= XH x l y a0 a1 tr 4
def JU7:Int:= XH x l y a0 a1 tr 5
def JU1:Int:= XH x l y a0 a1 tr 6
def JU4:Int:= XH x l y a0 a1 tr 7
def JU6:Int:= XH x l y a0 a1 tr 8
def JUR:Int:= XH x l y a0 a1 tr 9
def JUZ:Int:= XH x l y a0 a1 tr 10
def JUh:Int:= XH x l y a0 a1 tr 11
def JUH:Int:= XH x l y a0 a1 tr 12
def JNT:Bool:=
 bif (Yu l y x) == 2 then bif Zd x l y == 0 then bif Q7 (JCg l y x) (JD9 l y x) true (J1 l) (J1 y) a0 a1 tr != 0 then xb y q0 else xb x q0 else bif Zd x l y != 0 then xb y q0 else xb x q0 else bif Qk (J3 (xi l 8) (xi y 2) (xi y 3) (xi y 4)) (J4 (xi l 8) (xi y 2) (xi y 3) (xi y 4)) (J3 (xi l 8) (xi y 5) (xi y 6) (xi y 7)) (J4 (xi l 8) (xi y 5) (xi y 6) (xi y 7)) (X6 l y) (X7 l y) (Qi y) (IntKind.i64.wrap (xi l 16 * xi l 17)) != 0 then xb y q0 else bif Qy x l == 0 then bif Q7 (JCe l y) (JCY l y) false (J1 l) (J1 y) a0 a1 tr != 0 then xb y q0 else xb x q0 else bif Qy x l != 0 then xb y q0 else xb x q0
def JUo:Bool:= JNT x l y a0 a1 tr 13
def JUj:Int:= XH x l y a0 a1 tr 14
def JU5:Bool:= JNT x l y a0 a1 tr 15
def JUQ:Int:= XH x l y a0 a1 tr 16
def JUD:Int:= XH x l y a0 a1 tr 17
def JUm:Int:= XH x l y a0 a1 tr 18
def JUg:Int:= XH x l y a0 a1 tr 19
def JUe:Int:= XH x l y a0 a1 tr 20
def JUU:Bool:= JNT x l y a0 a1 tr 21
def Xn:Int:=
 JMK (J3 (xi l 8) (xi y 2) (xi y 3) (xi y 4)) (J4 (xi l 8) (xi y 2) (xi y 3) (xi y 4)) (J3 (xi l 8) (xi y 5) (xi y 6) (xi y 7)) (J4 (xi l 8) (xi y 5) (xi y 6) (xi y 7)) (X6 l y) (X7 l y) (Qi y) (YL y) (J3 (xi l 8) (xi x 2) (xi x 3) (xi x 4)) (J4 (xi l 8) (xi x 2) (xi x 3) (xi x 4)) (J3 (xi l 8) (xi x 5) (xi x 6) (xi x 7)) (J4 (xi l 8) (xi x 5) (xi x 6) (xi x 7)) (KZ x l) (Kb x l) (Qi x) (YL x) (IntKind.i64.wrap (xi l 16 * xi l 17))
def Xp:Int:=
 JMe (J3 (xi l 8) (xi y 2) (xi y 3) (xi y 4)) (J4 (xi l 8) (xi y 2) (xi y 3) (xi y 4)) (J3 (xi l 8) (xi y 5) (xi y 6) (xi y 7)) (J4 (xi l 8) (xi y 5) (xi y 6) (xi y 7)) (X6 l y) (X7 l y) (Qi y) (YL y) (J3 (xi l 8) (xi x 2) (xi x 3) (xi x 4)) (J4 (xi l 8) (xi x 2) (xi x 3) (xi x 4)) (J3 (xi l 8) (xi x 5) (xi x 6) (xi x 7)) (J4 (xi l 8) (xi x 5) (xi x 6) (xi x 7)) (KZ x l) (Kb x l) (Qi x) (YL x) (IntKind.i64.wrap (xi l 16 * xi l 17))
def Zn:Int:=
 Xc (J3 (xi l 8) (xi y 2) (xi y 3) (xi y 4)) (J4 (xi l 8) (xi y 2) (xi y 3) (xi y 4)) (J3 (xi l 8) (xi y 5) (xi y 6) (xi y 7)) (J4 (xi l 8) (xi y 5) (xi y 6) (xi y 7)) (X6 l y) (X7 l y) (Qi y) (IntKind.i64.wrap (xi l 16 * xi l 17))
def Zp:Int:=
 Xd (J3 (xi l 8) (xi y 2) (xi y 3) (xi y 4)) (J4 (xi l 8) (xi y 2) (xi y 3) (xi y 4)) (J3 (xi l 8) (xi y 5) (xi y 6) (xi y 7)) (J4 (xi l 8) (xi y 5) (xi y 6) (xi y 7)) (X6 l y) (X7 l y) (Qi y) (IntKind.i64.wrap (xi l 16 * xi l 17))
def JG9:Int:=
 XM (J3 (xi l 8) (xi x 2) (xi x 3) (xi x 4)) (J4 (xi l 8) (xi x 2) (xi x 3) (xi x 4)) (J3 (xi l 8) (xi x 5) (xi x 6) (xi x 7)) (J4 (xi l 8) (xi x 5) (xi x 6) (xi x 7)) (KZ x l) (Kb x l) (Qi x) (IntKind.i64.wrap (xi l 16 * xi l 17))
def JUS:Int:=
 bif (Yu l y x) == 2 then bif Zd x l y == 0 then bif Q7 (Xn x l y) (Xp x l y) true (J1 l) (J1 y) a0 a1 tr != 0 then KP (Xn x l y) (Xp x l y) true (J1 l) (J1 y) a0 a1 tr else KP (Xn x l y) (Xp x l y) true (J1 l) (J1 y) a0 a1 tr else bif Zd x l y != 0 then a0 else a0 else bif Qk (J3 (xi l 8) (xi y 2) (xi y 3) (xi y 4)) (J4 (xi l 8) (xi y 2) (xi y 3) (xi y 4)) (J3 (xi l 8) (xi y 5) (xi y 6) (xi y 7)) (J4 (xi l 8) (xi y 5) (xi y 6) (xi y 7)) (X6 l y) (X7 l y) (Qi y) (IntKind.i64.wrap (xi l 16 * xi l 17)) != 0 then a0 else bif Qy x l == 0 then bif Q7 (Zn l y) (Zp l y) false (J1 l) (J1 y) a0 a1 tr != 0 then KP (Zn l y) (Zp l y) false (J1 l) (J1 y) a0 a1 tr else JG9 x l else bif Qy x l != 0 then a0 else JG9 x l
def JGF:Int:=
 XJ (J3 (xi l 8) (xi x 2) (xi x 3) (xi x 4)) (J4 (xi l 8) (xi x 2) (xi x 3) (xi x 4)) (J3 (xi l 8) (xi x 5) (xi x 6) (xi x 7)) (J4 (xi l 8) (xi x 5) (xi x 6) (xi x 7)) (KZ x l) (Kb x l) (Qi x) (IntKind.i64.wrap (xi l 16 * xi l 17))
def JUk:Int:=
 bif (Yu l y x) == 2 then bif Zd x l y == 0 then bif Q7 (Xn x l y) (Xp x l y) true (J1 l) (J1 y) a0 a1 tr != 0 then KK (Xn x l y) (Xp x l y) true (J1 l) (J1 y) a0 a1 tr else KK (Xn x l y) (Xp x l y) true (J1 l) (J1 y) a0 a1 tr else bif Zd x l y != 0 then a1 else a1 else bif Qk (J3 (xi l 8) (xi y 2) (xi y 3) (xi y 4)) (J4 (xi l 8) (xi y 2) (xi y 3) (xi y 4)) (J3 (xi l 8) (xi y 5) (xi y 6) (xi y 7)) (J4 (xi l 8) (xi y 5) (xi y 6) (xi y 7)) (X6 l y) (X7 l y) (Qi y) (IntKind.i64.wrap (xi l 16 * xi l 17)) != 0 then a1 else bif Qy x l == 0 then bif Q7 (Zn l y) (Zp l y) false (J1 l) (J1 y) a0 a1 tr != 0 then KK (Zn l y) (Zp l y) false (J1 l) (J1 y) a0 a1 tr else JGF x l else bif Qy x l != 0 then a1 else JGF x l
def JUa:Bool:=
 bif (Yu l y x) == 2 then bif Zd x l y == 0 then bif Q7 (JCg l y x) (JD9 l y x) true (J1 l) (J1 y) a0 a1 tr != 0 then tr else true else bif Zd x l y != 0 then tr else true else bif Qk (J3 (xi l 8) (xi y 2) (xi y 3) (xi y 4)) (J4 (xi l 8) (xi y 2) (xi y 3) (xi y 4)) (J3 (xi l 8) (xi y 5) (xi y 6) (xi y 7)) (J4 (xi l 8) (xi y 5) (xi y 6) (xi y 7)) (X6 l y) (X7 l y) (Qi y) (IntKind.i64.wrap (xi l 16 * xi l 17)) != 0 then tr else bif Qy x l == 0 then Q7 (JCe l y) (JCY l y) false (J1 l) (J1 y) a0 a1 tr != 0 && tr else Qy x l != 0 && tr
def JFv:LL:=
 Zj (Xn x l y) (Xp x l y) true (J1 l) (J1 y) a0 a1 tr O
def JDZ:LL:=
 bif (Yu l y x) == 2 then bif Zd x l y == 0 then bif Q7 (Xn x l y) (Xp x l y) true (J1 l) (J1 y) a0 a1 tr != 0 then JFv x l y a0 a1 tr O else QT (J1 l) (KP (Xn x l y) (Xp x l y) true (J1 l) (J1 y) a0 a1 tr) (KK (Xn x l y) (Xp x l y) true (J1 l) (J1 y) a0 a1 tr) C (JFv x l y a0 a1 tr O) else bif Zd x l y != 0 then O else QT (J1 l) a0 a1 C O else bif Qk (J3 (xi l 8) (xi y 2) (xi y 3) (xi y 4)) (J4 (xi l 8) (xi y 2) (xi y 3) (xi y 4)) (J3 (xi l 8) (xi y 5) (xi y 6) (xi y 7)) (J4 (xi l 8) (xi y 5) (xi y 6) (xi y 7)) (X6 l y) (X7 l y) (Qi y) (IntKind.i64.wrap (xi l 16 * xi l 17)) != 0 then O else bif Qy x l == 0 then bif Q7 (Zn l y) (Zp l y) false (J1 l) (J1 y) a0 a1 tr != 0 then Zj (Zn l y) (Zp l y) false (J1 l) (J1 y) a0 a1 tr O else j0 (J1 x) (XM (J3 (xi l 8) (xi x 2) (xi x 3) (xi x 4)) (J4 (xi l 8) (xi x 2) (xi x 3) (xi x 4)) (J3 (xi l 8) (xi x 5) (xi x 6) (xi x 7)) (J4 (xi l 8) (xi x 5) (xi x 6) (xi x 7)) (KZ x l) (Kb x l) (Qi x) (IntKind.i64.wrap (xi l 16 * xi l 17))) (XJ (J3 (xi l 8) (xi x 2) (xi x 3) (xi x 4)) (J4 (xi l 8) (xi x 2) (xi x 3) (xi x 4)) (J3 (xi l 8) (xi x 5) (xi x 6) (xi x 7)) (J4 (xi l 8) (xi x 5) (xi x 6) (xi x 7)) (KZ x l) (Kb x l) (Qi x) (IntKind.i64.wrap (xi l 16 * xi l 17))) ((Yu l y x) == 1) (J1 l) (KP (Zn l y) (Zp l y) false (J1 l) (J1 y) a0 a1 tr) (KK (Zn l y) (Zp l y) false (J1 l) (J1 y) a0 a1 tr) (QT (J1 l) (KP (Zn l y) (Zp l y) false (J1 l) (J1 y) a0 a1 tr) (KK (Zn l y) (Zp l y) false (J1 l) (J1 y) a0 a1 tr) C (Zj (Zn l y) (Zp l y) false (J1 l) (J1 y) a0 a1 tr O)) else bif Qy x l != 0 then O else j0 (J1 x) (XM (J3 (xi l 8) (xi x 2) (xi x 3) (xi x 4)) (J4 (xi l 8) (xi x 2) (xi x 3) (xi x 4)) (J3 (xi l 8) (xi x 5) (xi x 6) (xi x 7)) (J4 (xi l 8) (xi x 5) (xi x 6) (xi x 7)) (KZ x l) (Kb x l) (Qi x) (IntKind.i64.wrap (xi l 16 * xi l 17))) (XJ (J3 (xi l 8) (xi x 2) (xi x 3) (xi x 4)) (J4 (xi l 8) (xi x 2) (xi x 3) (xi x 4)) (J3 (xi l 8) (xi x 5) (xi x 6) (xi x 7)) (J4 (xi l 8) (xi x 5) (xi x 6) (xi x 7)) (KZ x l) (Kb x l) (Qi x) (IntKind.i64.wrap (xi l 16 * xi l 17))) ((Yu l y x) == 1) (J1 l) a0 a1 (QT (J1 l) a0 a1 C O)
def JJi:LL:=
 bif (Yu l y x) == 2 then bif Zd x l y == 0 then bif Q7 (JCg l y x) (JD9 l y x) true (J1 l) (J1 y) a0 a1 tr != 0 then C else [] else bif Zd x l y != 0 then C else [] else bif Qk (J3 (xi l 8) (xi y 2) (xi y 3) (xi y 4)) (J4 (xi l 8) (xi y 2) (xi y 3) (xi y 4)) (J3 (xi l 8) (xi y 5) (xi y 6) (xi y 7)) (J4 (xi l 8) (xi y 5) (xi y 6) (xi y 7)) (X6 l y) (X7 l y) (Qi y) (IntKind.i64.wrap (xi l 16 * xi l 17)) != 0 then C else bif Qy x l == 0 then bif Q7 (JCe l y) (JCY l y) false (J1 l) (J1 y) a0 a1 tr != 0 then C else [] else bif Qy x l != 0 then C else []
def JGN:List Prop:=
 [((Yu l y x) == 2) = true → ((Zd x l y == 0) = true → O.length ≤ 1000000) ∧ ((Zd x l y == 0) = true → (Q7 (Xn x l y) (Xp x l y) true (J1 l) (J1 y) a0 a1 tr != 0) = false → C.length ≤ 1000 ∧ (Zj (Xn x l y) (Xp x l y) true (J1 l) (J1 y) a0 a1 tr O).length ≤ 900000) ∧ ((Zd x l y == 0) = false → (Zd x l y != 0) = false → C.length ≤ 1000 ∧ O.length ≤ 900000),((Yu l y x) == 2) = false → (Qk (J3 (xi l 8) (xi y 2) (xi y 3) (xi y 4)) (J4 (xi l 8) (xi y 2) (xi y 3) (xi y 4)) (J3 (xi l 8) (xi y 5) (xi y 6) (xi y 7)) (J4 (xi l 8) (xi y 5) (xi y 6) (xi y 7)) (X6 l y) (X7 l y) (Qi y) (IntKind.i64.wrap (xi l 16 * xi l 17)) != 0) = false → ((Qy x l == 0) = true → O.length ≤ 1000000) ∧ ((Qy x l == 0) = true → (Q7 (Zn l y) (Zp l y) false (J1 l) (J1 y) a0 a1 tr != 0) = false → C.length ≤ 1000 ∧ (Zj (Zn l y) (Zp l y) false (J1 l) (J1 y) a0 a1 tr O).length ≤ 900000 ∧ (QT (J1 l) (KP (Zn l y) (Zp l y) false (J1 l) (J1 y) a0 a1 tr) (KK (Zn l y) (Zp l y) false (J1 l) (J1 y) a0 a1 tr) C (Zj (Zn l y) (Zp l y) false (J1 l) (J1 y) a0 a1 tr O)).length ≤ 1000000) ∧ ((Qy x l == 0) = false → (Qy x l != 0) = false → C.length ≤ 1000 ∧ O.length ≤ 900000 ∧ (QT (J1 l) a0 a1 C O).length ≤ 1000000)]
end
theorem Jnf {x:List GC} {l:List GC} {y:List GC} {a0:Int} {a1:Int} {tr:Bool} {C:LL} {O:LL} (hW:∀ q ∈ ([C.length ≤ 1000,O.length ≤ 800000]:List Prop),q):∀ q ∈ (JGN x l y a0 a1 tr C O),q := by
  simp only [awc,awn,and_true] at hW
  unfold JGN
  simp only [awc,awn,and_true]
  obtain ⟨h1,h2⟩ := hW
  have s := fun u w tm => (Ym u w tm (J1 l) (J1 y) a0 a1 tr O).2
  have r := fun a0 a1 O => JAS (J1 l) a0 a1 C O
  refine ⟨fun _ => ⟨fun _ => by omega,fun _ _ => ⟨h1,Nat.le_trans (s ..) (by omega)⟩,fun _ _ => ⟨h1,by omega⟩⟩,fun _ _ => ⟨fun _ => by omega,fun _ _ => ⟨h1,Nat.le_trans (s ..) (by omega),Nat.le_trans (r ..) (Nat.le_trans (Nat.add_le_add_right (s ..) _) (by omega))⟩,fun _ _ => ⟨h1,by omega,Nat.le_trans (r ..) (by omega)⟩⟩⟩
def Jv3 (l x y:List GC) (a0 a1:Int) (tr op cl en mo:Bool) (la0 la1 la2 er:Int) (C O:LL) := [(0,Obj.blk 66 [(3,Ci (xi l 0)),(4,Ci (xi l 1)),(5,Ci (xi l 2)),(6,Ci (xi l 3)),(7,Ci (xi l 4)),(8,Ci (xi l 5)),(9,Ci (xi l 6)),(10,Ci (xi l 7)),(11,Ci (xi l 8)),(12,Ci (xi l 9)),(13,Ci (xi l 10)),(14,Ci (xi l 11)),(15,Ci (xi l 12)),(16,Cb (xb l 13)),(17,Ci (xi l 14)),(18,Cb (xb l 15)),(19,Ci (xi l 16)),(20,Ci (xi l 17)),(21,Ci (xi l 18)),(22,Ci (xi l 19)),(23,Ci (xi l 20)),(24,Cb (xb l 21)),(66287,Ci (JUC x l y a0 a1 tr)),(66288,Ci (JUG x l y a0 a1 tr)),(66289,Ci (JUT x l y a0 a1 tr)),(66290,Ci (JUf x l y a0 a1 tr)),(66291,Ci (JUB x l y a0 a1 tr)),(66292,Ci (JU7 x l y a0 a1 tr)),(66293,Ci (JU1 x l y a0 a1 tr)),(66294,Ci (JU4 x l y a0 a1 tr)),(66295,Ci (JU6 x l y a0 a1 tr)),(66296,Ci (JUR x l y a0 a1 tr)),(66297,Ci (JUZ x l y a0 a1 tr)),(66298,Ci (JUh x l y a0 a1 tr)),(66299,Ci (JUH x l y a0 a1 tr)),(66300,Cb (JUo x l y a0 a1 tr)),(66301,Ci (JUj x l y a0 a1 tr)),(66302,Cb (JU5 x l y a0 a1 tr)),(66303,Ci (JUQ x l y a0 a1 tr)),(66304,Ci (JUD x l y a0 a1 tr)),(66305,Ci (JUm x l y a0 a1 tr)),(66306,Ci (JUg x l y a0 a1 tr)),(66307,Ci (JUe x l y a0 a1 tr)),(66308,Cb (JUU x l y a0 a1 tr)),(66309,Ci (JUS x l y a0 a1 tr)),(66310,Ci (JUk x l y a0 a1 tr)),(66311,Cb (JUa x l y a0 a1 tr)),(66281,SC.wh 66279),(51,Cb op),(52,Cb cl),(53,Cb en),(54,Cb mo),(55,Ci la0),(56,Ci la1),(57,Ci la2),(66284,SC.wh 66282),(59,Ci er)]),(66282,Obj.row false 40 22 (RowC.lst 66286 JT6 (JDZ x l y a0 a1 tr C O))),(66279,Obj.row false 40 22 (RowC.lst 66285 JT6 (JJi x l y a0 a1 tr C)))]
theorem JpF (x l y:List GC) (a0 a1:Int) (tr op cl en mo:Bool) (la0 la1 la2 er:Int) (C O:LL) (hNeeds:∀ pN ∈ (JGN x l y a0 a1 tr C O),pN):Runs (Jr (JB JcO) Zf 75) (JHr.args (Je JUX [.v x,.v l,.v y,.i a0,.i a1,.b tr,.b op,.b cl,.b en,.b mo,.i la0,.i la1,.i la2,.i er])) (JHr.memo (Je JUX [.v x,.v l,.v y,.i a0,.i a1,.b tr,.b op,.b cl,.b en,.b mo,.i la0,.i la1,.i la2,.i er]) [C,O]) JHr.n (SV.one (Ci (JM1 x l y a0 a1 tr))) ((Jv3 l x y a0 a1 tr op cl en mo la0 la1 la2 er C O)) :=
  Runs.of1 (ps := (JGN x l y a0 a1 tr C O)) (by kernel_rfl) hNeeds
def JVU:List Gm → Qm → Option CRes
  | [.v x,.v l,.v y,.i a0,.i a1,.b tr,.b op,.b cl,.b en,.b mo,.i la0,.i la1,.i la2,.i er],[C,O] => some ⟨SV.one (Ci (JM1 x l y a0 a1 tr)),
 (Jv3 l x y a0 a1 tr op cl en mo la0 la1 la2 er C O),[C.length ≤ 1000,O.length ≤ 800000],[],66312⟩
  | _,_ => none
theorem JtW:Qg Tryz.prog 75 (Z4 JUX JHr JVU) := by
  refine QZ (JD JSJ 75) fun ps ls r hr hn _ => ?_
  unfold JVU at hr
  split at hr
  · cases hr; exact ⟨_,JpF _ _ _ _ _ _ _ _ _ _ _ _ _ _ _ _ (Jnf (by exact hn)),fun _ => rfl⟩
  · cases hr
def JkP:List (Nat × JY) := (75,Z4 JUX JHr JVU) :: JcO
theorem JWC:Known Tryz.prog (JB JkP) Zf := J7 JSJ JtW
def JCv:Tpl := ⟨[.one (.ptr 0 0),.agg pI],Ks,62⟩
def JKO:List GK := [.v Jx,.v Jx,.v Jx,.i,.i,.b,.b,.b,.b,.b,.i,.i,.i,.i]
section
variable (l y:List GC)
def jJ:Int:=
 bif xi y 0 == 3 then J3 (xi l 8) (xi y 9) (xi y 10) (xi y 11) else 0
def jV:Int:=
 bif xi y 0 == 3 then J4 (xi l 8) (xi y 9) (xi y 10) (xi y 11) else 0
def jc:Int:=
 bif xi y 0 == 3 then xi y 12 else 0
def QO:Int:=
 Qk (J3 (xi l 8) (xi y 2) (xi y 3) (xi y 4)) (J4 (xi l 8) (xi y 2) (xi y 3) (xi y 4)) (J3 (xi l 8) (xi y 5) (xi y 6) (xi y 7)) (J4 (xi l 8) (xi y 5) (xi y 6) (xi y 7)) (jJ l y) (jV l y) (jc y) (IntKind.i64.wrap (xi l 16 * xi l 17))
end
def jD (l y:List GC) := Xc (J3 (xi l 8) (xi y 2) (xi y 3) (xi y 4)) (J4 (xi l 8) (xi y 2) (xi y 3) (xi y 4)) (J3 (xi l 8) (xi y 5) (xi y 6) (xi y 7)) (J4 (xi l 8) (xi y 5) (xi y 6) (xi y 7)) (jJ l y) (jV l y) (jc y) (IntKind.i64.wrap (xi l 16 * xi l 17))
def jC (l y:List GC) := Xd (J3 (xi l 8) (xi y 2) (xi y 3) (xi y 4)) (J4 (xi l 8) (xi y 2) (xi y 3) (xi y 4)) (J3 (xi l 8) (xi y 5) (xi y 6) (xi y 7)) (J4 (xi l 8) (xi y 5) (xi y 6) (xi y 7)) (jJ l y) (jV l y) (jc y) (IntKind.i64.wrap (xi l 16 * xi l 17))
section
variable (x l y:List GC) (a0 a1:Int) (tr:Bool) (C O:LL) (op:Bool) (q0:Nat)
def JKG:Int:=
 Q7 (jD l y) (jC l y) false (J1 l) (J1 y) a0 a1 tr
def JJ8:Int:=
 bif !JZ (J1 x) (xi l 8) (xi l 17) || xi y 0 == 0 then 14 else bif QO l y == 0 then bif JKG l y a0 a1 tr != 0 then JKG l y a0 a1 tr else 0 else bif QO l y != 0 then QO l y else 0
def Z7:Int:=
 bif !JZ (J1 x) (xi l 8) (xi l 17) || xi y 0 == 0 then xi l q0 else bif QO l y == 0 then bif Q7 (jD l y) (jC l y) false (J1 l) (J1 y) a0 a1 tr != 0 then xi l q0 else 0 else bif QO l y != 0 then xi l q0 else 0
def JWH:Int:= Z7 x l y a0 a1 tr 0
def JYD:Int:= Z7 x l y a0 a1 tr 1
def JVG:Int:= Z7 x l y a0 a1 tr 2
def JY8:Int:= Z7 x l y a0 a1 tr 3
def JVr:Int:= Z7 x l y a0 a1 tr 4
def JWA:Int:= Z7 x l y a0 a1 tr 5
def JXr:Int:= Z7 x l y a0 a1 tr 6
def JWu:Int:= Z7 x l y a0 a1 tr 7
def JXn:Int:= Z7 x l y a0 a1 tr 8
def JRH:Int:= Z7 x l y a0 a1 tr 9
def JQW:Int:= Z7 x l y a0 a1 tr 10
def JPu:Int:= Z7 x l y a0 a1 tr 11
def JS5:Int:= Z7 x l y a0 a1 tr 12
def JK6:Bool:=
 bif !JZ (J1 x) (xi l 8) (xi l 17) || xi y 0 == 0 then xb l q0 else bif QO l y == 0 then Q7 (jD l y) (jC l y) false (J1 l) (J1 y) a0 a1 tr != 0 && xb l q0 else QO l y != 0 && xb l q0
def JRG:Bool:= JK6 x l y a0 a1 tr 13
def JPO:Int:= Z7 x l y a0 a1 tr 14
def JQV:Bool:= JK6 x l y a0 a1 tr 15
def JPX:Int:= Z7 x l y a0 a1 tr 16
def JOx:Int:= Z7 x l y a0 a1 tr 17
def JRQ:Int:= Z7 x l y a0 a1 tr 18
def JOt:Int:= Z7 x l y a0 a1 tr 19
def JS3:Int:= Z7 x l y a0 a1 tr 20
def JR7:Bool:= JK6 x l y a0 a1 tr 21
def Z9:Int:=
 bif !JZ (J1 x) (xi l 8) (xi l 17) || xi y 0 == 0 then xi y q0 else bif QO l y == 0 then bif Q7 (jD l y) (jC l y) false (J1 l) (J1 y) a0 a1 tr != 0 then xi y q0 else 0 else bif QO l y != 0 then xi y q0 else 0
def JQh:Int:= Z9 x l y a0 a1 tr 0
def JPr:Int:= Z9 x l y a0 a1 tr 1
def JRV:Int:= Z9 x l y a0 a1 tr 2
def JQk:Int:= Z9 x l y a0 a1 tr 3
def JQ3:Int:= Z9 x l y a0 a1 tr 4
def JRo:Int:= Z9 x l y a0 a1 tr 5
def JR4:Int:= Z9 x l y a0 a1 tr 6
def JQM:Int:= Z9 x l y a0 a1 tr 7
def JQt:Int:= Z9 x l y a0 a1 tr 8
def JRa:Int:= Z9 x l y a0 a1 tr 9
def JQN:Int:= Z9 x l y a0 a1 tr 10
def JQ8:Int:= Z9 x l y a0 a1 tr 11
def JRv:Int:= Z9 x l y a0 a1 tr 12
def JJu:Bool:=
 bif !JZ (J1 x) (xi l 8) (xi l 17) || xi y 0 == 0 then xb y q0 else bif QO l y == 0 then Q7 (jD l y) (jC l y) false (J1 l) (J1 y) a0 a1 tr != 0 && xb y q0 else QO l y != 0 && xb y q0
def JRL:Bool:= JJu x l y a0 a1 tr 13
def JRN:Int:= Z9 x l y a0 a1 tr 14
def JPm:Bool:= JJu x l y a0 a1 tr 15
def JQ4:Int:= Z9 x l y a0 a1 tr 16
def JRm:Int:= Z9 x l y a0 a1 tr 17
def JQZ:Int:= Z9 x l y a0 a1 tr 18
def JQ7:Int:= Z9 x l y a0 a1 tr 19
def JQB:Int:= Z9 x l y a0 a1 tr 20
def JQH:Bool:= JJu x l y a0 a1 tr 21
def ZT:Int:=
 Xc (J3 (xi l 8) (xi y 2) (xi y 3) (xi y 4)) (J4 (xi l 8) (xi y 2) (xi y 3) (xi y 4)) (J3 (xi l 8) (xi y 5) (xi y 6) (xi y 7)) (J4 (xi l 8) (xi y 5) (xi y 6) (xi y 7)) (jJ l y) (jV l y) (jc y) (IntKind.i64.wrap (xi l 16 * xi l 17))
def ZS:Int:=
 Xd (J3 (xi l 8) (xi y 2) (xi y 3) (xi y 4)) (J4 (xi l 8) (xi y 2) (xi y 3) (xi y 4)) (J3 (xi l 8) (xi y 5) (xi y 6) (xi y 7)) (J4 (xi l 8) (xi y 5) (xi y 6) (xi y 7)) (jJ l y) (jV l y) (jc y) (IntKind.i64.wrap (xi l 16 * xi l 17))
def JPd:Int:=
 bif !JZ (J1 x) (xi l 8) (xi l 17) || xi y 0 == 0 then a0 else bif QO l y == 0 then bif Q7 (ZT l y) (ZS l y) false (J1 l) (J1 y) a0 a1 tr != 0 then KP (ZT l y) (ZS l y) false (J1 l) (J1 y) a0 a1 tr else 0 else bif QO l y != 0 then a0 else 0
def JRh:Int:=
 bif !JZ (J1 x) (xi l 8) (xi l 17) || xi y 0 == 0 then a1 else bif QO l y == 0 then bif Q7 (ZT l y) (ZS l y) false (J1 l) (J1 y) a0 a1 tr != 0 then KK (ZT l y) (ZS l y) false (J1 l) (J1 y) a0 a1 tr else 0 else bif QO l y != 0 then a1 else 0
def JRi:Bool:=
 bif !JZ (J1 x) (xi l 8) (xi l 17) || xi y 0 == 0 then tr else bif QO l y == 0 then Q7 (jD l y) (jC l y) false (J1 l) (J1 y) a0 a1 tr != 0 && tr else QO l y != 0 && tr
def JS8:Bool:=
 bif !JZ (J1 x) (xi l 8) (xi l 17) || xi y 0 == 0 then op else bif QO l y == 0 then Q7 (jD l y) (jC l y) false (J1 l) (J1 y) a0 a1 tr != 0 && op else QO l y != 0 && op
def JBx:LL:=
 bif !JZ (J1 x) (xi l 8) (xi l 17) || xi y 0 == 0 then O else bif QO l y == 0 then bif Q7 (ZT l y) (ZS l y) false (J1 l) (J1 y) a0 a1 tr != 0 then Zj (ZT l y) (ZS l y) false (J1 l) (J1 y) a0 a1 tr O else Zq (J1 x) (J3 (xi l 8) (xi x 5) (xi x 6) (xi x 7)) (J4 (xi l 8) (xi x 5) (xi x 6) (xi x 7)) (J9 (xi l 8) (xi x 5) (xi x 6) (xi x 7)) (J9 (xi l 8) (xi x 5) (xi x 6) (xi x 7)) true (J1 l) (KP (ZT l y) (ZS l y) false (J1 l) (J1 y) a0 a1 tr) (KK (ZT l y) (ZS l y) false (J1 l) (J1 y) a0 a1 tr) (QT (J1 l) (KP (ZT l y) (ZS l y) false (J1 l) (J1 y) a0 a1 tr) (KK (ZT l y) (ZS l y) false (J1 l) (J1 y) a0 a1 tr) C (Zj (ZT l y) (ZS l y) false (J1 l) (J1 y) a0 a1 tr O)) else bif QO l y != 0 then O else Zq (J1 x) (J3 (xi l 8) (xi x 5) (xi x 6) (xi x 7)) (J4 (xi l 8) (xi x 5) (xi x 6) (xi x 7)) (J9 (xi l 8) (xi x 5) (xi x 6) (xi x 7)) (J9 (xi l 8) (xi x 5) (xi x 6) (xi x 7)) true (J1 l) a0 a1 (QT (J1 l) a0 a1 C O)
def JFL:LL:=
 bif !JZ (J1 x) (xi l 8) (xi l 17) || xi y 0 == 0 then C else bif QO l y == 0 then bif Q7 (jD l y) (jC l y) false (J1 l) (J1 y) a0 a1 tr != 0 then C else [] else bif QO l y != 0 then C else []
def JB3:List Prop:=
 [(!JZ (J1 x) (xi l 8) (xi l 17) || xi y 0 == 0) = false → ((QO l y == 0) = true → O.length ≤ 1000000) ∧ ((QO l y == 0) = true → (Q7 (ZT l y) (ZS l y) false (J1 l) (J1 y) a0 a1 tr != 0) = false → C.length ≤ 1000 ∧ (Zj (ZT l y) (ZS l y) false (J1 l) (J1 y) a0 a1 tr O).length ≤ 900000 ∧ (QT (J1 l) (KP (ZT l y) (ZS l y) false (J1 l) (J1 y) a0 a1 tr) (KK (ZT l y) (ZS l y) false (J1 l) (J1 y) a0 a1 tr) C (Zj (ZT l y) (ZS l y) false (J1 l) (J1 y) a0 a1 tr O)).length ≤ 1000000) ∧ ((QO l y == 0) = false → (QO l y != 0) = false → C.length ≤ 1000 ∧ O.length ≤ 900000 ∧ (QT (J1 l) a0 a1 C O).length ≤ 1000000)]
end
theorem Jfv {x:List GC} {l:List GC} {y:List GC} {a0:Int} {a1:Int} {tr:Bool} {C:LL} {O:LL} (hW:∀ q ∈ ([C.length ≤ 1000,O.length ≤ 800000]:List Prop),q):∀ q ∈ (JB3 x l y a0 a1 tr C O),q := by
  simp only [awc,awn,and_true] at hW
  unfold JB3
  simp only [awc,awn,and_true]
  obtain ⟨h1,h2⟩ := hW
  have s := fun u w tm => (Ym u w tm (J1 l) (J1 y) a0 a1 tr O).2
  have r := fun a0 a1 O => JAS (J1 l) a0 a1 C O
  exact fun _ => ⟨fun _ => by omega,fun _ _ => ⟨h1,Nat.le_trans (s ..) (by omega),Nat.le_trans (r ..) (Nat.le_trans (Nat.add_le_add_right (s ..) _) (by omega))⟩,fun _ _ => ⟨h1,by omega,Nat.le_trans (r ..) (by omega)⟩⟩
def JuZ (x l y:List GC) (a0 a1:Int) (tr op cl en mo:Bool) (la0 la1 la2 er:Int) (C O:LL) := [(0,Obj.blk 66 [(19948,Ci (JWH x l y a0 a1 tr)),(19949,Ci (JYD x l y a0 a1 tr)),(19950,Ci (JVG x l y a0 a1 tr)),(19951,Ci (JY8 x l y a0 a1 tr)),(19952,Ci (JVr x l y a0 a1 tr)),(19953,Ci (JWA x l y a0 a1 tr)),(19954,Ci (JXr x l y a0 a1 tr)),(19955,Ci (JWu x l y a0 a1 tr)),(19956,Ci (JXn x l y a0 a1 tr)),(19957,Ci (JRH x l y a0 a1 tr)),(19958,Ci (JQW x l y a0 a1 tr)),(19959,Ci (JPu x l y a0 a1 tr)),(19960,Ci (JS5 x l y a0 a1 tr)),(19961,Cb (JRG x l y a0 a1 tr)),(19962,Ci (JPO x l y a0 a1 tr)),(19963,Cb (JQV x l y a0 a1 tr)),(19964,Ci (JPX x l y a0 a1 tr)),(19965,Ci (JOx x l y a0 a1 tr)),(19966,Ci (JRQ x l y a0 a1 tr)),(19967,Ci (JOt x l y a0 a1 tr)),(19968,Ci (JS3 x l y a0 a1 tr)),(19969,Cb (JR7 x l y a0 a1 tr)),(19970,Ci (JQh x l y a0 a1 tr)),(19971,Ci (JPr x l y a0 a1 tr)),(19972,Ci (JRV x l y a0 a1 tr)),(19973,Ci (JQk x l y a0 a1 tr)),(19974,Ci (JQ3 x l y a0 a1 tr)),(19975,Ci (JRo x l y a0 a1 tr)),(19976,Ci (JR4 x l y a0 a1 tr)),(19977,Ci (JQM x l y a0 a1 tr)),(19978,Ci (JQt x l y a0 a1 tr)),(19979,Ci (JRa x l y a0 a1 tr)),(19980,Ci (JQN x l y a0 a1 tr)),(19981,Ci (JQ8 x l y a0 a1 tr)),(19982,Ci (JRv x l y a0 a1 tr)),(19983,Cb (JRL x l y a0 a1 tr)),(19984,Ci (JRN x l y a0 a1 tr)),(19985,Cb (JPm x l y a0 a1 tr)),(19986,Ci (JQ4 x l y a0 a1 tr)),(19987,Ci (JRm x l y a0 a1 tr)),(19988,Ci (JQZ x l y a0 a1 tr)),(19989,Ci (JQ7 x l y a0 a1 tr)),(19990,Ci (JQB x l y a0 a1 tr)),(19991,Cb (JQH x l y a0 a1 tr)),(19992,Ci (JPd x l y a0 a1 tr)),(19993,Ci (JRh x l y a0 a1 tr)),(19994,Cb (JRi x l y a0 a1 tr)),(19942,SC.wh 19940),(19995,Cb (JS8 x l y a0 a1 tr op)),(52,Cb cl),(53,Cb en),(54,Cb mo),(55,Ci la0),(56,Ci la1),(57,Ci la2),(19945,SC.wh 19943),(59,Ci er)]),(19943,Obj.row false 40 22 (RowC.lst 19947 JT6 (JBx x l y a0 a1 tr C O))),(19940,Obj.row false 40 22 (RowC.lst 19946 JT6 (JFL x l y a0 a1 tr C)))]
theorem Jhh (x l y:List GC) (a0 a1:Int) (tr op cl en mo:Bool) (la0 la1 la2 er:Int) (C O:LL) (hNeeds:∀ pN ∈ (JB3 x l y a0 a1 tr C O),pN):Runs (Jr (JB JkP) Zf 49) (JCv.args (Je JKO [.v x,.v l,.v y,.i a0,.i a1,.b tr,.b op,.b cl,.b en,.b mo,.i la0,.i la1,.i la2,.i er])) (JCv.memo (Je JKO [.v x,.v l,.v y,.i a0,.i a1,.b tr,.b op,.b cl,.b en,.b mo,.i la0,.i la1,.i la2,.i er]) [C,O]) JCv.n (SV.one (Ci (JJ8 x l y a0 a1 tr))) ((JuZ x l y a0 a1 tr op cl en mo la0 la1 la2 er C O)) :=
  Runs.of1 (ps := (JB3 x l y a0 a1 tr C O)) (by kernel_rfl) hNeeds
def JMT:List Gm → Qm → Option CRes
  | [.v x,.v l,.v y,.i a0,.i a1,.b tr,.b op,.b cl,.b en,.b mo,.i la0,.i la1,.i la2,.i er],[C,O] => some ⟨SV.one (Ci (JJ8 x l y a0 a1 tr)),
 (JuZ x l y a0 a1 tr op cl en mo la0 la1 la2 er C O),[C.length ≤ 1000,O.length ≤ 800000],[],19996⟩
  | _,_ => none
theorem Jnv:Qg Tryz.prog 49 (Z4 JKO JCv JMT) := by
  refine QZ (JD JWC 49) fun ps ls r hr hn _ => ?_
  unfold JMT at hr
  split at hr
  · cases hr; exact ⟨_,Jhh _ _ _ _ _ _ _ _ _ _ _ _ _ _ _ _ (Jfv (by exact hn)),fun _ => rfl⟩
  · cases hr
def JVY:List (Nat × JY) := (49,Z4 JKO JCv JMT) :: JkP
theorem JOb:Known Tryz.prog (JB JVY) Zf := J7 JWC Jnv
theorem chS {l y:List GC} {a0 a1 u w:Int} {tm tr:Bool} {C O:LL}:(Zj u w tm l y a0 a1 tr O).length ≤ O.length + C.length + 3 := by have := (Ym u w tm l y a0 a1 tr O).2; omega
theorem chO {C O:LL}:O.length ≤ O.length + C.length + 3 := by omega
theorem chR {l:List GC} {a0 a1:Int} {C O A:LL} (h:A.length ≤ O.length + 1):(QT l a0 a1 C A).length ≤ O.length + C.length + 3 := by have := JAS l a0 a1 C A; omega
theorem chJ {it l l':List GC} {u w a0 a1 b0 b1:Int} {ou:Bool} {C O A:LL} (h:A.length ≤ O.length + 1):(j0 it u w ou l' b0 b1 (QT l a0 a1 C A)).length ≤ O.length + C.length + 3 := by
  have := JAS l a0 a1 C A
  have := (Jhe it u w ou l' b0 b1 (QT l a0 a1 C A)).2
  omega
theorem chL {it l l':List GC} {u w lo hi a0 a1 b0 b1:Int} {al:Bool} {C O A:LL} (h:A.length ≤ O.length + 1):(Zq it u w lo hi al l' b0 b1 (QT l a0 a1 C A)).length ≤ O.length + C.length + 3 := by
  have := JAS l a0 a1 C A
  have := (WR it u w lo hi al l' b0 b1 (QT l a0 a1 C A)).2
  omega
theorem Jdo (x l:List GC) (C O:LL):(JFM x l C O).length ≤ O.length + C.length + 3 := by
  unfold JFM
  repeat' first | exact chO | exact chR (WR ..).2 | refine Wg ?_ ?_
theorem Jhg (x l y:List GC) (a0 a1:Int) (tr:Bool) (C O:LL):(JDZ x l y a0 a1 tr C O).length ≤ O.length + C.length + 3 := by
  unfold JDZ
  repeat' first | exact chO | exact chS | exact chR (Nat.le_succ _) | exact chR (Ym ..).2 | exact chJ (Nat.le_succ _) | exact chJ (Ym ..).2 | refine Wg ?_ ?_
theorem JaK (x l y:List GC) (a0 a1:Int) (tr:Bool) (C O:LL):(JBx x l y a0 a1 tr C O).length ≤ O.length + C.length + 3 := by
  unfold JBx
  repeat' first | exact chO | exact chS | exact chL (Nat.le_succ _) | exact chL (Ym ..).2 | refine Wg ?_ ?_
def JEy:Tpl := ⟨[.one (.ptr 0 0),.agg pI],Ks,62⟩
def JMj:List GK := [.v Jx,.v Jx,.v Jx,.i,.i,.b,.b,.b,.b,.b,.i,.i,.i,.i]
def Km (x l:List GC) := xb x 13 || !(J3 (xi l 8) (xi x 2) (xi x 3) (xi x 4) == J3 (xi l 8) (xi x 5) (xi x 6) (xi x 7) && J4 (xi l 8) (xi x 2) (xi x 3) (xi x 4) == J4 (xi l 8) (xi x 5) (xi x 6) (xi x 7))
section
variable (x l y:List GC) (q0:Nat) (q1 q2 a0 a1:Int) (tr:Bool) (C:LL)
def Wv:Int:=
 bif xi x 0 == 1 || xi x 0 == 11 || xi x 0 == 14 then 13 else bif J5 (xi x 0) && (xi x 8 != xi l 8 || xi x 16 != xi l 16 || xi x 17 != xi l 17) then 13 else bif !J5 (xi x 0) || !(Km x l) then bif Int.ofNat C.length == 8 then 10 else 0 else bif xi y 0 == 0 then JO5 (J1 x) (J1 l) else JM1 (J1 x) (J1 l) (J1 y) a0 a1 tr
def ZC:Int:=
 bif xi x 0 == 1 || xi x 0 == 11 || xi x 0 == 14 then xi y q0 else bif J5 (xi x 0) && (xi x 8 != xi l 8 || xi x 16 != xi l 16 || xi x 17 != xi l 17) then xi y q0 else bif !J5 (xi x 0) || !(Km x l) then xi y q0 else bif xi y 0 == 0 then q1 else q2
def JFR:Int:= ZC x l y 0 (JYJ (J1 x) (J1 l) (J1 y)) (JUC (J1 x) (J1 l) (J1 y) a0 a1 tr)
def JFJ:Int:= ZC x l y 1 (JYo (J1 x) (J1 l) (J1 y)) (JUG (J1 x) (J1 l) (J1 y) a0 a1 tr)
def JGB:Int:= ZC x l y 2 (JZq (J1 x) (J1 l) (J1 y)) (JUT (J1 x) (J1 l) (J1 y) a0 a1 tr)
def JF1:Int:= ZC x l y 3 (JXT (J1 x) (J1 l) (J1 y)) (JUf (J1 x) (J1 l) (J1 y) a0 a1 tr)
def JG3:Int:= ZC x l y 4 (JXk (J1 x) (J1 l) (J1 y)) (JUB (J1 x) (J1 l) (J1 y) a0 a1 tr)
def JFO:Int:= ZC x l y 5 (JXh (J1 x) (J1 l) (J1 y)) (JU7 (J1 x) (J1 l) (J1 y) a0 a1 tr)
def JFr:Int:= ZC x l y 6 (JWq (J1 x) (J1 l) (J1 y)) (JU1 (J1 x) (J1 l) (J1 y) a0 a1 tr)
def JEr:Int:= ZC x l y 7 (JWj (J1 x) (J1 l) (J1 y)) (JU4 (J1 x) (J1 l) (J1 y) a0 a1 tr)
def JFZ:Int:= ZC x l y 8 (JYu (J1 x) (J1 l) (J1 y)) (JU6 (J1 x) (J1 l) (J1 y) a0 a1 tr)
def JF2:Int:= ZC x l y 9 (JXP (J1 x) (J1 l) (J1 y)) (JUR (J1 x) (J1 l) (J1 y) a0 a1 tr)
def JG6:Int:= ZC x l y 10 (JZa (J1 x) (J1 l) (J1 y)) (JUZ (J1 x) (J1 l) (J1 y) a0 a1 tr)
def JEf:Int:= ZC x l y 11 (JX6 (J1 x) (J1 l) (J1 y)) (JUh (J1 x) (J1 l) (J1 y) a0 a1 tr)
def JFB:Int:= ZC x l y 12 (JVI (J1 x) (J1 l) (J1 y)) (JUH (J1 x) (J1 l) (J1 y) a0 a1 tr)
end
section
variable (x l y:List GC) (a0 a1:Int) (tr:Bool) (C O:LL) (q0:Nat) (q1 q2:Bool)
def JCM:Bool:=
 bif xi x 0 == 1 || xi x 0 == 11 || xi x 0 == 14 then xb y q0 else bif J5 (xi x 0) && (xi x 8 != xi l 8 || xi x 16 != xi l 16 || xi x 17 != xi l 17) then xb y q0 else bif !J5 (xi x 0) || !(Km x l) then xb y q0 else bif xi y 0 == 0 then q1 else q2
def JEi:Bool:= JCM x l y 13 (JYt (J1 x) (J1 l) (J1 y)) (JUo (J1 x) (J1 l) (J1 y) a0 a1 tr)
def JG1:Int:= ZC x l y 14 (JWa (J1 x) (J1 l) (J1 y)) (JUj (J1 x) (J1 l) (J1 y) a0 a1 tr)
def JEl:Bool:= JCM x l y 15 (JUu (J1 x) (J1 l) (J1 y)) (JU5 (J1 x) (J1 l) (J1 y) a0 a1 tr)
def JFz:Int:= ZC x l y 16 (JWv (J1 x) (J1 l) (J1 y)) (JUQ (J1 x) (J1 l) (J1 y) a0 a1 tr)
def JFt:Int:= ZC x l y 17 (JZO (J1 x) (J1 l) (J1 y)) (JUD (J1 x) (J1 l) (J1 y) a0 a1 tr)
def JFh:Int:= ZC x l y 18 (JYL (J1 x) (J1 l) (J1 y)) (JUm (J1 x) (J1 l) (J1 y) a0 a1 tr)
def JFj:Int:= ZC x l y 19 (JXW (J1 x) (J1 l) (J1 y)) (JUg (J1 x) (J1 l) (J1 y) a0 a1 tr)
def JFQ:Int:= ZC x l y 20 (JXd (J1 x) (J1 l) (J1 y)) (JUe (J1 x) (J1 l) (J1 y) a0 a1 tr)
def JFi:Bool:= JCM x l y 21 (JZK (J1 x) (J1 l) (J1 y)) (JUU (J1 x) (J1 l) (J1 y) a0 a1 tr)
def JFs:Int:=
 bif xi x 0 == 1 || xi x 0 == 11 || xi x 0 == 14 then a0 else bif J5 (xi x 0) && (xi x 8 != xi l 8 || xi x 16 != xi l 16 || xi x 17 != xi l 17) then a0 else bif !J5 (xi x 0) || !(Km x l) then a0 else bif xi y 0 == 0 then JYe (J1 x) (J1 l) a0 else JUS (J1 x) (J1 l) (J1 y) a0 a1 tr
def JGC:Int:=
 bif xi x 0 == 1 || xi x 0 == 11 || xi x 0 == 14 then a1 else bif J5 (xi x 0) && (xi x 8 != xi l 8 || xi x 16 != xi l 16 || xi x 17 != xi l 17) then a1 else bif !J5 (xi x 0) || !(Km x l) then a1 else bif xi y 0 == 0 then JVt (J1 x) (J1 l) a1 else JUk (J1 x) (J1 l) (J1 y) a0 a1 tr
def JFn:Bool:=
 bif xi x 0 == 1 || xi x 0 == 11 || xi x 0 == 14 then tr else bif J5 (xi x 0) && (xi x 8 != xi l 8 || xi x 16 != xi l 16 || xi x 17 != xi l 17) then tr else bif !J5 (xi x 0) || !(Km x l) then tr else bif xi y 0 == 0 then tr else JUa (J1 x) (J1 l) (J1 y) a0 a1 tr
def Y0:LL:=
 bif xi x 0 == 1 || xi x 0 == 11 || xi x 0 == 14 then O else bif J5 (xi x 0) && (xi x 8 != xi l 8 || xi x 16 != xi l 16 || xi x 17 != xi l 17) then O else bif !J5 (xi x 0) || !(Km x l) then O else bif xi y 0 == 0 then JFM (J1 x) (J1 l) C O else JDZ (J1 x) (J1 l) (J1 y) a0 a1 tr C O
def zA:LL:=
 bif xi x 0 == 1 || xi x 0 == 11 || xi x 0 == 14 then C else bif J5 (xi x 0) && (xi x 8 != xi l 8 || xi x 16 != xi l 16 || xi x 17 != xi l 17) then C else bif !J5 (xi x 0) || !(Km x l) then bif Int.ofNat C.length == 8 then C else C ++ [JHh x] else bif xi y 0 == 0 then JIa (J1 x) (J1 l) C else JJi (J1 x) (J1 l) (J1 y) a0 a1 tr C
def WA:Prop:=
 (xi x 0 == 1 || xi x 0 == 11 || xi x 0 == 14) = false
def W8:Prop:=
 (J5 (xi x 0) && (xi x 8 != xi l 8 || xi x 16 != xi l 16 || xi x 17 != xi l 17)) = false
def W7:Prop:=
 (!J5 (xi x 0) || !(Km x l)) = false
def WC:Prop:=
 C.length ≤ 1000 ∧ O.length ≤ 800000
def JDq:List Prop:=
 [WA x → W8 x l → ((!J5 (xi x 0) || !(Km x l)) = true → (Int.ofNat C.length == 8) = false → (C.length + 1) * 176 ≤ 140737488355328 ∧ C.length + 1 ≤ 9223372036854775807) ∧ (W7 x l → (xi y 0 == 0) = true → WC C O),WA x → W8 x l → W7 x l → (xi y 0 == 0) = false → WC C O]
end
theorem Jl5 {x:List GC} {l:List GC} {y:List GC} {C:LL} {O:LL} (hW:∀ q ∈ ([C.length ≤ 1000,O.length ≤ 800000]:List Prop),q):∀ q ∈ (JDq x l y C O),q := by
  simp only [awc,awn,and_true] at hW
  unfold JDq
  simp only [awc,awn,and_true]
  obtain ⟨h1,h2⟩ := hW
  exact ⟨fun _ _ => ⟨fun _ _ => ⟨by omega,by omega⟩,fun _ _ => ⟨h1,h2⟩⟩,fun _ _ _ _ => ⟨h1,h2⟩⟩
def JAh := Wc
def JpZ (l x y:List GC) (a0 a1:Int) (tr op cl en mo:Bool) (la0 la1 la2 er:Int) (C O:LL) := [(0,Obj.blk 66 [(3,Ci (xi l 0)),(4,Ci (xi l 1)),(5,Ci (xi l 2)),(6,Ci (xi l 3)),(7,Ci (xi l 4)),(8,Ci (xi l 5)),(9,Ci (xi l 6)),(10,Ci (xi l 7)),(11,Ci (xi l 8)),(12,Ci (xi l 9)),(13,Ci (xi l 10)),(14,Ci (xi l 11)),(15,Ci (xi l 12)),(16,Cb (xb l 13)),(17,Ci (xi l 14)),(18,Cb (xb l 15)),(19,Ci (xi l 16)),(20,Ci (xi l 17)),(21,Ci (xi l 18)),(22,Ci (xi l 19)),(23,Ci (xi l 20)),(24,Cb (xb l 21)),(79778,Ci (JFR x l y a0 a1 tr)),(79779,Ci (JFJ x l y a0 a1 tr)),(79780,Ci (JGB x l y a0 a1 tr)),(79781,Ci (JF1 x l y a0 a1 tr)),(79782,Ci (JG3 x l y a0 a1 tr)),(79783,Ci (JFO x l y a0 a1 tr)),(79784,Ci (JFr x l y a0 a1 tr)),(79785,Ci (JEr x l y a0 a1 tr)),(79786,Ci (JFZ x l y a0 a1 tr)),(79787,Ci (JF2 x l y a0 a1 tr)),(79788,Ci (JG6 x l y a0 a1 tr)),(79789,Ci (JEf x l y a0 a1 tr)),(79790,Ci (JFB x l y a0 a1 tr)),(79791,Cb (JEi x l y a0 a1 tr)),(79792,Ci (JG1 x l y a0 a1 tr)),(79793,Cb (JEl x l y a0 a1 tr)),(79794,Ci (JFz x l y a0 a1 tr)),(79795,Ci (JFt x l y a0 a1 tr)),(79796,Ci (JFh x l y a0 a1 tr)),(79797,Ci (JFj x l y a0 a1 tr)),(79798,Ci (JFQ x l y a0 a1 tr)),(79799,Cb (JFi x l y a0 a1 tr)),(79800,Ci (JFs x l y a0 a1 tr)),(79801,Ci (JGC x l y a0 a1 tr)),(79802,Cb (JFn x l y a0 a1 tr)),(79772,SC.wh 79770),(51,Cb op),(52,Cb cl),(53,Cb en),(54,Cb mo),(55,Ci la0),(56,Ci la1),(57,Ci la2),(79775,SC.wh 79773),(59,Ci er)]),(79773,Obj.row false 40 22 (RowC.lst 79777 JAh (Y0 x l y a0 a1 tr C O))),(79770,Obj.row false 40 22 (RowC.lst 79776 JAh (zA x l y a0 a1 tr C)))]
theorem JjM (x l y:List GC) (a0 a1:Int) (tr op cl en mo:Bool) (la0 la1 la2 er:Int) (C O:LL) (hNeeds:∀ pN ∈ (JDq x l y C O),pN):Runs (Jr (JB JVY) Zf 50) (JEy.args (Je JMj [.v x,.v l,.v y,.i a0,.i a1,.b tr,.b op,.b cl,.b en,.b mo,.i la0,.i la1,.i la2,.i er])) (JEy.memo (Je JMj [.v x,.v l,.v y,.i a0,.i a1,.b tr,.b op,.b cl,.b en,.b mo,.i la0,.i la1,.i la2,.i er]) [C,O]) JEy.n (SV.one (Ci (Wv x l y a0 a1 tr C))) ((JpZ l x y a0 a1 tr op cl en mo la0 la1 la2 er C O)) :=
  Runs.of1 (ps := (JDq x l y C O)) (by kernel_rfl) hNeeds
def JPI:List Gm → Qm → Option CRes
  | [.v x,.v l,.v y,.i a0,.i a1,.b tr,.b op,.b cl,.b en,.b mo,.i la0,.i la1,.i la2,.i er],[C,O] => some ⟨SV.one (Ci (Wv x l y a0 a1 tr C)),
 (JpZ l x y a0 a1 tr op cl en mo la0 la1 la2 er C O),[C.length ≤ 1000,O.length ≤ 800000],[],79803⟩
  | _,_ => none
theorem Jqi:Qg Tryz.prog 50 (Z4 JMj JEy JPI) := by
  refine QZ (JD JOb 50) fun ps ls r hr hn _ => ?_
  unfold JPI at hr
  split at hr
  · cases hr; exact ⟨_,JjM _ _ _ _ _ _ _ _ _ _ _ _ _ _ _ _ (Jl5 (by exact hn)),fun _ => rfl⟩
  · cases hr
def Jeq:List (Nat × JY) := (50,Z4 JMj JEy JPI) :: JVY
theorem JSP:Known Tryz.prog (JB Jeq) Zf := J7 JOb Jqi
theorem Jdm (x l y:List GC) (a0 a1:Int) (tr:Bool) (C O:LL):(Y0 x l y a0 a1 tr C O).length ≤ O.length + C.length + 3 := by
  unfold Y0
  repeat' first | exact chO | exact Jdo .. | exact Jhg .. | refine Wg ?_ ?_
theorem JcZ (x l:List GC) (C:LL):(JIa x l C).length ≤ C.length := by
  unfold JIa
  repeat' first | exact Nat.le_refl _ | exact Nat.zero_le _ | refine Wg ?_ ?_
theorem Jgz (x l y:List GC) (a0 a1:Int) (tr:Bool) (C:LL):(JJi x l y a0 a1 tr C).length ≤ C.length := by
  unfold JJi
  repeat' first | exact Nat.le_refl _ | exact Nat.zero_le _ | refine Wg ?_ ?_
theorem chC {C:LL} {r:List Int} (h:C.length ≤ 8):(bif Int.ofNat C.length == 8 then C else C ++ [r]).length ≤ 8 := by
  cases e:(Int.ofNat C.length == 8)
  · have:C.length ≠ 8 := fun h => by rw [h] at e; exact absurd e (by decide)
    simp only [cond_false,List.length_append,List.length_cons,List.length_nil]; omega
  · exact h
theorem JdJ (x l y:List GC) (a0 a1:Int) (tr:Bool) (C:LL) (h:C.length ≤ 8):(zA x l y a0 a1 tr C).length ≤ 8 := by
  unfold zA
  repeat' first | exact h | exact Nat.le_trans (JcZ ..) h | exact Nat.le_trans (Jgz ..) h | exact chC h | refine Wg ?_ ?_
def JIQ:Tpl := ⟨[.one (.ptr 0 0),.agg pI],Ks,62⟩
def JUE:List GK := [.v Jx,.v Jx,.v Jx,.i,.i,.b,.b,.b,.b,.b,.i,.i,.i,.i]
section
variable (x l y:List GC) (a0 a1:Int) (tr op cl en mo:Bool) (la0 la1 la2:Int) (q0:Nat) (q1 q2:Int) (C:LL)
def Kj:Int:=
 bif cl then 13 else bif !QY (J1 x) || en || J5 (xi x 0) && mo && !(xi x 2 == la0 && (xi x 3 == la1 && xi x 4 == la2)) then 1 else bif !op && J5 (xi x 0) && xi x 16 != 0 then JMk (J1 x) else bif !op then 0 else bif J5 (xi x 0) && xi x 16 == 0 then JJ8 (J1 x) (J1 l) (J1 y) a0 a1 tr else Wv (J1 x) (J1 l) (J1 y) a0 a1 tr C
def ZR:Int:=
 bif cl then xi l q0 else bif !QY (J1 x) || en || J5 (xi x 0) && mo && !(xi x 2 == la0 && (xi x 3 == la1 && xi x 4 == la2)) then xi l q0 else bif !op && J5 (xi x 0) && xi x 16 != 0 then q1 else bif !op then xi l q0 else bif J5 (xi x 0) && xi x 16 == 0 then q2 else xi l q0
def JGk:Int:= ZR x l op cl en mo la0 la1 la2 0 (Jdz (J1 x) (J1 l)) (JWH (J1 x) (J1 l) (J1 y) a0 a1 tr)
def JHF:Int:= ZR x l op cl en mo la0 la1 la2 1 (JeF (J1 x) (J1 l)) (JYD (J1 x) (J1 l) (J1 y) a0 a1 tr)
def JH5:Int:= ZR x l op cl en mo la0 la1 la2 2 (Jer (J1 x) (J1 l)) (JVG (J1 x) (J1 l) (J1 y) a0 a1 tr)
def JGb:Int:= ZR x l op cl en mo la0 la1 la2 3 (Je7 (J1 x) (J1 l)) (JY8 (J1 x) (J1 l) (J1 y) a0 a1 tr)
def JGQ:Int:= ZR x l op cl en mo la0 la1 la2 4 (Jep (J1 x) (J1 l)) (JVr (J1 x) (J1 l) (J1 y) a0 a1 tr)
def JGr:Int:= ZR x l op cl en mo la0 la1 la2 5 (Je0 (J1 x) (J1 l)) (JWA (J1 x) (J1 l) (J1 y) a0 a1 tr)
def JGg:Int:= ZR x l op cl en mo la0 la1 la2 6 (JdV (J1 x) (J1 l)) (JXr (J1 x) (J1 l) (J1 y) a0 a1 tr)
def JHX:Int:= ZR x l op cl en mo la0 la1 la2 7 (JdE (J1 x) (J1 l)) (JWu (J1 x) (J1 l) (J1 y) a0 a1 tr)
def JHY:Int:= ZR x l op cl en mo la0 la1 la2 8 (Jey (J1 x) (J1 l)) (JXn (J1 x) (J1 l) (J1 y) a0 a1 tr)
def JBk:Int:= ZR x l op cl en mo la0 la1 la2 9 (JZy (J1 x) (J1 l)) (JRH (J1 x) (J1 l) (J1 y) a0 a1 tr)
def JAo:Int:= ZR x l op cl en mo la0 la1 la2 10 (JY3 (J1 x) (J1 l)) (JQW (J1 x) (J1 l) (J1 y) a0 a1 tr)
def JBT:Int:= ZR x l op cl en mo la0 la1 la2 11 (JZE (J1 x) (J1 l)) (JPu (J1 x) (J1 l) (J1 y) a0 a1 tr)
def JB8:Int:= ZR x l op cl en mo la0 la1 la2 12 (JYP (J1 x) (J1 l)) (JS5 (J1 x) (J1 l) (J1 y) a0 a1 tr)
end
section
variable (x l y:List GC) (a0 a1:Int) (tr op cl en mo:Bool) (la0 la1 la2:Int) (q0:Nat) (q1 q2:Bool)
def qZ:Bool:=
 bif cl then xb l q0 else bif !QY (J1 x) || en || J5 (xi x 0) && mo && !(xi x 2 == la0 && (xi x 3 == la1 && xi x 4 == la2)) then xb l q0 else bif !op && J5 (xi x 0) && xi x 16 != 0 then q1 else bif !op then xb l q0 else bif J5 (xi x 0) && xi x 16 == 0 then q2 else xb l q0
def JBp:Bool:= qZ x l op cl en mo la0 la1 la2 13 (JUz (J1 x) (J1 l)) (JRG (J1 x) (J1 l) (J1 y) a0 a1 tr)
def JAp:Int:= ZR x l op cl en mo la0 la1 la2 14 (JYZ (J1 x) (J1 l)) (JPO (J1 x) (J1 l) (J1 y) a0 a1 tr)
def JBF:Bool:= qZ x l op cl en mo la0 la1 la2 15 (JYb (J1 x) (J1 l)) (JQV (J1 x) (J1 l) (J1 y) a0 a1 tr)
def JBc:Int:= ZR x l op cl en mo la0 la1 la2 16 (JVQ (J1 x) (J1 l)) (JPX (J1 x) (J1 l) (J1 y) a0 a1 tr)
def JBB:Int:= ZR x l op cl en mo la0 la1 la2 17 (JWr (J1 x) (J1 l)) (JOx (J1 x) (J1 l) (J1 y) a0 a1 tr)
def JBW:Int:= ZR x l op cl en mo la0 la1 la2 18 (JY4 (J1 x) (J1 l)) (JRQ (J1 x) (J1 l) (J1 y) a0 a1 tr)
def JBq:Int:= ZR x l op cl en mo la0 la1 la2 19 (JVh (J1 x) (J1 l)) (JOt (J1 x) (J1 l) (J1 y) a0 a1 tr)
def JBa:Int:= ZR x l op cl en mo la0 la1 la2 20 (JZD (J1 x) (J1 l)) (JS3 (J1 x) (J1 l) (J1 y) a0 a1 tr)
def JB2:Bool:= qZ x l op cl en mo la0 la1 la2 21 (JX7 (J1 x) (J1 l)) (JR7 (J1 x) (J1 l) (J1 y) a0 a1 tr)
end
section
variable (x l y:List GC) (a0 a1:Int) (tr op cl en mo:Bool) (la0 la1 la2:Int) (q0:Nat) (q1 q2 q3:Int)
def ZQ:Int:=
 bif cl then xi y q0 else bif !QY (J1 x) || en || J5 (xi x 0) && mo && !(xi x 2 == la0 && (xi x 3 == la1 && xi x 4 == la2)) then xi y q0 else bif !op && J5 (xi x 0) && xi x 16 != 0 then q1 else bif !op then xi y q0 else bif J5 (xi x 0) && xi x 16 == 0 then q2 else q3
def JBg:Int:= ZQ x y op cl en mo la0 la1 la2 0 (JYU (J1 x) (J1 y)) (JQh (J1 x) (J1 l) (J1 y) a0 a1 tr) (JFR (J1 x) (J1 l) (J1 y) a0 a1 tr)
def JAu:Int:= ZQ x y op cl en mo la0 la1 la2 1 (JV7 (J1 x) (J1 y)) (JPr (J1 x) (J1 l) (J1 y) a0 a1 tr) (JFJ (J1 x) (J1 l) (J1 y) a0 a1 tr)
def JBt:Int:= ZQ x y op cl en mo la0 la1 la2 2 (JZ3 (J1 x) (J1 y)) (JRV (J1 x) (J1 l) (J1 y) a0 a1 tr) (JGB (J1 x) (J1 l) (J1 y) a0 a1 tr)
def JBE:Int:= ZQ x y op cl en mo la0 la1 la2 3 (JZg (J1 x) (J1 y)) (JQk (J1 x) (J1 l) (J1 y) a0 a1 tr) (JF1 (J1 x) (J1 l) (J1 y) a0 a1 tr)
def JBH:Int:= ZQ x y op cl en mo la0 la1 la2 4 (JX9 (J1 x) (J1 y)) (JQ3 (J1 x) (J1 l) (J1 y) a0 a1 tr) (JG3 (J1 x) (J1 l) (J1 y) a0 a1 tr)
def JBR:Int:= ZQ x y op cl en mo la0 la1 la2 5 (JYr (J1 x) (J1 y)) (JRo (J1 x) (J1 l) (J1 y) a0 a1 tr) (JFO (J1 x) (J1 l) (J1 y) a0 a1 tr)
def JBI:Int:= ZQ x y op cl en mo la0 la1 la2 6 (JWJ (J1 x) (J1 y)) (JR4 (J1 x) (J1 l) (J1 y) a0 a1 tr) (JFr (J1 x) (J1 l) (J1 y) a0 a1 tr)
def JBn:Int:= ZQ x y op cl en mo la0 la1 la2 7 (JZH (J1 x) (J1 y)) (JQM (J1 x) (J1 l) (J1 y) a0 a1 tr) (JEr (J1 x) (J1 l) (J1 y) a0 a1 tr)
def JBM:Int:= ZQ x y op cl en mo la0 la1 la2 8 (JV4 (J1 x) (J1 y)) (JQt (J1 x) (J1 l) (J1 y) a0 a1 tr) (JFZ (J1 x) (J1 l) (J1 y) a0 a1 tr)
def JBQ:Int:= ZQ x y op cl en mo la0 la1 la2 9 (JWT (J1 x) (J1 y)) (JRa (J1 x) (J1 l) (J1 y) a0 a1 tr) (JF2 (J1 x) (J1 l) (J1 y) a0 a1 tr)
def JBC:Int:= ZQ x y op cl en mo la0 la1 la2 10 (JZw (J1 x) (J1 y)) (JQN (J1 x) (J1 l) (J1 y) a0 a1 tr) (JG6 (J1 x) (J1 l) (J1 y) a0 a1 tr)
def JBG:Int:= ZQ x y op cl en mo la0 la1 la2 11 (JYw (J1 x) (J1 y)) (JQ8 (J1 x) (J1 l) (J1 y) a0 a1 tr) (JEf (J1 x) (J1 l) (J1 y) a0 a1 tr)
def JBZ:Int:= ZQ x y op cl en mo la0 la1 la2 12 (Ja9 (J1 x) (J1 y)) (JRv (J1 x) (J1 l) (J1 y) a0 a1 tr) (JFB (J1 x) (J1 l) (J1 y) a0 a1 tr)
end
section
variable (x l y:List GC) (a0 a1:Int) (tr op cl en mo:Bool) (la0 la1 la2:Int) (C O:LL) (q0:Nat) (q1 q2 q3:Bool)
def jr:Bool:=
 bif cl then xb y q0 else bif !QY (J1 x) || en || J5 (xi x 0) && mo && !(xi x 2 == la0 && (xi x 3 == la1 && xi x 4 == la2)) then xb y q0 else bif !op && J5 (xi x 0) && xi x 16 != 0 then q1 else bif !op then xb y q0 else bif J5 (xi x 0) && xi x 16 == 0 then q2 else q3
def JBX:Bool:= jr x y op cl en mo la0 la1 la2 13 (JVH (J1 x) (J1 y)) (JRL (J1 x) (J1 l) (J1 y) a0 a1 tr) (JEi (J1 x) (J1 l) (J1 y) a0 a1 tr)
def JAs:Int:= ZQ x y op cl en mo la0 la1 la2 14 (JW9 (J1 x) (J1 y)) (JRN (J1 x) (J1 l) (J1 y) a0 a1 tr) (JG1 (J1 x) (J1 l) (J1 y) a0 a1 tr)
def JB5:Bool:= jr x y op cl en mo la0 la1 la2 15 (JZl (J1 x) (J1 y)) (JPm (J1 x) (J1 l) (J1 y) a0 a1 tr) (JEl (J1 x) (J1 l) (J1 y) a0 a1 tr)
def JBb:Int:= ZQ x y op cl en mo la0 la1 la2 16 (JZC (J1 x) (J1 y)) (JQ4 (J1 x) (J1 l) (J1 y) a0 a1 tr) (JFz (J1 x) (J1 l) (J1 y) a0 a1 tr)
def JB4:Int:= ZQ x y op cl en mo la0 la1 la2 17 (JaF (J1 x) (J1 y)) (JRm (J1 x) (J1 l) (J1 y) a0 a1 tr) (JFt (J1 x) (J1 l) (J1 y) a0 a1 tr)
def JBf:Int:= ZQ x y op cl en mo la0 la1 la2 18 (JVE (J1 x) (J1 y)) (JQZ (J1 x) (J1 l) (J1 y) a0 a1 tr) (JFh (J1 x) (J1 l) (J1 y) a0 a1 tr)
def JAr:Int:= ZQ x y op cl en mo la0 la1 la2 19 (JUt (J1 x) (J1 y)) (JQ7 (J1 x) (J1 l) (J1 y) a0 a1 tr) (JFj (J1 x) (J1 l) (J1 y) a0 a1 tr)
def JB9:Int:= ZQ x y op cl en mo la0 la1 la2 20 (JaH (J1 x) (J1 y)) (JQB (J1 x) (J1 l) (J1 y) a0 a1 tr) (JFQ (J1 x) (J1 l) (J1 y) a0 a1 tr)
def JAt:Bool:= jr x y op cl en mo la0 la1 la2 21 (JX0 (J1 x) (J1 y)) (JQH (J1 x) (J1 l) (J1 y) a0 a1 tr) (JFi (J1 x) (J1 l) (J1 y) a0 a1 tr)
def JBV:Int:=
 bif cl then a0 else bif !QY (J1 x) || en || J5 (xi x 0) && mo && !(xi x 2 == la0 && (xi x 3 == la1 && xi x 4 == la2)) then a0 else bif !op && J5 (xi x 0) && xi x 16 != 0 then JIU (J1 x) a0 else bif !op then a0 else bif J5 (xi x 0) && xi x 16 == 0 then JPd (J1 x) (J1 l) (J1 y) a0 a1 tr else JFs (J1 x) (J1 l) (J1 y) a0 a1 tr
def JAn:Int:=
 bif cl then a1 else bif !QY (J1 x) || en || J5 (xi x 0) && mo && !(xi x 2 == la0 && (xi x 3 == la1 && xi x 4 == la2)) then a1 else bif !op && J5 (xi x 0) && xi x 16 != 0 then JIU (J1 x) a1 else bif !op then a1 else bif J5 (xi x 0) && xi x 16 == 0 then JRh (J1 x) (J1 l) (J1 y) a0 a1 tr else JGC (J1 x) (J1 l) (J1 y) a0 a1 tr
def JAq:Bool:=
 bif cl then tr else bif !QY (J1 x) || en || J5 (xi x 0) && mo && !(xi x 2 == la0 && (xi x 3 == la1 && xi x 4 == la2)) then tr else bif !op && J5 (xi x 0) && xi x 16 != 0 then Ja7 (J1 x) tr else bif !op then tr else bif J5 (xi x 0) && xi x 16 == 0 then JRi (J1 x) (J1 l) (J1 y) a0 a1 tr else JFn (J1 x) (J1 l) (J1 y) a0 a1 tr
def JAx:Bool:=
 bif cl then op else bif !QY (J1 x) || en || J5 (xi x 0) && mo && !(xi x 2 == la0 && (xi x 3 == la1 && xi x 4 == la2)) then op else bif !op && J5 (xi x 0) && xi x 16 != 0 then JZW (J1 x) op else bif !op then op else bif J5 (xi x 0) && xi x 16 == 0 then JS8 (J1 x) (J1 l) (J1 y) a0 a1 tr op else op
def JAy:Bool:=
 bif cl then en else bif !QY (J1 x) || en || J5 (xi x 0) && mo && !(xi x 2 == la0 && (xi x 3 == la1 && xi x 4 == la2)) then en else xi x 0 == 14
def JB7:Bool:=
 bif cl then mo else bif !QY (J1 x) || en || J5 (xi x 0) && mo && !(xi x 2 == la0 && (xi x 3 == la1 && xi x 4 == la2)) then mo else J5 (xi x 0) || mo
def JBJ:Int:=
 bif cl then la0 else bif !QY (J1 x) || en || J5 (xi x 0) && mo && !(xi x 2 == la0 && (xi x 3 == la1 && xi x 4 == la2)) then la0 else bif J5 (xi x 0) then xi x 5 else la0
def JBN:Int:=
 bif cl then la1 else bif !QY (J1 x) || en || J5 (xi x 0) && mo && !(xi x 2 == la0 && (xi x 3 == la1 && xi x 4 == la2)) then la1 else bif J5 (xi x 0) then xi x 6 else la1
def JB0:Int:=
 bif cl then la2 else bif !QY (J1 x) || en || J5 (xi x 0) && mo && !(xi x 2 == la0 && (xi x 3 == la1 && xi x 4 == la2)) then la2 else bif J5 (xi x 0) then xi x 7 else la2
def KC:LL:=
 bif cl then O else bif !QY (J1 x) || en || J5 (xi x 0) && mo && !(xi x 2 == la0 && (xi x 3 == la1 && xi x 4 == la2)) then O else bif !op && J5 (xi x 0) && xi x 16 != 0 then O else bif !op then O ++ [JHh x] else bif J5 (xi x 0) && xi x 16 == 0 then JBx (J1 x) (J1 l) (J1 y) a0 a1 tr C O else Y0 (J1 x) (J1 l) (J1 y) a0 a1 tr C O
def We:LL:=
 bif cl then C else bif !QY (J1 x) || en || J5 (xi x 0) && mo && !(xi x 2 == la0 && (xi x 3 == la1 && xi x 4 == la2)) then C else bif !op && J5 (xi x 0) && xi x 16 != 0 then JHu (J1 x) C else bif !op then C else bif J5 (xi x 0) && xi x 16 == 0 then JFL (J1 x) (J1 l) (J1 y) a0 a1 tr C else zA (J1 x) (J1 l) (J1 y) a0 a1 tr C
def KX:Prop:=
 (!op && J5 (xi x 0) && xi x 16 != 0) = false
def Kd:Prop:=
 C.length ≤ 1000 ∧ O.length ≤ 800000
def JGV:List Prop:=
 [cl = false → (!QY (J1 x) || en || J5 (xi x 0) && mo && !(xi x 2 == la0 && (xi x 3 == la1 && xi x 4 == la2))) = false → (KX x op → ((!op) = true → (O.length + 1) * 176 ≤ 140737488355328 ∧ O.length + 1 ≤ 9223372036854775807) ∧ ((!op) = false → (J5 (xi x 0) && xi x 16 == 0) = true → Kd C O)) ∧ (KX x op → (!op) = false → (J5 (xi x 0) && xi x 16 == 0) = false → Kd C O)]
end
theorem JoD {x:List GC} {op:Bool} {cl:Bool} {en:Bool} {mo:Bool} {la0:Int} {la1:Int} {la2:Int} {C:LL} {O:LL} (hW:∀ q ∈ ([C.length ≤ 1000,O.length ≤ 800000]:List Prop),q):∀ q ∈ (JGV x op cl en mo la0 la1 la2 C O),q := by
  simp only [awc,awn,and_true] at hW
  unfold JGV
  simp only [awc,awn,and_true]
  obtain ⟨h1,h2⟩ := hW
  exact fun _ _ => ⟨fun _ => ⟨fun _ => ⟨by omega,by omega⟩,fun _ _ => ⟨h1,h2⟩⟩,fun _ _ _ => ⟨h1,h2⟩⟩
def JtB (x l y:List GC) (a0 a1:Int) (tr op cl en mo:Bool) (la0 la1 la2 er:Int) (C O:LL) := [(0,Obj.blk 66 [(102640,Ci (JGk x l y a0 a1 tr op cl en mo la0 la1 la2)),(102641,Ci (JHF x l y a0 a1 tr op cl en mo la0 la1 la2)),(102642,Ci (JH5 x l y a0 a1 tr op cl en mo la0 la1 la2)),(102643,Ci (JGb x l y a0 a1 tr op cl en mo la0 la1 la2)),(102644,Ci (JGQ x l y a0 a1 tr op cl en mo la0 la1 la2)),(102645,Ci (JGr x l y a0 a1 tr op cl en mo la0 la1 la2)),(102646,Ci (JGg x l y a0 a1 tr op cl en mo la0 la1 la2)),(102647,Ci (JHX x l y a0 a1 tr op cl en mo la0 la1 la2)),(102648,Ci (JHY x l y a0 a1 tr op cl en mo la0 la1 la2)),(102649,Ci (JBk x l y a0 a1 tr op cl en mo la0 la1 la2)),(102650,Ci (JAo x l y a0 a1 tr op cl en mo la0 la1 la2)),(102651,Ci (JBT x l y a0 a1 tr op cl en mo la0 la1 la2)),(102652,Ci (JB8 x l y a0 a1 tr op cl en mo la0 la1 la2)),(102653,Cb (JBp x l y a0 a1 tr op cl en mo la0 la1 la2)),(102654,Ci (JAp x l y a0 a1 tr op cl en mo la0 la1 la2)),(102655,Cb (JBF x l y a0 a1 tr op cl en mo la0 la1 la2)),(102656,Ci (JBc x l y a0 a1 tr op cl en mo la0 la1 la2)),(102657,Ci (JBB x l y a0 a1 tr op cl en mo la0 la1 la2)),(102658,Ci (JBW x l y a0 a1 tr op cl en mo la0 la1 la2)),(102659,Ci (JBq x l y a0 a1 tr op cl en mo la0 la1 la2)),(102660,Ci (JBa x l y a0 a1 tr op cl en mo la0 la1 la2)),(102661,Cb (JB2 x l y a0 a1 tr op cl en mo la0 la1 la2)),(102662,Ci (JBg x l y a0 a1 tr op cl en mo la0 la1 la2)),(102663,Ci (JAu x l y a0 a1 tr op cl en mo la0 la1 la2)),(102664,Ci (JBt x l y a0 a1 tr op cl en mo la0 la1 la2)),(102665,Ci (JBE x l y a0 a1 tr op cl en mo la0 la1 la2)),(102666,Ci (JBH x l y a0 a1 tr op cl en mo la0 la1 la2)),(102667,Ci (JBR x l y a0 a1 tr op cl en mo la0 la1 la2)),(102668,Ci (JBI x l y a0 a1 tr op cl en mo la0 la1 la2)),(102669,Ci (JBn x l y a0 a1 tr op cl en mo la0 la1 la2)),(102670,Ci (JBM x l y a0 a1 tr op cl en mo la0 la1 la2)),(102671,Ci (JBQ x l y a0 a1 tr op cl en mo la0 la1 la2)),(102672,Ci (JBC x l y a0 a1 tr op cl en mo la0 la1 la2)),(102673,Ci (JBG x l y a0 a1 tr op cl en mo la0 la1 la2)),(102674,Ci (JBZ x l y a0 a1 tr op cl en mo la0 la1 la2)),(102675,Cb (JBX x l y a0 a1 tr op cl en mo la0 la1 la2)),(102676,Ci (JAs x l y a0 a1 tr op cl en mo la0 la1 la2)),(102677,Cb (JB5 x l y a0 a1 tr op cl en mo la0 la1 la2)),(102678,Ci (JBb x l y a0 a1 tr op cl en mo la0 la1 la2)),(102679,Ci (JB4 x l y a0 a1 tr op cl en mo la0 la1 la2)),(102680,Ci (JBf x l y a0 a1 tr op cl en mo la0 la1 la2)),(102681,Ci (JAr x l y a0 a1 tr op cl en mo la0 la1 la2)),(102682,Ci (JB9 x l y a0 a1 tr op cl en mo la0 la1 la2)),(102683,Cb (JAt x l y a0 a1 tr op cl en mo la0 la1 la2)),(102684,Ci (JBV x l y a0 a1 tr op cl en mo la0 la1 la2)),(102685,Ci (JAn x l y a0 a1 tr op cl en mo la0 la1 la2)),(102686,Cb (JAq x l y a0 a1 tr op cl en mo la0 la1 la2)),(102634,SC.wh 102632),(102687,Cb (JAx x l y a0 a1 tr op cl en mo la0 la1 la2)),(52,SC.bool (SB.v cl)),(102688,Cb (JAy x cl en mo la0 la1 la2)),(102689,Cb (JB7 x cl en mo la0 la1 la2)),(102690,Ci (JBJ x cl en mo la0 la1 la2)),(102691,Ci (JBN x cl en mo la0 la1 la2)),(102692,Ci (JB0 x cl en mo la0 la1 la2)),(102637,SC.wh 102635),(59,Ci er)]),(102635,Obj.row false 40 22 (RowC.lst 102639 JAh (KC x l y a0 a1 tr op cl en mo la0 la1 la2 C O))),(102632,Obj.row false 40 22 (RowC.lst 102638 JAh (We x l y a0 a1 tr op cl en mo la0 la1 la2 C)))]
theorem Jmy (x l y:List GC) (a0 a1:Int) (tr op cl en mo:Bool) (la0 la1 la2 er:Int) (C O:LL) (hNeeds:∀ pN ∈ (JGV x op cl en mo la0 la1 la2 C O),pN):Runs (Jr (JB Jeq) Zf 35) (JIQ.args (Je JUE [.v x,.v l,.v y,.i a0,.i a1,.b tr,.b op,.b cl,.b en,.b mo,.i la0,.i la1,.i la2,.i er])) (JIQ.memo (Je JUE [.v x,.v l,.v y,.i a0,.i a1,.b tr,.b op,.b cl,.b en,.b mo,.i la0,.i la1,.i la2,.i er]) [C,O]) JIQ.n (SV.one (Ci (Kj x l y a0 a1 tr op cl en mo la0 la1 la2 C))) ((JtB x l y a0 a1 tr op cl en mo la0 la1 la2 er C O)) :=
  Runs.of1 (ps := (JGV x op cl en mo la0 la1 la2 C O)) (by kernel_rfl) hNeeds
def JXZ:List Gm → Qm → Option CRes
  | [.v x,.v l,.v y,.i a0,.i a1,.b tr,.b op,.b cl,.b en,.b mo,.i la0,.i la1,.i la2,.i er],[C,O] => some ⟨SV.one (Ci (Kj x l y a0 a1 tr op cl en mo la0 la1 la2 C)),
 (JtB x l y a0 a1 tr op cl en mo la0 la1 la2 er C O),[C.length ≤ 1000,O.length ≤ 800000],[],102693⟩
  | _,_ => none
theorem JtL:Qg Tryz.prog 35 (Z4 JUE JIQ JXZ) := by
  refine QZ (JD JSP 35) fun ps ls r hr hn _ => ?_
  unfold JXZ at hr
  split at hr
  · cases hr; exact ⟨_,Jmy _ _ _ _ _ _ _ _ _ _ _ _ _ _ _ _ (JoD (by exact hn)),fun _ => rfl⟩
  · cases hr
def Jjr:List (Nat × JY) := (35,Z4 JUE JIQ JXZ) :: Jeq
theorem JYI:Known Tryz.prog (JB Jjr) Zf := J7 JSP JtL
def JA5:Tpl := ⟨[.one (.ptr 0 0)],Ks,62⟩
def JH6:List GK := [.v Jx,.v Jx,.i,.i,.b,.b,.b,.b,.b,.i,.i,.i,.i]
def ZN (er:Int) (O:LL):LL :=
 bif er != 0 then [] else O
def JsM (l y:List GC) (a0 a1:Int) (tr op cl en mo:Bool) (la0 la1 la2 er:Int) (O C:LL) := [(0,Obj.blk 66 [(3,Ci (xi l 0)),(4,Ci (xi l 1)),(5,Ci (xi l 2)),(6,Ci (xi l 3)),(7,Ci (xi l 4)),(8,Ci (xi l 5)),(9,Ci (xi l 6)),(10,Ci (xi l 7)),(11,Ci (xi l 8)),(12,Ci (xi l 9)),(13,Ci (xi l 10)),(14,Ci (xi l 11)),(15,Ci (xi l 12)),(16,Cb (xb l 13)),(17,Ci (xi l 14)),(18,Cb (xb l 15)),(19,Ci (xi l 16)),(20,Ci (xi l 17)),(21,Ci (xi l 18)),(22,Ci (xi l 19)),(23,Ci (xi l 20)),(24,Cb (xb l 21)),(25,Ci (xi y 0)),(26,Ci (xi y 1)),(27,Ci (xi y 2)),(28,Ci (xi y 3)),(29,Ci (xi y 4)),(30,Ci (xi y 5)),(31,Ci (xi y 6)),(32,Ci (xi y 7)),(33,Ci (xi y 8)),(34,Ci (xi y 9)),(35,Ci (xi y 10)),(36,Ci (xi y 11)),(37,Ci (xi y 12)),(38,Cb (xb y 13)),(39,Ci (xi y 14)),(40,Cb (xb y 15)),(41,Ci (xi y 16)),(42,Ci (xi y 17)),(43,Ci (xi y 18)),(44,Ci (xi y 19)),(45,Ci (xi y 20)),(46,Cb (xb y 21)),(47,Ci a0),(48,Ci a1),(49,Cb tr),(50,SC.wh 1),(51,Cb op),(52,Cb cl),(53,Cb en),(54,Cb mo),(55,Ci la0),(56,Ci la1),(57,Ci la2),(92,SC.wh 90),(59,Ci er)]),(90,Obj.row false 40 22 (RowC.lit 91 [])),(89,Obj.row false 40 22 (RowC.lst 88 JAh (ZN er O))),(1,Obj.row false 40 22 (RowC.lst 60 JAh C))]
theorem Jck (l y:List GC) (a0 a1:Int) (tr op cl en mo:Bool) (la0 la1 la2 er:Int) (C O:LL):Runs (Jr (JB Jjr) Zf 36) (JA5.args (Je JH6 [.v l,.v y,.i a0,.i a1,.b tr,.b op,.b cl,.b en,.b mo,.i la0,.i la1,.i la2,.i er])) (JA5.memo (Je JH6 [.v l,.v y,.i a0,.i a1,.b tr,.b op,.b cl,.b en,.b mo,.i la0,.i la1,.i la2,.i er]) [C,O]) JA5.n (SV.tup [(false,[SC.wh 89]),(false,[Ci (Jo er)])]) ((JsM l y a0 a1 tr op cl en mo la0 la1 la2 er O C)) :=
  Runs.of1 (ps := []) (by kernel_rfl) (by simp)
def JI6:List Gm → Qm → Option CRes
  | [.v l,.v y,.i a0,.i a1,.b tr,.b op,.b cl,.b en,.b mo,.i la0,.i la1,.i la2,.i er],[C,O] => some ⟨SV.tup [(false,[SC.wh 89]),(false,[Ci (Jo er)])],
 (JsM l y a0 a1 tr op cl en mo la0 la1 la2 er O C),[],[],93⟩
  | _,_ => none
theorem JkS:Qg Tryz.prog 36 (Z4 JH6 JA5 JI6) := by
  refine QZ (JD JYI 36) fun ps ls r hr hn _ => ?_
  unfold JI6 at hr
  split at hr
  · cases hr; exact ⟨_,Jck _ _ _ _ _ _ _ _ _ _ _ _ _ _ _,fun _ => rfl⟩
  · cases hr
def JOr:List (Nat × JY) := (36,Z4 JH6 JA5 JI6) :: Jjr
theorem JKz:Known Tryz.prog (JB JOr) Zf := J7 JYI JkS
def JIN:Tpl := ⟨[.one (.ptr 0 0),.agg pI],Ks,62⟩
def JUJ:List GK := [.v Jx,.v Jx,.v Jx,.i,.i,.b,.b,.b,.b,.b,.i,.i,.i,.i]
section
variable (x l y:List GC) (a0 a1:Int) (tr op cl en mo:Bool) (la0 la1 la2 er:Int) (C O:LL)
def Yh:Int:=
 bif er == 0 then Jo (Kj (J1 x) (J1 l) (J1 y) a0 a1 tr op cl en mo la0 la1 la2 C) else Jo er
def KS:LL:=
 bif er == 0 then ZN (Kj (J1 x) (J1 l) (J1 y) a0 a1 tr op cl en mo la0 la1 la2 C) (KC (J1 x) (J1 l) (J1 y) a0 a1 tr op cl en mo la0 la1 la2 C O) else ZN er O
def JEQ:Int:=
 bif er == 0 then JGk (J1 x) (J1 l) (J1 y) a0 a1 tr op cl en mo la0 la1 la2 else xi l 0
def JEF:Int:=
 bif er == 0 then JHF (J1 x) (J1 l) (J1 y) a0 a1 tr op cl en mo la0 la1 la2 else xi l 1
def JEH:Int:=
 bif er == 0 then JH5 (J1 x) (J1 l) (J1 y) a0 a1 tr op cl en mo la0 la1 la2 else xi l 2
def JER:Int:=
 bif er == 0 then JGb (J1 x) (J1 l) (J1 y) a0 a1 tr op cl en mo la0 la1 la2 else xi l 3
def JEK:Int:=
 bif er == 0 then JGQ (J1 x) (J1 l) (J1 y) a0 a1 tr op cl en mo la0 la1 la2 else xi l 4
def JEN:Int:=
 bif er == 0 then JGr (J1 x) (J1 l) (J1 y) a0 a1 tr op cl en mo la0 la1 la2 else xi l 5
def JEM:Int:=
 bif er == 0 then JGg (J1 x) (J1 l) (J1 y) a0 a1 tr op cl en mo la0 la1 la2 else xi l 6
def JEE:Int:=
 bif er == 0 then JHX (J1 x) (J1 l) (J1 y) a0 a1 tr op cl en mo la0 la1 la2 else xi l 7
def qi:Int:=
 bif er == 0 then JHY (J1 x) (J1 l) (J1 y) a0 a1 tr op cl en mo la0 la1 la2 else xi l 8
def qS:Int:=
 bif er == 0 then JBk (J1 x) (J1 l) (J1 y) a0 a1 tr op cl en mo la0 la1 la2 else xi l 9
def jm:Int:=
 bif er == 0 then JAo (J1 x) (J1 l) (J1 y) a0 a1 tr op cl en mo la0 la1 la2 else xi l 10
def jy:Int:=
 bif er == 0 then JBT (J1 x) (J1 l) (J1 y) a0 a1 tr op cl en mo la0 la1 la2 else xi l 11
def qX:Int:=
 bif er == 0 then JB8 (J1 x) (J1 l) (J1 y) a0 a1 tr op cl en mo la0 la1 la2 else xi l 12
def q8:Bool:=
 bif er == 0 then JBp (J1 x) (J1 l) (J1 y) a0 a1 tr op cl en mo la0 la1 la2 else xb l 13
def qf:Int:=
 bif er == 0 then JAp (J1 x) (J1 l) (J1 y) a0 a1 tr op cl en mo la0 la1 la2 else xi l 14
def jz:Bool:=
 bif er == 0 then JBF (J1 x) (J1 l) (J1 y) a0 a1 tr op cl en mo la0 la1 la2 else xb l 15
def qq:Int:=
 bif er == 0 then JBc (J1 x) (J1 l) (J1 y) a0 a1 tr op cl en mo la0 la1 la2 else xi l 16
def jg:Int:=
 bif er == 0 then JBB (J1 x) (J1 l) (J1 y) a0 a1 tr op cl en mo la0 la1 la2 else xi l 17
def qt:Int:=
 bif er == 0 then JBW (J1 x) (J1 l) (J1 y) a0 a1 tr op cl en mo la0 la1 la2 else xi l 18
def jp:Int:=
 bif er == 0 then JBq (J1 x) (J1 l) (J1 y) a0 a1 tr op cl en mo la0 la1 la2 else xi l 19
def qj:Int:=
 bif er == 0 then JBa (J1 x) (J1 l) (J1 y) a0 a1 tr op cl en mo la0 la1 la2 else xi l 20
def qd:Bool:=
 bif er == 0 then JB2 (J1 x) (J1 l) (J1 y) a0 a1 tr op cl en mo la0 la1 la2 else xb l 21
def ju:Int:=
 bif er == 0 then JBg (J1 x) (J1 l) (J1 y) a0 a1 tr op cl en mo la0 la1 la2 else xi y 0
def qV:Int:=
 bif er == 0 then JAu (J1 x) (J1 l) (J1 y) a0 a1 tr op cl en mo la0 la1 la2 else xi y 1
def qY:Int:=
 bif er == 0 then JBt (J1 x) (J1 l) (J1 y) a0 a1 tr op cl en mo la0 la1 la2 else xi y 2
def qE:Int:=
 bif er == 0 then JBE (J1 x) (J1 l) (J1 y) a0 a1 tr op cl en mo la0 la1 la2 else xi y 3
def qO:Int:=
 bif er == 0 then JBH (J1 x) (J1 l) (J1 y) a0 a1 tr op cl en mo la0 la1 la2 else xi y 4
def jh:Int:=
 bif er == 0 then JBR (J1 x) (J1 l) (J1 y) a0 a1 tr op cl en mo la0 la1 la2 else xi y 5
def jl:Int:=
 bif er == 0 then JBI (J1 x) (J1 l) (J1 y) a0 a1 tr op cl en mo la0 la1 la2 else xi y 6
def qC:Int:=
 bif er == 0 then JBn (J1 x) (J1 l) (J1 y) a0 a1 tr op cl en mo la0 la1 la2 else xi y 7
def qB:Int:=
 bif er == 0 then JBM (J1 x) (J1 l) (J1 y) a0 a1 tr op cl en mo la0 la1 la2 else xi y 8
def qQ:Int:=
 bif er == 0 then JBQ (J1 x) (J1 l) (J1 y) a0 a1 tr op cl en mo la0 la1 la2 else xi y 9
def qm:Int:=
 bif er == 0 then JBC (J1 x) (J1 l) (J1 y) a0 a1 tr op cl en mo la0 la1 la2 else xi y 10
def qk:Int:=
 bif er == 0 then JBG (J1 x) (J1 l) (J1 y) a0 a1 tr op cl en mo la0 la1 la2 else xi y 11
def qo:Int:=
 bif er == 0 then JBZ (J1 x) (J1 l) (J1 y) a0 a1 tr op cl en mo la0 la1 la2 else xi y 12
def qg:Bool:=
 bif er == 0 then JBX (J1 x) (J1 l) (J1 y) a0 a1 tr op cl en mo la0 la1 la2 else xb y 13
def qK:Int:=
 bif er == 0 then JAs (J1 x) (J1 l) (J1 y) a0 a1 tr op cl en mo la0 la1 la2 else xi y 14
def jw:Bool:=
 bif er == 0 then JB5 (J1 x) (J1 l) (J1 y) a0 a1 tr op cl en mo la0 la1 la2 else xb y 15
def qe:Int:=
 bif er == 0 then JBb (J1 x) (J1 l) (J1 y) a0 a1 tr op cl en mo la0 la1 la2 else xi y 16
def qA:Int:=
 bif er == 0 then JB4 (J1 x) (J1 l) (J1 y) a0 a1 tr op cl en mo la0 la1 la2 else xi y 17
def qW:Int:=
 bif er == 0 then JBf (J1 x) (J1 l) (J1 y) a0 a1 tr op cl en mo la0 la1 la2 else xi y 18
def qp:Int:=
 bif er == 0 then JAr (J1 x) (J1 l) (J1 y) a0 a1 tr op cl en mo la0 la1 la2 else xi y 19
def jn:Int:=
 bif er == 0 then JB9 (J1 x) (J1 l) (J1 y) a0 a1 tr op cl en mo la0 la1 la2 else xi y 20
def qF:Bool:=
 bif er == 0 then JAt (J1 x) (J1 l) (J1 y) a0 a1 tr op cl en mo la0 la1 la2 else xb y 21
def ql:Int:=
 bif er == 0 then JBV (J1 x) (J1 l) (J1 y) a0 a1 tr op cl en mo la0 la1 la2 else a0
def qM:Int:=
 bif er == 0 then JAn (J1 x) (J1 l) (J1 y) a0 a1 tr op cl en mo la0 la1 la2 else a1
def qJ:Bool:=
 bif er == 0 then JAq (J1 x) (J1 l) (J1 y) a0 a1 tr op cl en mo la0 la1 la2 else tr
def j3:Bool:=
 bif er == 0 then JAx (J1 x) (J1 l) (J1 y) a0 a1 tr op cl en mo la0 la1 la2 else op
def q9:Bool:=
 bif er == 0 then JAy (J1 x) cl en mo la0 la1 la2 else en
def jt:Bool:=
 bif er == 0 then JB7 (J1 x) cl en mo la0 la1 la2 else mo
def ji:Int:=
 bif er == 0 then JBJ (J1 x) cl en mo la0 la1 la2 else la0
def jo:Int:=
 bif er == 0 then JBN (J1 x) cl en mo la0 la1 la2 else la1
def qL:Int:=
 bif er == 0 then JB0 (J1 x) cl en mo la0 la1 la2 else la2
def Kx:Int:=
 bif er == 0 then Kj (J1 x) (J1 l) (J1 y) a0 a1 tr op cl en mo la0 la1 la2 C else er
def Yp:LL:=
 bif er == 0 then We (J1 x) (J1 l) (J1 y) a0 a1 tr op cl en mo la0 la1 la2 C else C
def JHS:List Prop:=
 [(er == 0) = true → C.length ≤ 1000 ∧ O.length ≤ 800000]
end
theorem Jo6 {er:Int} {C:LL} {O:LL} (hW:∀ q ∈ ([C.length ≤ 1000,O.length ≤ 800000]:List Prop),q):∀ q ∈ (JHS er C O),q := by
  simp only [awc,awn,and_true] at hW
  unfold JHS
  simp only [awc,awn,and_true]
  exact fun _ => hW
def Js8 (x l y:List GC) (a0 a1:Int) (tr op cl en mo:Bool) (la0 la1 la2 er:Int) (C O:LL) := [(102999,Obj.row false 40 22 (RowC.lst 102998 JAh (KS x l y a0 a1 tr op cl en mo la0 la1 la2 er C O))),(0,Obj.blk 66 [(103002,Ci (JEQ x l y a0 a1 tr op cl en mo la0 la1 la2 er)),(103003,Ci (JEF x l y a0 a1 tr op cl en mo la0 la1 la2 er)),(103004,Ci (JEH x l y a0 a1 tr op cl en mo la0 la1 la2 er)),(103005,Ci (JER x l y a0 a1 tr op cl en mo la0 la1 la2 er)),(103006,Ci (JEK x l y a0 a1 tr op cl en mo la0 la1 la2 er)),(103007,Ci (JEN x l y a0 a1 tr op cl en mo la0 la1 la2 er)),(103008,Ci (JEM x l y a0 a1 tr op cl en mo la0 la1 la2 er)),(103009,Ci (JEE x l y a0 a1 tr op cl en mo la0 la1 la2 er)),(103010,Ci (qi x l y a0 a1 tr op cl en mo la0 la1 la2 er)),(103011,Ci (qS x l y a0 a1 tr op cl en mo la0 la1 la2 er)),(103012,Ci (jm x l y a0 a1 tr op cl en mo la0 la1 la2 er)),(103013,Ci (jy x l y a0 a1 tr op cl en mo la0 la1 la2 er)),(103014,Ci (qX x l y a0 a1 tr op cl en mo la0 la1 la2 er)),(103015,Cb (q8 x l y a0 a1 tr op cl en mo la0 la1 la2 er)),(103016,Ci (qf x l y a0 a1 tr op cl en mo la0 la1 la2 er)),(103017,Cb (jz x l y a0 a1 tr op cl en mo la0 la1 la2 er)),(103018,Ci (qq x l y a0 a1 tr op cl en mo la0 la1 la2 er)),(103019,Ci (jg x l y a0 a1 tr op cl en mo la0 la1 la2 er)),(103020,Ci (qt x l y a0 a1 tr op cl en mo la0 la1 la2 er)),(103021,Ci (jp x l y a0 a1 tr op cl en mo la0 la1 la2 er)),(103022,Ci (qj x l y a0 a1 tr op cl en mo la0 la1 la2 er)),(103023,Cb (qd x l y a0 a1 tr op cl en mo la0 la1 la2 er)),(103024,Ci (ju x l y a0 a1 tr op cl en mo la0 la1 la2 er)),(103025,Ci (qV x l y a0 a1 tr op cl en mo la0 la1 la2 er)),(103026,Ci (qY x l y a0 a1 tr op cl en mo la0 la1 la2 er)),(103027,Ci (qE x l y a0 a1 tr op cl en mo la0 la1 la2 er)),(103028,Ci (qO x l y a0 a1 tr op cl en mo la0 la1 la2 er)),(103029,Ci (jh x l y a0 a1 tr op cl en mo la0 la1 la2 er)),(103030,Ci (jl x l y a0 a1 tr op cl en mo la0 la1 la2 er)),(103031,Ci (qC x l y a0 a1 tr op cl en mo la0 la1 la2 er)),(103032,Ci (qB x l y a0 a1 tr op cl en mo la0 la1 la2 er)),(103033,Ci (qQ x l y a0 a1 tr op cl en mo la0 la1 la2 er)),(103034,Ci (qm x l y a0 a1 tr op cl en mo la0 la1 la2 er)),(103035,Ci (qk x l y a0 a1 tr op cl en mo la0 la1 la2 er)),(103036,Ci (qo x l y a0 a1 tr op cl en mo la0 la1 la2 er)),(103037,Cb (qg x l y a0 a1 tr op cl en mo la0 la1 la2 er)),(103038,Ci (qK x l y a0 a1 tr op cl en mo la0 la1 la2 er)),(103039,Cb (jw x l y a0 a1 tr op cl en mo la0 la1 la2 er)),(103040,Ci (qe x l y a0 a1 tr op cl en mo la0 la1 la2 er)),(103041,Ci (qA x l y a0 a1 tr op cl en mo la0 la1 la2 er)),(103042,Ci (qW x l y a0 a1 tr op cl en mo la0 la1 la2 er)),(103043,Ci (qp x l y a0 a1 tr op cl en mo la0 la1 la2 er)),(103044,Ci (jn x l y a0 a1 tr op cl en mo la0 la1 la2 er)),(103045,Cb (qF x l y a0 a1 tr op cl en mo la0 la1 la2 er)),(103046,Ci (ql x l y a0 a1 tr op cl en mo la0 la1 la2 er)),(103047,SC.int IntKind.i64 (SI.v (qM x l y a0 a1 tr op cl en mo la0 la1 la2 er))),(103048,Cb (qJ x l y a0 a1 tr op cl en mo la0 la1 la2 er)),(102994,SC.wh 102992),(103049,Cb (j3 x l y a0 a1 tr op cl en mo la0 la1 la2 er)),(52,Cb cl),(103050,Cb (q9 x cl en mo la0 la1 la2 er)),(103051,Cb (jt x cl en mo la0 la1 la2 er)),(103052,Ci (ji x cl en mo la0 la1 la2 er)),(103053,Ci (jo x cl en mo la0 la1 la2 er)),(103054,Ci (qL x cl en mo la0 la1 la2 er)),(102997,SC.wh 102995),(103055,Ci (Kx x l y a0 a1 tr op cl en mo la0 la1 la2 er C))]),(102995,Obj.row false 40 22 (RowC.lit 103001 [])),(102992,Obj.row false 40 22 (RowC.lst 103000 JAh (Yp x l y a0 a1 tr op cl en mo la0 la1 la2 er C)))]
theorem Joy (x l y:List GC) (a0 a1:Int) (tr op cl en mo:Bool) (la0 la1 la2 er:Int) (C O:LL) (hNeeds:∀ pN ∈ (JHS er C O),pN):Runs (Jr (JB JOr) Zf 19) (JIN.args (Je JUJ [.v x,.v l,.v y,.i a0,.i a1,.b tr,.b op,.b cl,.b en,.b mo,.i la0,.i la1,.i la2,.i er])) (JIN.memo (Je JUJ [.v x,.v l,.v y,.i a0,.i a1,.b tr,.b op,.b cl,.b en,.b mo,.i la0,.i la1,.i la2,.i er]) [C,O]) JIN.n (SV.tup [(false,[SC.wh 102999]),(false,[Ci (Yh x l y a0 a1 tr op cl en mo la0 la1 la2 er C)])]) ((Js8 x l y a0 a1 tr op cl en mo la0 la1 la2 er C O)) :=
  Runs.of1 (ps := (JHS er C O)) (by kernel_rfl) hNeeds
def JWg:List Gm → Qm → Option CRes
  | [.v x,.v l,.v y,.i a0,.i a1,.b tr,.b op,.b cl,.b en,.b mo,.i la0,.i la1,.i la2,.i er],[C,O] => some ⟨SV.tup [(false,[SC.wh 102999]),(false,[Ci (Yh x l y a0 a1 tr op cl en mo la0 la1 la2 er C)])],
 (Js8 x l y a0 a1 tr op cl en mo la0 la1 la2 er C O),[C.length ≤ 1000,O.length ≤ 800000],[],103056⟩
  | _,_ => none
theorem JtS:Qg Tryz.prog 19 (Z4 JUJ JIN JWg) := by
  refine QZ (JD JKz 19) fun ps ls r hr hn _ => ?_
  unfold JWg at hr
  split at hr
  · cases hr; exact ⟨_,Joy _ _ _ _ _ _ _ _ _ _ _ _ _ _ _ _ (Jo6 (by exact hn)),fun _ => rfl⟩
  · cases hr
def JkN:List (Nat × JY) := (19,Z4 JUJ JIN JWg) :: JOr
theorem JWF:Known Tryz.prog (JB JkN) Zf := J7 JKz JtS
def JG4:Tpl := ⟨[.one (.ptr 0 0)],Ks,62⟩
def JNU:List GK := [.v Jx,.v Jx,.i,.i,.b,.b,.b,.b,.b,.i,.i,.i,.i]
section
variable (op cl:Bool) (er:Int) (O:LL)
def Kc:Int:=
 Jo (bif er == 0 && (cl || op) then 13 else er)
def YZ:Int:=
 bif er == 0 && (cl || op) then 13 else er
def Ki:LL:=
 ZN (bif er == 0 && (cl || op) then 13 else er) O
end
def Js2 (l y:List GC) (a0 a1:Int) (tr op en mo:Bool) (la0 la1 la2:Int) (cl:Bool) (er:Int) (O C:LL) := [(0,Obj.blk 66 [(3,Ci (xi l 0)),(4,Ci (xi l 1)),(5,Ci (xi l 2)),(6,Ci (xi l 3)),(7,Ci (xi l 4)),(8,Ci (xi l 5)),(9,Ci (xi l 6)),(10,Ci (xi l 7)),(11,Ci (xi l 8)),(12,Ci (xi l 9)),(13,Ci (xi l 10)),(14,Ci (xi l 11)),(15,Ci (xi l 12)),(16,Cb (xb l 13)),(17,Ci (xi l 14)),(18,Cb (xb l 15)),(19,Ci (xi l 16)),(20,Ci (xi l 17)),(21,Ci (xi l 18)),(22,Ci (xi l 19)),(23,Ci (xi l 20)),(24,Cb (xb l 21)),(25,Ci (xi y 0)),(26,Ci (xi y 1)),(27,Ci (xi y 2)),(28,Ci (xi y 3)),(29,Ci (xi y 4)),(30,Ci (xi y 5)),(31,Ci (xi y 6)),(32,Ci (xi y 7)),(33,Ci (xi y 8)),(34,Ci (xi y 9)),(35,Ci (xi y 10)),(36,Ci (xi y 11)),(37,Ci (xi y 12)),(38,Cb (xb y 13)),(39,Ci (xi y 14)),(40,Cb (xb y 15)),(41,Ci (xi y 16)),(42,Ci (xi y 17)),(43,Ci (xi y 18)),(44,Ci (xi y 19)),(45,Ci (xi y 20)),(46,Cb (xb y 21)),(47,Ci a0),(48,Ci a1),(49,Cb tr),(50,SC.wh 1),(51,Cb op),(90,Cb true),(53,Cb en),(54,Cb mo),(55,Ci la0),(56,Ci la1),(57,Ci la2),(185,SC.wh 183),(86,Ci (YZ op cl er))]),(183,Obj.row false 40 22 (RowC.lit 184 [])),(182,Obj.row false 40 22 (RowC.lst 181 JAh (Ki op cl er O))),(1,Obj.row false 40 22 (RowC.lst 60 JAh C))]
theorem Jkb (l y:List GC) (a0 a1:Int) (tr op cl en mo:Bool) (la0 la1 la2 er:Int) (C O:LL):Runs (Jr (JB JkN) Zf 21) (JG4.args (Je JNU [.v l,.v y,.i a0,.i a1,.b tr,.b op,.b cl,.b en,.b mo,.i la0,.i la1,.i la2,.i er])) (JG4.memo (Je JNU [.v l,.v y,.i a0,.i a1,.b tr,.b op,.b cl,.b en,.b mo,.i la0,.i la1,.i la2,.i er]) [C,O]) JG4.n (SV.tup [(false,[SC.wh 182]),(false,[Ci (Kc op cl er)])]) ((Js2 l y a0 a1 tr op en mo la0 la1 la2 cl er O C)) :=
  Runs.of1 (ps := []) (by kernel_rfl) (by simp)
def JRl:List Gm → Qm → Option CRes
  | [.v l,.v y,.i a0,.i a1,.b tr,.b op,.b cl,.b en,.b mo,.i la0,.i la1,.i la2,.i er],[C,O] => some ⟨SV.tup [(false,[SC.wh 182]),(false,[Ci (Kc op cl er)])],
 (Js2 l y a0 a1 tr op en mo la0 la1 la2 cl er O C),[],[],191⟩
  | _,_ => none
theorem JrX:Qg Tryz.prog 21 (Z4 JNU JG4 JRl) := by
  refine QZ (JD JWF 21) fun ps ls r hr hn _ => ?_
  unfold JRl at hr
  split at hr
  · cases hr; exact ⟨_,Jkb _ _ _ _ _ _ _ _ _ _ _ _ _ _ _,fun _ => rfl⟩
  · cases hr
def JeB:List (Nat × JY) := (21,Z4 JNU JG4 JRl) :: JkN
theorem JSx:Known Tryz.prog (JB JeB) Zf := J7 JWF JrX
def kv:Tpl := ⟨[.one (.ptr 0 0)],Ks,62⟩
def JGc:List GK := [.v Jx,.v Jx,.i,.i,.b,.b,.b,.b,.b,.i,.i,.i,.i]
def QV (op:Bool) (er:Int) (C:LL):Int :=
 bif er != 0 || !op then 0 else IntKind.i64.wrap (1 + Int.ofNat C.length)
def Jpb (l y:List GC) (a0 a1:Int) (tr op cl en mo:Bool) (la0 la1 la2 er:Int) (C O:LL) := [(0,Obj.blk 66 [(3,Ci (xi l 0)),(4,Ci (xi l 1)),(5,Ci (xi l 2)),(6,Ci (xi l 3)),(7,Ci (xi l 4)),(8,Ci (xi l 5)),(9,Ci (xi l 6)),(10,Ci (xi l 7)),(11,Ci (xi l 8)),(12,Ci (xi l 9)),(13,Ci (xi l 10)),(14,Ci (xi l 11)),(15,Ci (xi l 12)),(16,Cb (xb l 13)),(17,Ci (xi l 14)),(18,Cb (xb l 15)),(19,Ci (xi l 16)),(20,Ci (xi l 17)),(21,Ci (xi l 18)),(22,Ci (xi l 19)),(23,Ci (xi l 20)),(24,Cb (xb l 21)),(25,Ci (xi y 0)),(26,Ci (xi y 1)),(27,Ci (xi y 2)),(28,Ci (xi y 3)),(29,Ci (xi y 4)),(30,Ci (xi y 5)),(31,Ci (xi y 6)),(32,Ci (xi y 7)),(33,Ci (xi y 8)),(34,Ci (xi y 9)),(35,Ci (xi y 10)),(36,Ci (xi y 11)),(37,Ci (xi y 12)),(38,Cb (xb y 13)),(39,Ci (xi y 14)),(40,Cb (xb y 15)),(41,Ci (xi y 16)),(42,Ci (xi y 17)),(43,Ci (xi y 18)),(44,Ci (xi y 19)),(45,Ci (xi y 20)),(46,Cb (xb y 21)),(47,Ci a0),(48,Ci a1),(49,Cb tr),(50,SC.wh 1),(51,Cb op),(52,Cb cl),(53,Cb en),(54,Cb mo),(55,Ci la0),(56,Ci la1),(57,Ci la2),(58,SC.wh 2),(59,Ci er)]),(1,Obj.row false 40 22 (RowC.lst 60 JAh C)),(2,Obj.row false 40 22 (RowC.lst 61 JAh O))]
theorem Jdk (l y:List GC) (a0 a1:Int) (tr op cl en mo:Bool) (la0 la1 la2 er:Int) (C O:LL):Runs (Jr (JB JeB) Zf 20) (kv.args (Je JGc [.v l,.v y,.i a0,.i a1,.b tr,.b op,.b cl,.b en,.b mo,.i la0,.i la1,.i la2,.i er])) (kv.memo (Je JGc [.v l,.v y,.i a0,.i a1,.b tr,.b op,.b cl,.b en,.b mo,.i la0,.i la1,.i la2,.i er]) [C,O]) kv.n (SV.one (Ci (QV op er C))) ((Jpb l y a0 a1 tr op cl en mo la0 la1 la2 er C O)) :=
  Runs.of1 (ps := []) (by kernel_rfl) (by simp)
def JHo:List Gm → Qm → Option CRes
  | [.v l,.v y,.i a0,.i a1,.b tr,.b op,.b cl,.b en,.b mo,.i la0,.i la1,.i la2,.i er],[C,O] => some ⟨SV.one (Ci (QV op er C)),
 (Jpb l y a0 a1 tr op cl en mo la0 la1 la2 er C O),[],[],84⟩
  | _,_ => none
theorem Jj2:Qg Tryz.prog 20 (Z4 JGc kv JHo) := by
  refine QZ (JD JSx 20) fun ps ls r hr hn _ => ?_
  unfold JHo at hr
  split at hr
  · cases hr; exact ⟨_,Jdk _ _ _ _ _ _ _ _ _ _ _ _ _ _ _,fun _ => rfl⟩
  · cases hr
def JQF:List (Nat × JY) := (20,Z4 JGc kv JHo) :: JeB
theorem JLF:Known Tryz.prog (JB JQF) Zf := J7 JSx Jj2
def JJ9:Tpl := ⟨[],[],0⟩
def Jsr := [(2,Obj.blk 66 [(3,SC.int IntKind.i64 (SI.c 0)),(4,SC.int IntKind.i64 (SI.c 0)),(5,SC.int IntKind.i64 (SI.c 0)),(6,SC.int IntKind.i64 (SI.c 0)),(7,SC.int IntKind.i64 (SI.c 0)),(8,SC.int IntKind.i64 (SI.c 0)),(9,SC.int IntKind.i64 (SI.c 0)),(10,SC.int IntKind.i64 (SI.c 0)),(11,SC.int IntKind.i64 (SI.c 0)),(12,SC.int IntKind.i64 (SI.c 0)),(13,SC.int IntKind.i64 (SI.c 0)),(14,SC.int IntKind.i64 (SI.c 0)),(15,SC.int IntKind.i64 (SI.c 0)),(16,SC.bool (SB.c false)),(17,SC.int IntKind.i64 (SI.c 0)),(18,SC.bool (SB.c false)),(19,SC.int IntKind.i64 (SI.c 0)),(20,SC.int IntKind.i64 (SI.c 0)),(21,SC.int IntKind.i64 (SI.c 0)),(22,SC.int IntKind.i64 (SI.c 0)),(23,SC.int IntKind.i64 (SI.c 0)),(24,SC.bool (SB.c false)),(25,SC.int IntKind.i64 (SI.c 0)),(26,SC.int IntKind.i64 (SI.c 0)),(27,SC.int IntKind.i64 (SI.c 0)),(28,SC.int IntKind.i64 (SI.c 0)),(29,SC.int IntKind.i64 (SI.c 0)),(30,SC.int IntKind.i64 (SI.c 0)),(31,SC.int IntKind.i64 (SI.c 0)),(32,SC.int IntKind.i64 (SI.c 0)),(33,SC.int IntKind.i64 (SI.c 0)),(34,SC.int IntKind.i64 (SI.c 0)),(35,SC.int IntKind.i64 (SI.c 0)),(36,SC.int IntKind.i64 (SI.c 0)),(37,SC.int IntKind.i64 (SI.c 0)),(38,SC.bool (SB.c false)),(39,SC.int IntKind.i64 (SI.c 0)),(40,SC.bool (SB.c false)),(41,SC.int IntKind.i64 (SI.c 0)),(42,SC.int IntKind.i64 (SI.c 0)),(43,SC.int IntKind.i64 (SI.c 0)),(44,SC.int IntKind.i64 (SI.c 0)),(45,SC.int IntKind.i64 (SI.c 0)),(46,SC.bool (SB.c false)),(47,SC.int IntKind.i64 (SI.c 0)),(48,SC.int IntKind.i64 (SI.c 0)),(49,SC.bool (SB.c false)),(64,SC.wh 62),(51,SC.bool (SB.c false)),(52,SC.bool (SB.c false)),(53,SC.bool (SB.c false)),(54,SC.bool (SB.c false)),(55,SC.int IntKind.i64 (SI.c 0)),(56,SC.int IntKind.i64 (SI.c 0)),(57,SC.int IntKind.i64 (SI.c 0)),(67,SC.wh 65),(59,SC.int IntKind.i64 (SI.c 0))]),(65,Obj.row false 40 22 (RowC.lit 66 [])),(62,Obj.row false 40 22 (RowC.lit 63 []))]
theorem JnX:Runs (Jr (JB JQF) Zf 18) (JJ9.args []) (JJ9.memo [] []) JJ9.n (SV.one (SC.ptr 2 0)) (Jsr) :=
  Runs.of1 (ps := []) (by kernel_rfl) (by simp)
def JYq:List Pm → Qm → Option CRes
  | [],[] => some ⟨SV.one (SC.ptr 2 0),
 Jsr,[],[],68⟩
  | _,_ => none
theorem JuJ:Qg Tryz.prog 18 (JS JJ9 JYq) := by
  refine JH (JD JLF 18) fun ps ls r hr hn _ => ?_
  unfold JYq at hr
  split at hr
  · cases hr; exact ⟨_,JnX,fun _ => rfl⟩
  · cases hr
def Jk8:List (Nat × JY) := (18,JS JJ9 JYq) :: JQF
theorem JWh:Known Tryz.prog (JB Jk8) Zf := J7 JLF JuJ
def JNW:Tpl := ⟨[.agg [.int .i64,.int .i64,.int .i64],.agg [.int .i64,.int .i64,.int .i64]],[],0⟩
theorem Jrf (a b c d e f:Int):Runs (Jr (JB Jk8) Zf 26) (JNW.args [.i a,.i b,.i c,.i d,.i e,.i f]) (JNW.memo [.i a,.i b,.i c,.i d,.i e,.i f] []) JNW.n (SV.agg [Ci (JI a d),Ci (JI b e),Ci (JI c f)]) ([]) :=
  Runs.of1 (ps := []) (by kernel_rfl) (by simp)
def JdA:List Pm → Qm → Option CRes
  | [.i a,.i b,.i c,.i d,.i e,.i f],[] => some ⟨SV.agg [Ci (JI a d),Ci (JI b e),Ci (JI c f)],
 [],[],[],35⟩
  | _,_ => none
theorem Jve:Qg Tryz.prog 26 (JS JNW JdA) := by
  refine JH (JD JWh 26) fun ps ls r hr hn _ => ?_
  unfold JdA at hr
  split at hr
  · cases hr; exact ⟨_,Jrf _ _ _ _ _ _,fun _ => rfl⟩
  · cases hr
def JsO:List (Nat × JY) := (26,JS JNW JdA) :: Jk8
theorem JbG:Known Tryz.prog (JB JsO) Zf := J7 JWh Jve
def JOZ:Tpl := ⟨[.agg [.int .i64,.int .i64,.int .i64],.agg [.int .i64,.int .i64,.int .i64]],[],0⟩
theorem Jpp (a b c d e f:Int):Runs (Jr (JB JsO) Zf 27) (JOZ.args [.i a,.i b,.i c,.i d,.i e,.i f]) (JOZ.memo [.i a,.i b,.i c,.i d,.i e,.i f] []) JOZ.n (SV.agg [Ci (J0 a d),Ci (J0 b e),Ci (J0 c f)]) ([]) :=
  Runs.of1 (ps := []) (by kernel_rfl) (by simp)
def Jd9:List Pm → Qm → Option CRes
  | [.i a,.i b,.i c,.i d,.i e,.i f],[] => some ⟨SV.agg [Ci (J0 a d),Ci (J0 b e),Ci (J0 c f)],
 [],[],[],35⟩
  | _,_ => none
theorem Jvn:Qg Tryz.prog 27 (JS JOZ Jd9) := by
  refine JH (JD JbG 27) fun ps ls r hr hn _ => ?_
  unfold Jd9 at hr
  split at hr
  · cases hr; exact ⟨_,Jpp _ _ _ _ _ _,fun _ => rfl⟩
  · cases hr
def Jr1:List (Nat × JY) := (27,JS JOZ Jd9) :: JsO
theorem Jbw:Known Tryz.prog (JB Jr1) Zf := J7 JbG Jvn
def JFA:Tpl := ⟨[.one (.wh 0)],[(0,.row true 3 1 1 [.int .i64])],2⟩
def JNe (L:LL):Bool :=
 decide (Int.ofNat L.length ≤ 120)
theorem JkA (L:LL):Runs (Jr (JB Jr1) Zf 7) (JFA.args []) (JFA.memo [] [L]) JFA.n (SV.one (Cb (JNe L))) ([(0,Obj.row true 3 1 (RowC.lst 1 [CK.int IntKind.i64] L))]) :=
  Runs.of1 (ps := []) (by kernel_rfl) (by simp)
def JRB:List Pm → Qm → Option CRes
  | [],[L] => some ⟨SV.one (Cb (JNe L)),
 [(0,Obj.row true 3 1 (RowC.lst 1 [CK.int IntKind.i64] L))],[],[],7⟩
  | _,_ => none
theorem Jqp:Qg Tryz.prog 7 (JS JFA JRB) := by
  refine JH (JD Jbw 7) fun ps ls r hr hn _ => ?_
  unfold JRB at hr
  split at hr
  · cases hr; exact ⟨_,JkA _,fun _ => rfl⟩
  · cases hr
def Jde:List (Nat × JY) := (7,JS JFA JRB) :: Jr1
theorem JTB:Known Tryz.prog (JB Jde) Zf := J7 Jbw Jqp
def JNE:Tpl := ⟨[.one (.wh 0)],[(0,.row true 3 1 1 [.int .i64])],2⟩
theorem JqD (L:LL):Runs (Jr (JB Jde) Zf 10) (JNE.args []) (JNE.memo [] [L]) JNE.n (SV.one (SC.ptr 5 0)) ([(5,Obj.blk 57 [(6,SC.wh 0),(7,SC.int IntKind.i64 (SI.c 0))]),(0,Obj.row true 3 1 (RowC.lst 1 [CK.int IntKind.i64] L))]) :=
  Runs.of1 (ps := []) (by kernel_rfl) (by simp)
def JcV:List Pm → Qm → Option CRes
  | [],[L] => some ⟨SV.one (SC.ptr 5 0),
 [(5,Obj.blk 57 [(6,SC.wh 0),(7,SC.int IntKind.i64 (SI.c 0))]),(0,Obj.row true 3 1 (RowC.lst 1 [CK.int IntKind.i64] L))],[],[],10⟩
  | _,_ => none
theorem Jv9:Qg Tryz.prog 10 (JS JNE JcV) := by
  refine JH (JD JTB 10) fun ps ls r hr hn _ => ?_
  unfold JcV at hr
  split at hr
  · cases hr; exact ⟨_,JqD _,fun _ => rfl⟩
  · cases hr
def JrO:List (Nat × JY) := (10,JS JNE JcV) :: Jde
theorem Jbh:Known Tryz.prog (JB JrO) Zf := J7 JTB Jv9
def JIW:Tpl := ⟨[.one (.ptr 0 0),.one (.int .i64)],[(0,.blk 57 [(2,.wh 1),(3,.int .i64)]),(1,.row true 3 1 4 [.int .i64])],5⟩
section
variable (n a:Int) (L:LL)
def Jm:Int:=
 bif decide (a ≥ Int.ofNat L.length) then 0 else JVP ((L.getD (IntKind.i64.wrap (IntKind.i64.wrap (a + 1) - 1)).toNat []).getD 0 0) n
def J2:Int:=
 bif decide (a ≥ Int.ofNat L.length) then a else IntKind.i64.wrap (a + 1)
def JOI:Int:=
 IntKind.i64.wrap (IntKind.i64.wrap (a + 1) - 1)
def JHV:List Prop:=
 [decide (a ≥ Int.ofNat L.length) = false → 0 ≤ JOI a ∧ (JOI a).toNat < L.length ∧ (JOI a).toNat < L.length ∧ n ≠ 0]
end
theorem JEh (a:Int) (L:LL) (h:0 ≤ a) (hl:L.length ≤ 1000000):0 ≤ J2 a L := by
  unfold J2
  cases hd:decide (a ≥ Int.ofNat L.length)
  · have h4:a < (L.length:Int) := by simpa using hd
    rw [cond_false,Zy (by omega) (by omega)]
    omega
  · exact h
theorem JOp (n a:Int) (L:LL) (h:1 ≤ n) (hb:n ≤ 4611686018427387904):0 ≤ Jm n a L ∧ Jm n a L < n := by
  unfold Jm
  cases decide (a ≥ Int.ofNat L.length)
  · exact Ju4 _ _ h hb
  · simp only [cond_true]; omega
theorem JoN {n:Int} {a:Int} {L:LL} (hW:∀ q ∈ ([0 ≤ a,L.length ≤ 1000000,n ≠ 0]:List Prop),q):∀ q ∈ (JHV n a L),q := by
  simp only [awc,awn,and_true] at hW
  intro q hq
  unfold JHV at hq
  simp only [List.mem_cons,List.not_mem_nil,or_false] at hq
  obtain ⟨h1,h2,h3⟩ := hW
  subst hq
  intro h
  have h4:a < (L.length:Int) := by simpa using h
  have e:JOI a = a := by unfold JOI; rw [Zy (x := a + 1) (by omega) (by omega),Zy (by omega) (by omega)]; omega
  rw [e]
  exact ⟨h1,by omega,by omega,h3⟩
theorem Jo4 (n a:Int) (L:LL) (hNeeds:∀ pN ∈ (JHV n a L),pN):Runs (Jr (JB JrO) Zf 23) (JIW.args [.i n,.i a]) (JIW.memo [.i n,.i a] [L]) JIW.n (SV.one (Ci (Jm n a L))) ([(0,Obj.blk 57 [(2,SC.wh 1),(54,Ci (J2 a L))]),(1,Obj.row true 3 1 (RowC.lst 4 [CK.int IntKind.i64] L))]) :=
  Runs.of1 (ps := (JHV n a L)) (by kernel_rfl) hNeeds
def JXt:List Pm → Qm → Option CRes
  | [.i n,.i a],[L] => some ⟨SV.one (Ci (Jm n a L)),
 [(0,Obj.blk 57 [(2,SC.wh 1),(54,Ci (J2 a L))]),(1,Obj.row true 3 1 (RowC.lst 4 [CK.int IntKind.i64] L))],[0 ≤ a,L.length ≤ 1000000,n ≠ 0],[],55⟩
  | _,_ => none
theorem Jta:Qg Tryz.prog 23 (JS JIW JXt) := by
  refine JH (JD Jbh 23) fun ps ls r hr hn _ => ?_
  unfold JXt at hr
  split at hr
  · cases hr; exact ⟨_,Jo4 _ _ _ (JoN (by exact hn)),fun _ => rfl⟩
  · cases hr
def Ji6:List (Nat × JY) := (23,JS JIW JXt) :: JrO
theorem JVj:Known Tryz.prog (JB Ji6) Zf := J7 Jbh Jta
def JEn:Tpl := ⟨[.one (.ptr 0 0),.one (.int .i64),.one (.int .i64)],[(0,.blk 57 [(2,.wh 1),(3,.int .i64)]),(1,.row true 3 1 4 [.int .i64])],5⟩
def Jd (n m a:Int) (L:LL):Int :=
 IntKind.i64.wrap (n + Jm (IntKind.i64.wrap (IntKind.i64.wrap (m - n) + 1)) a L)
def JDd (n m a:Int) (L:LL):List Prop :=
 [0 ≤ a,L.length ≤ 1000000,IntKind.i64.wrap (IntKind.i64.wrap (m - n) + 1) ≠ 0]
theorem JAU (n m a:Int) (L:LL) (h:n ≤ m) (h1:-1000000 ≤ n) (h2:m ≤ 1000000):n ≤ (Jd n m a L) ∧ (Jd n m a L) ≤ m := by
  have e:IntKind.i64.wrap (IntKind.i64.wrap (m - n) + 1) = m - n + 1 := by rw [Zy (x := m - n) (by omega) (by omega),Zy (by omega) (by omega)]
  have k := JOp (m - n + 1) a L (by omega) (by omega)
  unfold Jd
  rw [e,Zy (by omega) (by omega)]
  omega
theorem Jif {n:Int} {m:Int} {a:Int} {L:LL} (hW:∀ q ∈ ([0 ≤ a,L.length ≤ 1000000,n ≤ m ∧ -1000000 ≤ n ∧ m ≤ 1000000]:List Prop),q):∀ q ∈ (JDd n m a L),q := by
  simp only [awc,awn,and_true] at hW
  intro q hq
  unfold JDd at hq
  simp only [List.mem_cons,List.not_mem_nil,or_false] at hq
  obtain ⟨h1,h2,h3⟩ := hW
  have e:IntKind.i64.wrap (IntKind.i64.wrap (m - n) + 1) = m - n + 1 := by rw [Zy (x := m - n) (by omega) (by omega),Zy (by omega) (by omega)]
  rcases hq with rfl | rfl | rfl
  · exact h1
  · exact h2
  · rw [e]; omega
theorem JjZ (n m a:Int) (L:LL) (hNeeds:∀ pN ∈ (JDd n m a L),pN):Runs (Jr (JB Ji6) Zf 24) (JEn.args [.i n,.i m,.i a]) (JEn.memo [.i n,.i m,.i a] [L]) JEn.n (SV.one (Ci (Jd n m a L))) ([(0,Obj.blk 57 [(2,SC.wh 1),(66,Ci (J2 a L))]),(1,Obj.row true 3 1 (RowC.lst 4 [CK.int IntKind.i64] L))]) :=
  Runs.of1 (ps := (JDd n m a L)) (by kernel_rfl) hNeeds
def JOz:List Pm → Qm → Option CRes
  | [.i n,.i m,.i a],[L] => some ⟨SV.one (Ci (Jd n m a L)),
 [(0,Obj.blk 57 [(2,SC.wh 1),(66,Ci (J2 a L))]),(1,Obj.row true 3 1 (RowC.lst 4 [CK.int IntKind.i64] L))],[0 ≤ a,L.length ≤ 1000000,n ≤ m ∧ -1000000 ≤ n ∧ m ≤ 1000000],[],70⟩
  | _,_ => none
theorem Jsp:Qg Tryz.prog 24 (JS JEn JOz) := by
  refine JH (JD JVj 24) fun ps ls r hr hn _ => ?_
  unfold JOz at hr
  split at hr
  · cases hr; exact ⟨_,JjZ _ _ _ _ (Jif (by exact hn)),fun _ => rfl⟩
  · cases hr
def Jcn:List (Nat × JY) := (24,JS JEn JOz) :: Ji6
theorem JSD:Known Tryz.prog (JB Jcn) Zf := J7 JVj Jsp
def JHq:Tpl := ⟨[.one (.ptr 0 0),.one (.int .i64)],[(0,.blk 57 [(2,.wh 1),(3,.int .i64)]),(1,.row true 3 1 4 [.int .i64])],5⟩
section
variable (n a:Int) (L:LL)
def WI:Int:=
 Jd (IntKind.i64.wrap (0 - n)) n a L
def WK:Int:=
 Jd (IntKind.i64.wrap (0 - n)) n (J2 a L) L
def ZB:Int:=
 Jd (IntKind.i64.wrap (0 - n)) n (J2 (J2 a L) L) L
def JHZ:List Prop:=
 [0 ≤ a,L.length ≤ 1000000,IntKind.i64.wrap (0 - n) ≤ n ∧ -1000000 ≤ IntKind.i64.wrap (0 - n) ∧ n ≤ 1000000,0 ≤ J2 a L,L.length ≤ 1000000,IntKind.i64.wrap (0 - n) ≤ n ∧ -1000000 ≤ IntKind.i64.wrap (0 - n) ∧ n ≤ 1000000,0 ≤ J2 (J2 a L) L,L.length ≤ 1000000,IntKind.i64.wrap (0 - n) ≤ n ∧ -1000000 ≤ IntKind.i64.wrap (0 - n) ∧ n ≤ 1000000]
end
theorem JpN {n:Int} {a:Int} {L:LL} (hW:∀ q ∈ ([0 ≤ a,L.length ≤ 1000000,0 ≤ n ∧ n ≤ 1000000]:List Prop),q):∀ q ∈ (JHZ n a L),q := by
  simp only [awc,awn,and_true] at hW
  intro q hq
  unfold JHZ at hq
  simp only [List.mem_cons,List.not_mem_nil,or_false] at hq
  obtain ⟨h1,h2,h3⟩ := hW
  have nn:∀ x,0 ≤ x → 0 ≤ J2 x L := fun x h => JEh x L h h2
  have e:IntKind.i64.wrap (0 - n) = 0 - n := Zy (by omega) (by omega)
  rw [e] at hq
  rcases hq with rfl | rfl | rfl | rfl | rfl | rfl | rfl | rfl | rfl
  · exact h1
  · exact h2
  · omega
  · exact nn _ h1
  · exact h2
  · omega
  · exact nn _ (nn _ h1)
  · exact h2
  · omega
theorem JnN (n a:Int) (L:LL) (hNeeds:∀ pN ∈ (JHZ n a L),pN):Runs (Jr (JB Jcn) Zf 25) (JHq.args [.i n,.i a]) (JHq.memo [.i n,.i a] [L]) JHq.n (SV.agg [Ci (WI n a L),Ci (WK n a L),Ci (ZB n a L)]) ([(0,Obj.blk 57 [(2,SC.wh 1),(234,Ci (J2 (J2 (J2 a L) L) L))]),(1,Obj.row true 3 1 (RowC.lst 4 [CK.int IntKind.i64] L))]) :=
  Runs.of1 (ps := (JHZ n a L)) (by kernel_rfl) hNeeds
def JYR:List Pm → Qm → Option CRes
  | [.i n,.i a],[L] => some ⟨SV.agg [Ci (WI n a L),Ci (WK n a L),Ci (ZB n a L)],
 [(0,Obj.blk 57 [(2,SC.wh 1),(234,Ci (J2 (J2 (J2 a L) L) L))]),(1,Obj.row true 3 1 (RowC.lst 4 [CK.int IntKind.i64] L))],[0 ≤ a,L.length ≤ 1000000,0 ≤ n ∧ n ≤ 1000000],[],244⟩
  | _,_ => none
theorem Jtt:Qg Tryz.prog 25 (JS JHq JYR) := by
  refine JH (JD JSD 25) fun ps ls r hr hn _ => ?_
  unfold JYR at hr
  split at hr
  · cases hr; exact ⟨_,JnN _ _ _ (JpN (by exact hn)),fun _ => rfl⟩
  · cases hr
def JLs:List (Nat × JY) := (25,JS JHq JYR) :: Jcn
theorem JVX:Known Tryz.prog (JB JLs) Zf := J7 JSD Jtt
structure CS where
  k:Nat
  a:Int
  x:Int
  y:Int
  z:Int
  R:LL
section
variable (x y z u v w c d e dir fe sd ra n r i:Int) (L:LL) (s:CS)
def JwJ:Nat × SX.Obj:= (1,.row true 3 1 (.lst 4 [.int .i64] L))
def pU:Int:= bif i.toNat.beq 0 then r else bif i.toNat.beq 1 then 0 else bif i.toNat.beq 2 then IntKind.i64.wrap (0 - r) else 0
def pW:Int:= bif i.toNat.beq 0 then 0 else bif i.toNat.beq 1 then r else bif i.toNat.beq 2 then 0 else IntKind.i64.wrap (0 - r)
def itO:List Int:= [10,0,0,0,0,0,0,0,0,0,0,0,0,0,0,0,0,0,0,n,0,1]
def itL:List Int:= [2,0,x,y,z,u,v,w,17,0,0,0,0,0,fe,0,sd,ra,0,0,0,0]
def itA:List Int:= [3,0,x,y,z,u,v,w,17,c,d,e,dir,0,fe,0,sd,ra,0,0,0,0]
def stO:CS:= ⟨s.k - 1,J2 (J2 s.a L) L,s.x,s.y,s.z,s.R ++ [itO (Jm 4 (J2 s.a L) L)]⟩
end
section
variable (L:LL) (sz sd ra:Int) (s:CS)
def stZ:CS:= ⟨s.k - 1,J2 (J2 s.a L) L,s.x,s.y,IntKind.i64.wrap (s.z + Jd (-50) 50 (J2 s.a L) L),s.R ++ [itL s.x s.y s.z s.x s.y (IntKind.i64.wrap (s.z + Jd (-50) 50 (J2 s.a L) L)) 30000 sd ra]⟩
def aR:Int:= IntKind.i64.wrap (IntKind.i64.wrap (Jd 1 4 (J2 s.a L) L * ra) + 20)
def aI:Int:= Jm 4 (J2 (J2 s.a L) L) L
def aK:Int:= (IntKind.i64.wrap (aI L s + Jd 1 3 (J2 (J2 (J2 s.a L) L) L) L)).tmod 4
def aC:Int:= J0 s.x (pU (aR L ra s) (aI L s))
def aD:Int:= J0 s.y (pW (aR L ra s) (aI L s))
def aX:Int:= JI (aC L ra s) (pU (aR L ra s) (aK L s))
def aY:Int:= JI (aD L ra s) (pW (aR L ra s) (aK L s))
def stA:CS:= ⟨s.k - 1,J2 (J2 (J2 (J2 (J2 s.a L) L) L) L) L,aX L ra s,aY L ra s,JI (J0 s.z 0) 0,
  s.R ++ [itA s.x s.y s.z (aX L ra s) (aY L ra s) (JI (J0 s.z 0) 0) (aC L ra s) (aD L ra s) (J0 s.z 0) (IntKind.i64.wrap (1 - IntKind.i64.wrap (2 * Jm 2 (J2 (J2 (J2 (J2 s.a L) L) L) L) L))) 60000 sd ra]⟩
def dX:Int:= JI s.x (Jd (IntKind.i64.wrap (0 - sz)) sz (J2 s.a L) L)
def dY:Int:= JI s.y (Jd (IntKind.i64.wrap (0 - sz)) sz (J2 (J2 s.a L) L) L)
end
def Jvw (L:LL) (sd ra sz:Int) (s:CS):CS := ⟨s.k - 1,J2 (J2 (J2 s.a L) L) L,dX L sz s,dY L sz s,JI s.z 0,s.R ++ [itL s.x s.y s.z (dX L sz s) (dY L sz s) (JI s.z 0) 60000 sd ra]⟩
def WH (L:LL) (sd ra sz:Int) (s:CS):CS :=
  bif Jm 10 s.a L == 0 then stO L s else bif Jm 10 s.a L == 1 then stZ L sd ra s else bif (bif Jm 10 s.a L == 2 then Jm 10 s.a L == 2 else Jm 10 s.a L == 3) then stA L sd ra s else Jvw L sd ra sz s
def JNo (L:LL) (sd ra sz:Int):Nat → CS → CS
  | 0,s => s
  | k + 1,s => JNo L sd ra sz k (WH L sd ra sz s)
def Qw (L:LL) (sd ra sz:Int):Fam CS CS where
  k := 100
  E s := [(9,ent 1000000000 (.one (I (Int.ofNat s.k)))),(8,ent 1000000001 (.one (.wh 860))),(6,ent 526 (.one (.ptr 522 0))),(5,ent 275 (.one (I sz))),(4,ent 270 (.one (I ra))),(3,ent 137 (.one (I sd))),(0,ent 0 (.one (.ptr 0 0)))]
  M s := [(0,.blk 57 [(2,.wh 1),(1000000002,I s.a)]),JwJ L,(522,.blk 38 [(1000000003,I s.x),(1000000004,I s.y),(1000000005,I s.z)]),YM 860 1000000006 s.R]
  out s := .leaf (.exit 0) [(8,ent 855 (.one (.wh 860))),(6,ent 526 (.one (.ptr 522 0))),(5,ent 275 (.one (I sz))),(4,ent 270 (.one (I ra))),(3,ent 137 (.one (I sd))),(0,ent 0 (.one (.ptr 0 0)))] [(0,.blk 57 [(2,.wh 1),(856,I s.a)]),JwJ L,(522,.blk 38 [(857,I s.x),(858,I s.y),(859,I s.z)]),YM 860 861 s.R]
  fin s := JNo L sd ra sz s.k s
  next s i := match i with
    | 0 => stO L s
    | 1 => stZ L sd ra s
    | 2 => stA L sd ra s
    | _ => Jvw L sd ra sz s
  J s := 0 ≤ s.a ∧ L.length ≤ 1000000 ∧ (0 ≤ sz ∧ sz ≤ 1000000) ∧ s.R.length + s.k ≤ 1000
  μ s := s.k
section
variable (sd:Int) (L:LL) (sz ra:Int) (s:CS)
def Jk4:Prop:=
 decide (Int.ofNat s.k > 0) = true
def Jjv:Prop:=
 (Jm 10 s.a L == 0) = true
def JPv:Prop:=
 (s.R.length + 1) * 176 ≤ 140737488355328 ∧ s.R.length + 1 ≤ 9223372036854775807
def JRT:Prop:=
 (Jm 10 s.a L == 0) = false
def JjE:Prop:=
 (Jm 10 s.a L == 1) = true
def JVf:Prop:=
 (Jm 10 s.a L == 1) = false
def JPM:Bool:=
 Jm 10 s.a L == 2
def Jic:Prop:=
 (bif JPM L s then JPM L s else Jm 10 s.a L == 3) = true
def Jrj:Int:=
 IntKind.i64.wrap (Jd 1 4 (J2 s.a L) L * ra)
def JQj:Int:=
 IntKind.i64.wrap (Jrj L ra s + 20)
def JK8:List SC:=
 [SC.int IntKind.i64 (mkI (isC (mkI (isC (SI.v (Jd 1 4 (J2 s.a L) L)) (SI.v ra)) (Jrj L ra s)) (SI.c 20)) (JQj L ra s))]
def qT:Int:=
 IntKind.i64.wrap (0 - JQj L ra s)
def WE:Int:=
 (IntKind.i64.wrap (Jm 4 (J2 (J2 s.a L) L) L + Jd 1 3 (J2 (J2 (J2 s.a L) L) L) L)).tmod 4
def JdI:Prop:=
 (bif JPM L s then JPM L s else Jm 10 s.a L == 3) = false
def JlZ:Int:=
 IntKind.i64.wrap (s.z + Jd (-50) 50 (J2 s.a L) L)
def JdQ:List Int:=
 [0,sd,ra,0,0,0,0]
def JmF:Int:=
 J0 s.x (bif (Jm 4 (J2 (J2 s.a L) L) L).toNat.beq 0 then JQj L ra s else bif (Jm 4 (J2 (J2 s.a L) L) L).toNat.beq 1 then 0 else bif (Jm 4 (J2 (J2 s.a L) L) L).toNat.beq 2 then qT L ra s else 0)
def Jms:Int:=
 JI (JmF L ra s) (bif (WE L s).toNat.beq 0 then JQj L ra s else bif (WE L s).toNat.beq 1 then 0 else bif (WE L s).toNat.beq 2 then qT L ra s else 0)
def Jlt:Int:=
 J0 s.y (bif (Jm 4 (J2 (J2 s.a L) L) L).toNat.beq 0 then 0 else bif (Jm 4 (J2 (J2 s.a L) L) L).toNat.beq 1 then JQj L ra s else bif (Jm 4 (J2 (J2 s.a L) L) L).toNat.beq 2 then 0 else qT L ra s)
def Jlh:Int:=
 JI (Jlt L ra s) (bif (WE L s).toNat.beq 0 then 0 else bif (WE L s).toNat.beq 1 then JQj L ra s else bif (WE L s).toNat.beq 2 then 0 else qT L ra s)
def Jlf:Int:=
 JI s.x (Jd (IntKind.i64.wrap (0 - sz)) sz (J2 s.a L) L)
def Jma:Int:=
 JI s.y (Jd (IntKind.i64.wrap (0 - sz)) sz (J2 (J2 s.a L) L) L)
end
def JQc (L:LL) (sd ra sz:Int) (s:CS):List Prop :=
 [Jk4 s → 0 ≤ s.a ∧ L.length ≤ 1000000 ∧ Int.ofNat 10 ≠ 0 ∧ (Jjv L s → 0 ≤ J2 s.a L ∧ L.length ≤ 1000000 ∧ Int.ofNat 4 ≠ 0 ∧ JPv s) ∧ (JRT L s → (JjE L s → 0 ≤ J2 s.a L ∧ L.length ≤ 1000000 ∧ (-50 ≤ 50 ∧ -1000000 ≤ -50 ∧ Int.ofNat 50 ≤ 1000000) ∧ JPv s) ∧ (JVf L s → Jic L s → 0 ≤ J2 s.a L ∧ L.length ≤ 1000000 ∧ (Int.ofNat 1 ≤ 4 ∧ -1000000 ≤ 1 ∧ Int.ofNat 4 ≤ 1000000) ∧ 0 ≤ J2 (J2 s.a L) L ∧ L.length ≤ 1000000 ∧ Int.ofNat 4 ≠ 0 ∧ 0 ≤ J2 (J2 (J2 s.a L) L) L ∧ L.length ≤ 1000000 ∧ (Int.ofNat 1 ≤ 3 ∧ -1000000 ≤ 1 ∧ Int.ofNat 3 ≤ 1000000) ∧ 0 ≤ Jm 4 (J2 (J2 s.a L) L) L ∧ (Jm 4 (J2 (J2 s.a L) L) L).toNat < 4 ∧ (Jm 4 (J2 (J2 s.a L) L) L).toNat < 4 ∧ (Jm 4 (J2 (J2 s.a L) L) L).toNat < (jS 2 4 (ZZ (ZZ (ZZ (ZZ (List.map (fun j => [SC.int IntKind.i64 (SI.c 0),SC.int IntKind.i64 (SI.c 0)][j % 2]?.getD SC.nilp) (List.range 8)) 0 (ZZ [SC.int IntKind.i64 (SI.c 0),SC.int IntKind.i64 (SI.c 0)] 0 (JK8 L ra s))) 2 (ZZ [SC.int IntKind.i64 (SI.c 0),SC.int IntKind.i64 (SI.c 0)] 1 (JK8 L ra s))) 4 (ZZ [SC.int IntKind.i64 (SI.c 0),SC.int IntKind.i64 (SI.c 0)] 0 [SC.int IntKind.i64 (SI.v (qT L ra s))])) 6 (ZZ [SC.int IntKind.i64 (SI.c 0),SC.int IntKind.i64 (SI.c 0)] 1 [SC.int IntKind.i64 (SI.v (qT L ra s))]))).length ∧ 0 ≤ Jm 4 (J2 (J2 s.a L) L) L ∧ (Jm 4 (J2 (J2 s.a L) L) L).toNat < 4 ∧ (Jm 4 (J2 (J2 s.a L) L) L).toNat < 4 ∧ (Jm 4 (J2 (J2 s.a L) L) L).toNat < (jS 2 4 (ZZ (ZZ (ZZ (ZZ (List.map (fun j => [SC.int IntKind.i64 (SI.c 0),SC.int IntKind.i64 (SI.c 0)][j % 2]?.getD SC.nilp) (List.range 8)) 0 (ZZ [SC.int IntKind.i64 (SI.c 0),SC.int IntKind.i64 (SI.c 0)] 0 (JK8 L ra s))) 2 (ZZ [SC.int IntKind.i64 (SI.c 0),SC.int IntKind.i64 (SI.c 0)] 1 (JK8 L ra s))) 4 (ZZ [SC.int IntKind.i64 (SI.c 0),SC.int IntKind.i64 (SI.c 0)] 0 [SC.int IntKind.i64 (SI.v (qT L ra s))])) 6 (ZZ [SC.int IntKind.i64 (SI.c 0),SC.int IntKind.i64 (SI.c 0)] 1 [SC.int IntKind.i64 (SI.v (qT L ra s))]))).length ∧ 0 ≤ WE L s ∧ (WE L s).toNat < 4 ∧ (WE L s).toNat < (jS 2 4 (ZZ (ZZ (ZZ (ZZ (List.map (fun j => [SC.int IntKind.i64 (SI.c 0),SC.int IntKind.i64 (SI.c 0)][j % 2]?.getD SC.nilp) (List.range 8)) 0 (ZZ [SC.int IntKind.i64 (SI.c 0),SC.int IntKind.i64 (SI.c 0)] 0 (JK8 L ra s))) 2 (ZZ [SC.int IntKind.i64 (SI.c 0),SC.int IntKind.i64 (SI.c 0)] 1 (JK8 L ra s))) 4 (ZZ [SC.int IntKind.i64 (SI.c 0),SC.int IntKind.i64 (SI.c 0)] 0 [SC.int IntKind.i64 (SI.v (qT L ra s))])) 6 (ZZ [SC.int IntKind.i64 (SI.c 0),SC.int IntKind.i64 (SI.c 0)] 1 [SC.int IntKind.i64 (SI.v (qT L ra s))]))).length ∧ 0 ≤ J2 (J2 (J2 (J2 s.a L) L) L) L ∧ L.length ≤ 1000000 ∧ Int.ofNat 2 ≠ 0 ∧ JPv s)) ∧ (JRT L s → JVf L s → JdI L s → 0 ≤ J2 s.a L ∧ L.length ≤ 1000000 ∧ (IntKind.i64.wrap (0 - sz) ≤ sz ∧ -1000000 ≤ IntKind.i64.wrap (0 - sz) ∧ sz ≤ 1000000) ∧ 0 ≤ J2 (J2 s.a L) L ∧ L.length ≤ 1000000 ∧ (IntKind.i64.wrap (0 - sz) ≤ sz ∧ -1000000 ≤ IntKind.i64.wrap (0 - sz) ∧ sz ≤ 1000000) ∧ JPv s),Jk4 s → (Jjv L s → (0 ≤ ((Qw L sd ra sz).next s 0).a ∧ L.length ≤ 1000000 ∧ (0 ≤ sz ∧ sz ≤ 1000000) ∧ ((Qw L sd ra sz).next s 0).R.length + ((Qw L sd ra sz).next s 0).k ≤ 1000) ∧ (Qw L sd ra sz).μ ((Qw L sd ra sz).next s 0) < (Qw L sd ra sz).μ s ∧ (Qw L sd ra sz).fin ((Qw L sd ra sz).next s 0) = (Qw L sd ra sz).fin s ∧ Int.ofNat ((Qw L sd ra sz).next s 0).k = IntKind.i64.wrap (Int.ofNat s.k - 1) ∧ ((Qw L sd ra sz).next s 0).a = J2 (J2 s.a L) L ∧ ((Qw L sd ra sz).next s 0).x = s.x ∧ ((Qw L sd ra sz).next s 0).y = s.y ∧ ((Qw L sd ra sz).next s 0).z = s.z ∧ ((Qw L sd ra sz).next s 0).R = s.R ++ [[10,0,0,0,0,0,0,0,0,0,0,0,0,0,0,0,0,0,0,Jm 4 (J2 s.a L) L,0,1]]) ∧ (JRT L s → (JjE L s → (0 ≤ ((Qw L sd ra
 sz).next s 1).a ∧ L.length ≤ 1000000 ∧ (0 ≤ sz ∧ sz ≤ 1000000) ∧ ((Qw L sd ra sz).next s 1).R.length + ((Qw L sd ra sz).next s 1).k ≤ 1000) ∧ (Qw L sd ra sz).μ ((Qw L sd ra sz).next s 1) < (Qw L sd ra sz).μ s ∧ (Qw L sd ra sz).fin ((Qw L sd ra sz).next s 1) = (Qw L sd ra sz).fin s ∧ Int.ofNat ((Qw L sd ra sz).next s 1).k = IntKind.i64.wrap (Int.ofNat s.k - 1) ∧ ((Qw L sd ra sz).next s 1).a = J2 (J2 s.a L) L ∧ ((Qw L sd ra sz).next s 1).x = s.x ∧ ((Qw L sd ra sz).next s 1).y = s.y ∧ ((Qw L sd ra sz).next s 1).z = JlZ L s ∧ ((Qw L sd ra sz).next s 1).R = s.R ++ [2 :: 0 :: s.x :: s.y :: s.z :: s.x :: s.y :: JlZ L s :: 17 :: 0 :: 0 :: 0 :: 0 :: 0 :: 30000 :: JdQ sd ra]) ∧ (JVf L s → (Jic L s → (0 ≤ ((Qw L sd ra sz).next s 2).a ∧ L.length ≤ 1000000 ∧ (0 ≤ sz ∧ sz ≤ 1000000) ∧ ((Qw L sd ra sz).next s 2).R.length + ((Qw L sd ra sz).next s 2).k ≤ 1000) ∧ (Qw L sd ra sz).μ ((Qw L sd ra sz).next s 2) < (Qw L sd ra sz).μ s ∧ (Qw L sd ra sz).fin ((Qw L sd ra sz).next s 2) = (Qw L sd ra sz).fin s ∧ Int.ofNat ((Qw L sd ra sz).next s 2).k = IntKind.i64.wrap (Int.ofNat s.k - 1) ∧ ((Qw L sd ra sz).next s 2).a = J2 (J2 (J2 (J2 (J2 s.a L) L) L) L) L ∧ ((Qw L sd ra sz).next s 2).x = Jms L ra s ∧ ((Qw L sd ra sz).next s 2).y = Jlh L ra s ∧ ((Qw L sd ra sz).next s 2).z = JI (J0 s.z 0) 0 ∧ ((Qw L sd ra sz).next s 2).R = s.R ++ [3 :: 0 :: s.x :: s.y :: s.z :: Jms L ra s :: Jlh L ra s :: JI (J0 s.z 0) 0 :: 17 :: JmF L ra s :: Jlt L ra s :: J0 s.z 0 :: IntKind.i64.wrap (1 - IntKind.i64.wrap (2 * Jm 2 (J2 (J2 (J2 (J2 s.a L) L) L) L) L)) :: 0 :: 60000 :: JdQ sd ra]) ∧ (JdI L s → (0 ≤ ((Qw L sd ra sz).next s 3).a ∧ L.length ≤ 1000000 ∧ (0 ≤ sz ∧ sz ≤ 1000000) ∧ ((Qw L sd ra sz).next s 3).R.length + ((Qw L sd ra sz).next s 3).k ≤ 1000) ∧ (Qw L sd ra sz).μ ((Qw L sd ra sz).next s 3) < (Qw L sd ra sz).μ s ∧ (Qw L sd ra sz).fin ((Qw L sd ra sz).next s 3) = (Qw L sd ra sz).fin s ∧ Int.ofNat ((Qw L sd ra sz).next s 3).k = IntKind.i64.wrap (Int.ofNat s.k - 1) ∧ ((Qw L sd ra sz).next s 3).a = J2 (J2 (J2 s.a L) L) L ∧ ((Qw L sd ra sz).next s 3).x = Jlf L sz s ∧ ((Qw L sd ra sz).next s 3).y = Jma L sz s ∧ ((Qw L sd ra sz).next s 3).z = JI s.z 0 ∧ ((Qw L sd ra sz).next s 3).R = s.R ++ [2 :: 0 :: s.x :: s.y :: s.z :: Jlf L sz s :: Jma L sz s :: JI s.z 0 :: 17 :: 0 :: 0 :: 0 :: 0 :: 0 :: 60000 :: JdQ sd ra]))),decide (Int.ofNat s.k > 0) = false → ((Qw L sd ra sz).fin s).a = s.a ∧ ((Qw L sd ra sz).fin s).x = s.x ∧ ((Qw L sd ra sz).fin s).y = s.y ∧ ((Qw L sd ra sz).fin s).z = s.z ∧ ((Qw L sd ra sz).fin s).R = s.R]
theorem Jof (L:LL) (sd ra sz:Int) (s:CS) (hNeeds:∀ pN ∈ (JQc L sd ra sz s),pN):Q4 (Xh (Qw L sd ra sz) (QW Tryz.prog (JB JLs) Zf 9 0) 854 s) :=
  Q4.of (ps := (JQc L sd ra sz s)) (by kernel_rfl) (by kernel_rfl) hNeeds
theorem JiW (L:LL) (sd ra sz:Int):Z1 (Qw L sd ra sz) (QW Tryz.prog (JB JLs) Zf 9 0) 854 := by
  intro s hJ
  obtain ⟨h1,h2,h3,h4⟩:0 ≤ s.a ∧ L.length ≤ 1000000 ∧ (0 ≤ sz ∧ sz ≤ 1000000) ∧ s.R.length + s.k ≤ 1000 := hJ
  have nn:∀ x,0 ≤ x → 0 ≤ J2 x L := fun x h => JEh x L h h2
  have n1 := nn _ h1
  have n2 := nn _ n1
  have n3 := nn _ n2
  have n4 := nn _ n3
  have n5 := nn _ n4
  have ez:IntKind.i64.wrap (0 - sz) = 0 - sz := Zy (by omega) (by omega)
  have e2:JPv s := by unfold JPv; omega
  have ri := JOp 4 (J2 (J2 s.a L) L) L (by omega) (by omega)
  have ri':(Jm 4 (J2 (J2 s.a L) L) L).toNat < 4 := by omega
  have rk := JAU 1 3 (J2 (J2 (J2 s.a L) L) L) L (by omega) (by omega) (by omega)
  have rj:0 ≤ WE L s ∧ (WE L s).toNat < 4 := by
    unfold WE
    rw [Zy (by omega) (by omega)]
    have := Int.tmod_lt_of_pos (Jm 4 (J2 (J2 s.a L) L) L + Jd 1 3 (J2 (J2 (J2 s.a L) L) L) L) (b := 4) (by omega)
    have := Int.tmod_nonneg (a := Jm 4 (J2 (J2 s.a L) L) L + Jd 1 3 (J2 (J2 (J2 s.a L) L) L) L) 4 (by omega)
    omega
  have rz:IntKind.i64.wrap (0 - sz) ≤ sz ∧ -1000000 ≤ IntKind.i64.wrap (0 - sz) ∧ sz ≤ 1000000 := by rw [ez]; omega
  refine Jof L sd ra sz s ?_
  unfold JQc
  simp only [awc,awn,and_true]
  refine ⟨fun _ => ⟨h1,h2,by decide,fun _ => ⟨n1,h2,by decide,e2⟩,fun _ => ⟨fun _ => ⟨n1,h2,by decide,e2⟩,fun _ _ => ⟨n1,h2,by decide,n2,h2,by decide,n3,h2,by decide,ri.1,ri',ri',ri',ri.1,ri',ri',ri',rj.1,rj.2,rj.2,n4,h2,by decide,e2⟩⟩,fun _ _ _ => ⟨n1,h2,rz,n2,h2,rz,e2⟩⟩,?_,?_⟩
  · intro h0
    obtain ⟨k,hk⟩:∃ k,s.k = k + 1 := ⟨s.k - 1,by unfold Jk4 at h0; simp at h0; omega⟩
    have ek:IntKind.i64.wrap (Int.ofNat s.k - 1) = Int.ofNat (s.k - 1) := by rw [Zy (by simp; omega) (by simp; omega)]; simp; omega
    have key:∀ t,t.k = s.k - 1 → t = WH L sd ra sz s → JNo L sd ra sz t.k t = JNo L sd ra sz s.k s := fun t h1 h2 => by rw [h1,h2,hk]; rfl
    have len:∀ x,(s.R ++ [x]).length + (s.k - 1) ≤ 1000 := fun x => by simp; omega
    refine ⟨fun h => ?_,fun h => ⟨fun h' => ?_,fun h' => ⟨fun h'' => ?_,fun h'' => ?_⟩⟩⟩
    · exact ⟨⟨n2,h2,h3,len _⟩,by show s.k - 1 < s.k; omega,key _ rfl (by unfold Jjv at h; unfold WH; rw [h]; rfl),ek.symm,rfl,rfl,rfl,rfl,rfl⟩
    · exact ⟨⟨n2,h2,h3,len _⟩,by show s.k - 1 < s.k; omega,key _ rfl (by unfold JRT at h; unfold JjE at h'; unfold WH; rw [h,h']; rfl),ek.symm,rfl,rfl,rfl,rfl,rfl⟩
    · exact ⟨⟨n5,h2,h3,len _⟩,by show s.k - 1 < s.k; omega,key _ rfl (by unfold JRT at h; unfold JVf at h'; unfold Jic JPM at h''; unfold WH; rw [h,h',h'']; rfl),ek.symm,rfl,rfl,rfl,rfl,rfl⟩
    · exact ⟨⟨n3,h2,h3,len _⟩,by show s.k - 1 < s.k; omega,key _ rfl (by unfold JRT at h; unfold JVf at h'; unfold JdI JPM at h''; unfold WH; rw [h,h',h'']; rfl),ek.symm,rfl,rfl,rfl,rfl,rfl⟩
  · intro h0
    have hk:s.k = 0 := by simp at h0; omega
    have e:JNo L sd ra sz s.k s = s := by rw [hk]; rfl
    show (JNo L sd ra sz s.k s).a = s.a ∧ (JNo L sd ra sz s.k s).x = s.x ∧ (JNo L sd ra sz s.k s).y = s.y ∧ (JNo L sd ra sz s.k s).z = s.z ∧ (JNo L sd ra sz s.k s).R = s.R
    rw [e]
    exact ⟨rfl,rfl,rfl,rfl,rfl⟩
def Juy:QG := fun env mem m => match SX.JC env 9,SX.JC env 8,SX.JC env 5,SX.JC env 4,SX.JC env 3,SX.JC mem 0,SX.JC mem 1,SX.JC mem 522 with
  | some ⟨_,_,_,.one (.int _ n)⟩,some ⟨_,_,_,.one (.wh rid)⟩,some ⟨_,_,_,.one (.int _ sz)⟩,some ⟨_,_,_,.one (.int _ ra)⟩,some ⟨_,_,_,.one (.int _ sd)⟩,some (.blk _ [_,(_,.int _ a)]),some (.row _ _ _ (.lst _ _ L)),some (.blk _ [(_,.int _ x),(_,.int _ y),(_,.int _ z)]) => (match SX.JC mem rid with
    | some (.row _ _ _ (.lit _ rows)) => (match q7 CKi rows with
      | some R => zD (Qw L sd.val ra.val sz.val) 854 (fun _ _ => some ⟨n.val.toNat,a.val,x.val,y.val,z.val,R⟩) env mem m
      | none => none)
    | _ => none)
  | _,_,_,_,_,_,_,_ => none
def JZx:FuncId → Nat → Option QG := JB6 Zf 9 10 Juy
theorem JWY:Known Tryz.prog (JB JLs) JZx := by
  refine Qf 0 JVX (by kernel_rfl) (Qs fun env mem m x h => ?_)
  unfold Juy at h
  have hlen:(QU Tryz.prog 9).length = 1 := by kernel_rfl
  split at h
  · split at h
    · split at h
      · exact ⟨_,XW (Qc X5 JVX (by omega)) (JiW _ _ _ _),h⟩
      · cases h
    · cases h
  · cases h
theorem Jov {L:LL} {sd ra sz:Int} {s:CS} (hl:L.length ≤ 1000000) (h:0 ≤ s.a):0 ≤ (WH L sd ra sz s).a := by
  have nn:∀ x,0 ≤ x → 0 ≤ J2 x L := fun x h => JEh x L h hl
  unfold WH
  generalize (bif Jm 10 s.a L == 2 then Jm 10 s.a L == 2 else Jm 10 s.a L == 3:Bool) = c
  cases Jm 10 s.a L == 0 <;> cases Jm 10 s.a L == 1 <;> cases c <;> first
    | exact nn _ (nn _ h)
    | exact nn _ (nn _ (nn _ h))
    | exact nn _ (nn _ (nn _ (nn _ (nn _ h))))
theorem JqW {L:LL} {sd ra sz:Int} (hl:L.length ≤ 1000000):∀ (k:Nat) (s:CS),0 ≤ s.a → 0 ≤ (JNo L sd ra sz k s).a
  | 0,_,h => h
  | k + 1,s,h => JqW hl k _ (Jov hl h)
theorem Jo8 (L:LL) (sd ra sz:Int) (s:CS):(WH L sd ra sz s).R.length = s.R.length + 1 := by
  unfold WH
  generalize (bif Jm 10 s.a L == 2 then Jm 10 s.a L == 2 else Jm 10 s.a L == 3:Bool) = c
  cases Jm 10 s.a L == 0 <;> cases Jm 10 s.a L == 1 <;> cases c <;> simp only [cond_true,cond_false,stO,stZ,stA,Jvw,List.length_append,List.length_cons,List.length_nil]
theorem Jiy (L:LL) (sd ra sz:Int):∀ (k:Nat) (s:CS),(JNo L sd ra sz k s).R.length = s.R.length + k
  | 0,_ => rfl
  | k + 1,s => by
    have := Jiy L sd ra sz k (WH L sd ra sz s)
    rw [Jo8] at this
    show (JNo L sd ra sz k (WH L sd ra sz s)).R.length = _
    omega
section
variable (x y z u v w a:Int) (L:LL)
def cSd:Int:= IntKind.i64.wrap (1 - IntKind.i64.wrap (2 * Jm 2 a L))
def cRa:Int:= bif Jm 4 (J2 (J2 a L) L) L == 0 then Jd 100 2000 (J2 (J2 (J2 a L) L) L) L else Jd 0 40 (J2 a L) L
def cSz:Int:= IntKind.i64.wrap (200 + IntKind.i64.wrap (6 * cRa a L))
def cA:Int:= bif Jm 4 (J2 (J2 a L) L) L == 0 then J2 (J2 (J2 (J2 a L) L) L) L else J2 (J2 (J2 a L) L) L
def cX:Int:= JI (WI 1000 (cA a L) L) (Jd (IntKind.i64.wrap (cRa a L + 1)) (cSz a L) (J2 (J2 (J2 (cA a L) L) L) L) L)
def cY:Int:= JI (WK 1000 (cA a L) L) (Jd (IntKind.i64.wrap (0 - cSz a L)) (cSz a L) (J2 (J2 (J2 (J2 (cA a L) L) L) L) L) L)
def cZ:Int:= JI (ZB 1000 (cA a L) L) 0
def cS:CS:= ⟨(Jd 1 6 (J2 (J2 (J2 (J2 (J2 (cA a L) L) L) L) L) L) L).toNat,J2 (J2 (J2 (J2 (J2 (J2 (cA a L) L) L) L) L) L) L,cX a L,cY a L,cZ a L,
  [itL (WI 1000 (cA a L) L) (WK 1000 (cA a L) L) (ZB 1000 (cA a L) L) (cX a L) (cY a L) (cZ a L) 60000 (cSd a L) (cRa a L)]⟩
def cT:CS:= JNo L (cSd a L) (cRa a L) (cSz a L) (cS a L).k (cS a L)
def itM:List Int:= [2,0,x,y,z,u,v,w,0,0,0,0,0,0,60000,0,0,0,0,0,0,0]
def Jbi:LL:= (cT a L).R ++ [itM (cT a L).x (cT a L).y (cT a L).z (JI (cT a L).x (Jd (IntKind.i64.wrap (0 - cSz a L)) (cSz a L) (cT a L).a L))
  (JI (cT a L).y (Jd (IntKind.i64.wrap (cRa a L + 1)) (cSz a L) (J2 (cT a L).a L) L)) (JI (cT a L).z 0)]
def Jui:Int:= J2 (J2 (cT a L).a L) L
end
theorem JwC (a:Int) (L:LL):1 ≤ (cS a L).k ∧ (cS a L).k ≤ 6 := by
  have h := JAU 1 6 (J2 (J2 (J2 (J2 (J2 (cA a L) L) L) L) L) L) L (by omega) (by omega) (by omega)
  unfold cS; dsimp only; omega
theorem Jok (a:Int) (L:LL):3 ≤ (Jbi a L).length ∧ (Jbi a L).length ≤ 8 := by
  have h := JwC a L
  have k := Jiy L (cSd a L) (cRa a L) (cSz a L) (cS a L).k (cS a L)
  have e:(cS a L).R.length = 1 := rfl
  unfold Jbi cT
  simp only [List.length_append,List.length_cons,List.length_nil]
  omega
theorem Jlj (a:Int) (L:LL):0 ≤ cRa a L ∧ cRa a L ≤ 2000 := by
  have h1 := JAU 0 40 (J2 a L) L (by omega) (by omega) (by omega)
  have h2 := JAU 100 2000 (J2 (J2 (J2 a L) L) L) L (by omega) (by omega) (by omega)
  unfold cRa
  cases Jm 4 (J2 (J2 a L) L) L == 0
  · rw [cond_false]; omega
  · rw [cond_true]; omega
theorem JvB (a:Int) (L:LL):cSz a L = 200 + 6 * cRa a L := by
  have := Jlj a L
  unfold cSz
  rw [Zy (x := 6 * cRa a L) (by omega) (by omega),Zy (by omega) (by omega)]
theorem Jw7 {a:Int} {L:LL} (h:0 ≤ a) (hl:L.length ≤ 1000000):0 ≤ cA a L := by
  have nn:∀ x,0 ≤ x → 0 ≤ J2 x L := fun x h => JEh x L h hl
  unfold cA
  cases Jm 4 (J2 (J2 a L) L) L == 0
  · exact nn _ (nn _ (nn _ h))
  · exact nn _ (nn _ (nn _ (nn _ h)))
def Kp:Tpl := ⟨[.one (.ptr 0 0)],[(0,.blk 57 [(2,.wh 1),(3,.int .i64)]),(1,.row true 3 1 4 [.int .i64])],5⟩
section
variable (a:Int) (L:LL)
def Zv:Int:=
 IntKind.i64.wrap (1 - IntKind.i64.wrap (2 * Jm 2 a L))
def Zg:Int:=
 bif Jm 4 (J2 (J2 a L) L) L == 0 then Jd 100 2000 (J2 (J2 (J2 a L) L) L) L else Jd 0 40 (J2 a L) L
def Zi:Int:=
 IntKind.i64.wrap (200 + IntKind.i64.wrap (6 * Zg a L))
def Jb:Int:=
 bif Jm 4 (J2 (J2 a L) L) L == 0 then J2 (J2 (J2 (J2 a L) L) L) L else J2 (J2 (J2 a L) L) L
def KU:Int:=
 JI (WI 1000 (Jb a L) L) (Jd (IntKind.i64.wrap (Zg a L + 1)) (Zi a L) (J2 (J2 (J2 (Jb a L) L) L) L) L)
def KT:Int:=
 JI (WK 1000 (Jb a L) L) (Jd (IntKind.i64.wrap (0 - Zi a L)) (Zi a L) (J2 (J2 (J2 (J2 (Jb a L) L) L) L) L) L)
def JZr:Int:=
 ((Qw L (Zv a L) (Zg a L) (Zi a L)).fin (CS.mk (Jd 1 6 (J2 (J2 (J2 (J2 (J2 (Jb a L) L) L) L) L) L) L).toNat (J2 (J2 (J2 (J2 (J2 (J2 (Jb a L) L) L) L) L) L) L) (KU a L) (KT a L) (JI (ZB 1000 (Jb a L) L) 0) [[2,0,WI 1000 (Jb a L) L,WK 1000 (Jb a L) L,ZB 1000 (Jb a L) L,KU a L,KT a L,JI (ZB 1000 (Jb a L) L) 0,17,0,0,0,0,0,60000,0,Zv a L,Zg a L,0,0,0,0]])).x
def JVF:Int:=
 ((Qw L (Zv a L) (Zg a L) (Zi a L)).fin (CS.mk (Jd 1 6 (J2 (J2 (J2 (J2 (J2 (Jb a L) L) L) L) L) L) L).toNat (J2 (J2 (J2 (J2 (J2 (J2 (Jb a L) L) L) L) L) L) L) (KU a L) (KT a L) (JI (ZB 1000 (Jb a L) L) 0) [[2,0,WI 1000 (Jb a L) L,WK 1000 (Jb a L) L,ZB 1000 (Jb a L) L,KU a L,KT a L,JI (ZB 1000 (Jb a L) L) 0,17,0,0,0,0,0,60000,0,Zv a L,Zg a L,0,0,0,0]])).y
def JY5:Int:=
 ((Qw L (Zv a L) (Zg a L) (Zi a L)).fin (CS.mk (Jd 1 6 (J2 (J2 (J2 (J2 (J2 (Jb a L) L) L) L) L) L) L).toNat (J2 (J2 (J2 (J2 (J2 (J2 (Jb a L) L) L) L) L) L) L) (KU a L) (KT a L) (JI (ZB 1000 (Jb a L) L) 0) [[2,0,WI 1000 (Jb a L) L,WK 1000 (Jb a L) L,ZB 1000 (Jb a L) L,KU a L,KT a L,JI (ZB 1000 (Jb a L) L) 0,17,0,0,0,0,0,60000,0,Zv a L,Zg a L,0,0,0,0]])).z
def JVu:Int:=
 ((Qw L (Zv a L) (Zg a L) (Zi a L)).fin (CS.mk (Jd 1 6 (J2 (J2 (J2 (J2 (J2 (Jb a L) L) L) L) L) L) L).toNat (J2 (J2 (J2 (J2 (J2 (J2 (Jb a L) L) L) L) L) L) L) (KU a L) (KT a L) (JI (ZB 1000 (Jb a L) L) 0) [[2,0,WI 1000 (Jb a L) L,WK 1000 (Jb a L) L,ZB 1000 (Jb a L) L,KU a L,KT a L,JI (ZB 1000 (Jb a L) L) 0,17,0,0,0,0,0,60000,0,Zv a L,Zg a L,0,0,0,0]])).a
def Jnd:LL:=
 ((Qw L (Zv a L) (Zg a L) (Zi a L)).fin (CS.mk (Jd 1 6 (J2 (J2 (J2 (J2 (J2 (Jb a L) L) L) L) L) L) L).toNat (J2 (J2 (J2 (J2 (J2 (J2 (Jb a L) L) L) L) L) L) L) (KU a L) (KT a L) (JI (ZB 1000 (Jb a L) L) 0) [[2,0,WI 1000 (Jb a L) L,WK 1000 (Jb a L) L,ZB 1000 (Jb a L) L,KU a L,KT a L,JI (ZB 1000 (Jb a L) L) 0,17,0,0,0,0,0,60000,0,Zv a L,Zg a L,0,0,0,0]])).R ++ [[2,0,JZr a L,JVF a L,JY5 a L,JI (JZr a L) (Jd (IntKind.i64.wrap (0 - Zi a L)) (Zi a L) (JVu a L) L),JI (JVF a L) (Jd (IntKind.i64.wrap (Zg a L + 1)) (Zi a L) (J2 (JVu a L) L) L),JI (JY5 a L) 0,0,0,0,0,0,0,60000,0,0,0,0,0,0,0]]
end
def JnE (a:Int) (L:LL):Int :=
 J2 (J2 ((Qw L (IntKind.i64.wrap (1 - IntKind.i64.wrap (2 * Jm 2 a L))) (Zg a L) (Zi a L)).fin (CS.mk (Jd 1 6 (J2 (J2 (J2 (J2 (J2 (Jb a L) L) L) L) L) L) L).toNat (J2 (J2 (J2 (J2 (J2 (J2 (Jb a L) L) L) L) L) L) L) (JI (WI 1000 (Jb a L) L) (Jd (IntKind.i64.wrap (Zg a L + 1)) (Zi a L) (J2 (J2 (J2 (Jb a L) L) L) L) L)) (JI (WK 1000 (Jb a L) L) (Jd (IntKind.i64.wrap (0 - Zi a L)) (Zi a L) (J2 (J2 (J2 (J2 (Jb a L) L) L) L) L) L)) (JI (ZB 1000 (Jb a L) L) 0) [(fun x => 2 :: x) ((fun x => 0 :: x) ((fun x => WI 1000 (bif Jm 4 (J2 (J2 a L) L) L == 0 then J2 (J2 (J2 (J2 a L) L) L) L else J2 (J2 (J2 a L) L) L) L :: x) ((fun x => WK 1000 (bif Jm 4 (J2 (J2 a L) L) L == 0 then J2 (J2 (J2 (J2 a L) L) L) L else J2 (J2 (J2 a L) L) L) L :: x) ((fun x => ZB 1000 (bif Jm 4 (J2 (J2 a L) L) L == 0 then J2 (J2 (J2 (J2 a L) L) L) L else J2 (J2 (J2 a L) L) L) L :: x) ((fun x => JI (WI 1000 (bif Jm 4 (J2 (J2 a L) L) L == 0 then J2 (J2 (J2 (J2 a L) L) L) L else J2 (J2 (J2 a L) L) L) L) (Jd (IntKind.i64.wrap ((bif Jm 4 (J2 (J2 a L) L) L == 0 then Jd 100 2000 (J2 (J2 (J2 a L) L) L) L else Jd 0 40 (J2 a L) L) + 1)) (IntKind.i64.wrap (200 + IntKind.i64.wrap (6 * bif Jm 4 (J2 (J2 a L) L) L == 0 then Jd 100 2000 (J2 (J2 (J2 a L) L) L) L else Jd 0 40 (J2 a L) L))) (J2 (J2 (J2 (bif Jm 4 (J2 (J2 a L) L) L == 0 then J2 (J2 (J2 (J2 a L) L) L) L else J2 (J2 (J2 a L) L) L) L) L) L) L) :: x) ((fun x => JI (WK 1000 (bif Jm 4 (J2 (J2 a L) L) L == 0 then J2 (J2 (J2 (J2 a L) L) L) L else J2 (J2 (J2 a L) L) L) L) (Jd (IntKind.i64.wrap (0 - IntKind.i64.wrap (200 + IntKind.i64.wrap (6 * bif Jm 4 (J2 (J2 a L) L) L == 0 then Jd 100 2000 (J2 (J2 (J2 a L) L) L) L else Jd 0 40 (J2 a L) L)))) (IntKind.i64.wrap (200 + IntKind.i64.wrap (6 * bif Jm 4 (J2 (J2 a L) L) L == 0 then Jd 100 2000 (J2 (J2 (J2 a L) L) L) L else Jd 0 40 (J2 a L) L))) (J2 (J2 (J2 (J2 (bif Jm 4 (J2 (J2 a L) L) L == 0 then J2 (J2 (J2 (J2 a L) L) L) L else J2 (J2 (J2 a L) L) L) L) L) L) L) L) :: x) ((fun x => JI (ZB 1000 (bif Jm 4 (J2 (J2 a L) L) L == 0 then J2 (J2 (J2 (J2 a L) L) L) L else J2 (J2 (J2 a L) L) L) L) 0 :: x) ((fun x => 17 :: x) ((fun x => 0 :: x) ((fun x => 0 :: x) ((fun x => 0 :: x) ((fun x => 0 :: x) ((fun x => 0 :: x) ((fun x => 60000 :: x) ((fun x => 0 :: x) ((fun x => IntKind.i64.wrap (1 - IntKind.i64.wrap (2 * Jm 2 a L)) :: x) ((fun x => (bif Jm 4 (J2 (J2 a L) L) L == 0 then Jd 100 2000 (J2 (J2 (J2 a L) L) L) L else Jd 0 40 (J2 a L) L) :: x) ((fun x => 0 :: x) ((fun x => 0 :: x) ((fun x => 0 :: x) ((fun x => 0 :: x) [])))))))))))))))))))))])).a L) L
section
variable (a:Int) (L:LL)
def JHp:Bool:=
 Jm 4 (J2 (J2 a L) L) L == 0
def JW:Int:=
 bif JHp a L then J2 (J2 (J2 (J2 a L) L) L) L else J2 (J2 (J2 a L) L) L
def Xw:Int:=
 bif JHp a L then Jd 100 2000 (J2 (J2 (J2 a L) L) L) L else Jd 0 40 (J2 a L) L
def Qb:Int:=
 IntKind.i64.wrap (200 + IntKind.i64.wrap (6 * Xw a L))
def X0:Int:=
 JI (WI 1000 (JW a L) L) (Jd (IntKind.i64.wrap (Xw a L + 1)) (Qb a L) (J2 (J2 (J2 (JW a L) L) L) L) L)
def Zz:Int:=
 JI (WK 1000 (JW a L) L) (Jd (IntKind.i64.wrap (0 - Qb a L)) (Qb a L) (J2 (J2 (J2 (J2 (JW a L) L) L) L) L) L)
def XS:LL:=
 [[2,0,WI 1000 (JW a L) L,WK 1000 (JW a L) L,ZB 1000 (JW a L) L,X0 a L,Zz a L,JI (ZB 1000 (JW a L) L) 0,17,0,0,0,0,0,60000,0,Zv a L,Xw a L,0,0,0,0]]
def JTO:Int:=
 (CS.mk (Jd 1 6 (J2 (J2 (J2 (J2 (J2 (JW a L) L) L) L) L) L) L).toNat (J2 (J2 (J2 (J2 (J2 (J2 (JW a L) L) L) L) L) L) L) (X0 a L) (Zz a L) (JI (ZB 1000 (JW a L) L) 0) (XS a L)).a
def JT8:LL:=
 (CS.mk (Jd 1 6 (J2 (J2 (J2 (J2 (J2 (JW a L) L) L) L) L) L) L).toNat (J2 (J2 (J2 (J2 (J2 (J2 (JW a L) L) L) L) L) L) L) (X0 a L) (Zz a L) (JI (ZB 1000 (JW a L) L) 0) (XS a L)).R
def JTd:Int:=
 ((Qw L (Zv a L) (Xw a L) (Qb a L)).fin (CS.mk (Jd 1 6 (J2 (J2 (J2 (J2 (J2 (JW a L) L) L) L) L) L) L).toNat (J2 (J2 (J2 (J2 (J2 (J2 (JW a L) L) L) L) L) L) L) (X0 a L) (Zz a L) (JI (ZB 1000 (JW a L) L) 0) (XS a L))).a
def W5:List Prop:=
 [0 ≤ a,L.length ≤ 1000000,Int.ofNat 2 ≠ 0,0 ≤ J2 a L,L.length ≤ 1000000,Int.ofNat 0 ≤ 40 ∧ -1000000 ≤ 0 ∧ Int.ofNat 40 ≤ 1000000,0 ≤ J2 (J2 a L) L,L.length ≤ 1000000,Int.ofNat 4 ≠ 0,JHp a L = true → 0 ≤ J2 (J2 (J2 a L) L) L ∧ L.length ≤ 1000000 ∧ Int.ofNat 100 ≤ 2000 ∧ -1000000 ≤ 100 ∧ Int.ofNat 2000 ≤ 1000000,0 ≤ JW a L,L.length ≤ 1000000,Int.ofNat 0 ≤ 1000 ∧ Int.ofNat 1000 ≤ 1000000,0 ≤ J2 (J2 (J2 (JW a L) L) L) L,L.length ≤ 1000000,IntKind.i64.wrap (Xw a L + 1) ≤ Qb a L ∧ -1000000 ≤ IntKind.i64.wrap (Xw a L + 1) ∧ Qb a L ≤ 1000000,0 ≤ J2 (J2 (J2 (J2 (JW a L) L) L) L) L,L.length ≤ 1000000,IntKind.i64.wrap (0 - Qb a L) ≤ Qb a L ∧ -1000000 ≤ IntKind.i64.wrap (0 - Qb a L) ∧ Qb a L ≤ 1000000,0 ≤ J2 (J2 (J2 (J2 (J2 (JW a L) L) L) L) L) L,L.length ≤ 1000000,Int.ofNat 1 ≤ 6 ∧ -1000000 ≤ 1 ∧ Int.ofNat 6 ≤ 1000000,0 ≤ JTO a L ∧ L.length ≤ 1000000 ∧ (0 ≤ Qb a L ∧ Qb a L ≤ 1000000) ∧ (JT8 a L).length + (CS.mk (Jd 1 6 (J2 (J2 (J2 (J2 (J2 (JW a L) L) L) L) L) L) L).toNat (J2 (J2 (J2 (J2 (J2 (J2 (JW a L) L) L) L) L) L) L) (X0 a L) (Zz a L) (JI (ZB 1000 (JW a L) L) 0) (XS a L)).k ≤ 1000,Int.ofNat (CS.mk (Jd 1 6 (J2 (J2 (J2 (J2 (J2 (JW a L) L) L) L) L) L) L).toNat (J2 (J2 (J2 (J2 (J2 (J2 (JW a L) L) L) L) L) L) L) (X0 a L) (Zz a L) (JI (ZB 1000 (JW a L) L) 0) (XS a L)).k = Jd 1 6 (J2 (J2 (J2 (J2 (J2 (JW a L) L) L) L) L) L) L,JTO a L = J2 (J2 (J2 (J2 (J2 (J2 (JW a L) L) L) L) L) L) L,(CS.mk (Jd 1 6 (J2 (J2 (J2 (J2 (J2 (JW a L) L) L) L) L) L) L).toNat (J2 (J2 (J2 (J2 (J2 (J2 (JW a L) L) L) L) L) L) L) (X0 a L) (Zz a L) (JI (ZB 1000 (JW a L) L) 0) (XS a L)).x = X0 a L,(CS.mk (Jd 1 6 (J2 (J2 (J2 (J2 (J2 (JW a L) L) L) L) L) L) L).toNat (J2 (J2 (J2 (J2 (J2 (J2 (JW a L) L) L) L) L) L) L) (X0 a L) (Zz a L) (JI (ZB 1000 (JW a L) L) 0) (XS a L)).y = Zz a L,(CS.mk (Jd 1 6 (J2 (J2 (J2 (J2 (J2 (JW a L) L) L) L) L) L) L).toNat (J2 (J2 (J2 (J2 (J2 (J2 (JW a L) L) L) L) L) L) L) (X0 a L) (Zz a L) (JI (ZB 1000 (JW a L) L) 0) (XS a L)).z = JI (ZB 1000 (JW a L) L) 0,JT8 a L = XS a L,0 ≤ JTd a L,L.length ≤ 1000000,IntKind.i64.wrap (0 - Qb a L) ≤ Qb a L ∧ -1000000 ≤ IntKind.i64.wrap (0 - Qb a L) ∧ Qb a L ≤ 1000000,0 ≤ J2 (JTd a L) L,L.length ≤ 1000000,IntKind.i64.wrap (Xw a L + 1) ≤ Qb a L ∧ -1000000 ≤ IntKind.i64.wrap (Xw a L + 1) ∧ Qb a L ≤ 1000000,(((Qw L (Zv a L) (Xw a L) (Qb a L)).fin (CS.mk (Jd 1 6 (J2 (J2 (J2 (J2 (J2 (JW a L) L) L) L) L) L) L).toNat (J2 (J2 (J2 (J2 (J2 (J2 (JW a L) L) L) L) L) L) L) (X0 a L) (Zz a L) (JI (ZB 1000 (JW a L) L) 0) (XS a L))).R.length + 1) * 176 ≤ 140737488355328,((Qw L (Zv a L) (Xw a L) (Qb a L)).fin (CS.mk (Jd 1 6 (J2 (J2 (J2 (J2 (J2 (JW a L) L) L) L) L) L) L).toNat (J2 (J2 (J2 (J2 (J2 (J2 (JW a L) L) L) L) L) L) L) (X0 a L) (Zz a L) (JI (ZB 1000
 (JW a L) L) 0) (XS a L))).R.length + 1 ≤ 9223372036854775807]
end
theorem Jd0 {a:Int} {L:LL} (hW:∀ q ∈ ([0 ≤ a,L.length ≤ 1000000]:List Prop),q):∀ q ∈ (W5 a L),q := by
  simp only [awc,awn,and_true] at hW
  unfold W5
  simp only [awc,awn,and_true]
  obtain ⟨h1,h2⟩ := hW
  have nn:∀ x,0 ≤ x → 0 ≤ J2 x L := fun x h => JEh x L h h2
  have n1 := nn _ h1
  have n2 := nn _ n1
  have n3 := nn _ n2
  have r := Jlj a L
  have z := JvB a L
  have k0:(0:Int) ≤ 40 ∧ (-1000000:Int) ≤ 0 ∧ (40:Int) ≤ 1000000 := by decide
  have m0 := Jw7 h1 h2
  have m1 := nn _ m0
  have m2 := nn _ m1
  have m3 := nn _ m2
  have m4 := nn _ m3
  have m5 := nn _ m4
  have m6 := nn _ m5
  have w1:IntKind.i64.wrap (cRa a L + 1) = cRa a L + 1 := Zy (by omega) (by omega)
  have w2:IntKind.i64.wrap (0 - cSz a L) = 0 - cSz a L := Zy (by omega) (by omega)
  have p1:IntKind.i64.wrap (cRa a L + 1) ≤ cSz a L ∧ -1000000 ≤ IntKind.i64.wrap (cRa a L + 1) ∧ cSz a L ≤ 1000000 := by rw [w1]; omega
  have p2:IntKind.i64.wrap (0 - cSz a L) ≤ cSz a L ∧ -1000000 ≤ IntKind.i64.wrap (0 - cSz a L) ∧ cSz a L ≤ 1000000 := by rw [w2]; omega
  have p3:0 ≤ cSz a L ∧ cSz a L ≤ 1000000 := by omega
  have kk := JwC a L
  have q1:(cS a L).R.length + (cS a L).k ≤ 1000 := by
    have e:(cS a L).R.length = 1 := rfl
    omega
  have q2:Int.ofNat (cS a L).k = Jd 1 6 (J2 (J2 (J2 (J2 (J2 (cA a L) L) L) L) L) L) L := by
    have h := JAU 1 6 (J2 (J2 (J2 (J2 (J2 (cA a L) L) L) L) L) L) L (by omega) (by omega) (by omega)
    exact Int.toNat_of_nonneg (by omega)
  have ta:0 ≤ (cT a L).a := JqW h2 _ _ m6
  have tr:(cT a L).R.length ≤ 7 := by
    have := Jiy L (cSd a L) (cRa a L) (cSz a L) (cS a L).k (cS a L)
    have e:(cS a L).R.length = 1 := rfl
    unfold cT; omega
  exact ⟨h1,h2,by decide,n1,h2,k0,n2,h2,by decide,fun _ => ⟨n3,h2,by decide⟩,m0,h2,by decide,m3,h2,p1,m4,h2,p2,m5,h2,by decide,⟨m6,h2,p3,q1⟩,q2,rfl,trivial,trivial,trivial,rfl,ta,h2,p2,nn _ ta,h2,p1,(show ((cT a L).R.length + 1) * 176 ≤ 140737488355328 ∧ (cT a L).R.length + 1 ≤ 9223372036854775807 by omega)⟩
def Jko (a:Int) (L:LL):Jn :=
 [(1158,Obj.row false 40 22 (RowC.lst 1160 Wc (Jnd a L))),(0,Obj.blk 57 [(2,SC.wh 1),(1100,Ci (JnE a L))]),(1,Obj.row true 3 1 (RowC.lst 4 [CK.int IntKind.i64] L))]
theorem JdU (a:Int) (L:LL) (hNeeds:∀ pN ∈ (W5 a L),pN):Runs (Jr (JB JLs) JZx 9) (Kp.args [.i a]) (Kp.memo [.i a] [L]) Kp.n (SV.one (SC.wh 1158)) (Jko a L) :=
  Runs.of1 (ps := (W5 a L)) (by kernel_rfl) hNeeds
def JJJ:List Pm → Qm → Option CRes
  | [.i a],[L] => some ⟨SV.one (SC.wh 1158),[(1158,Obj.row false 40 22 (RowC.lst 1160 Wc ((Jbi a L)))),(0,Obj.blk 57 [(2,SC.wh 1),(1100,Ci ((Jui a L)))]),(1,Obj.row true 3 1 (RowC.lst 4 [CK.int IntKind.i64] L))],[0 ≤ a,L.length ≤ 1000000],[],1163⟩
  | _,_ => none
theorem JYp (a:Int) (L:LL) (hNeeds:∀ pN ∈ (W5 a L),pN):Runs (Jr (JB JLs) JZx 9) (Kp.args [.i a]) (Kp.memo [.i a] [L]) Kp.n (SV.one (SC.wh 1158))
    ([(1158,
     Obj.row false 40 22
     (RowC.lst 1160
     [CK.int IntKind.i64,CK.int IntKind.i64,CK.int IntKind.i64,CK.int IntKind.i64,CK.int IntKind.i64,CK.int IntKind.i64,CK.int IntKind.i64,CK.int IntKind.i64,CK.int IntKind.i64,
     CK.int IntKind.i64,CK.int IntKind.i64,CK.int IntKind.i64,CK.int IntKind.i64,CK.bool,CK.int IntKind.i64,CK.bool,CK.int IntKind.i64,CK.int IntKind.i64,CK.int IntKind.i64,
     CK.int IntKind.i64,CK.int IntKind.i64,CK.bool]
     ((Jbi a L)))),
    (0,Obj.blk 57 [(2,SC.wh 1),(1100,SC.int IntKind.i64 (SI.v ((Jui a L))))]),(1,Obj.row true 3 1 (RowC.lst 4 [CK.int IntKind.i64] L))]) :=
  (JdU a L hNeeds).to (by first | rfl | (simp only [])) (by first | rfl | (simp only []))
theorem JkL:Qg Tryz.prog 9 (JS Kp JJJ) := by
  refine JH (JD JWY 9) fun ps ls r hr hn _ => ?_
  unfold JJJ at hr
  split at hr
  · cases hr; exact ⟨_,JYp _ _ (Jd0 (by exact hn)),fun _ => rfl⟩
  · cases hr
def jK:List (Nat × JY) := (9,JS Kp JJJ) :: JLs
theorem JL0:Known Tryz.prog (JB jK) JZx := J7 JWY JkL
end
end Go.Proofs.YtmbfbhimdkjkoaaGreat
