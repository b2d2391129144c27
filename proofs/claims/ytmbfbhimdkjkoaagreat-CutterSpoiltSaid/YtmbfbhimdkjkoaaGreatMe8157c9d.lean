/-
  Texts of one claim, laid together. Conditions: none.
-/
import Derived.Test.YtmbfbhimdkjkoaaGreatM4a7838e6
set_option linter.all false
set_option maxRecDepth 1000000
namespace Go.Proofs.YtmbfbhimdkjkoaaGreat
noncomputable section
open Go.SX Go.RowKit
def bs (P:Int → Bool):Nat → Int → Int → Int
  | 0,_,b => b
  | f + 1,a,b => bif decide (b - a > 1) then (bif P ((a + b).tdiv 2) then bs P f a ((a + b).tdiv 2) else bs P f ((a + b).tdiv 2) b) else b
theorem JVz {a b:Int} (h0:0 ≤ a) (h:b - a > 1):a < (a + b).tdiv 2 ∧ (a + b).tdiv 2 < b := by
  rw [Int.tdiv_eq_ediv_of_nonneg (by omega)]
  omega
theorem JUi (P:Int → Bool):∀ (f g:Nat) (a b:Int),0 ≤ a → (b - a).toNat ≤ f → (b - a).toNat ≤ g → bs P f a b = bs P g a b
  | 0,0,_,_,_,_,_ => rfl
  | 0,g + 1,a,b,_,h,_ => by
    unfold bs
    rw [decide_eq_false (show ¬ b - a > 1 by omega)]; rfl
  | f + 1,0,a,b,_,_,h => by
    unfold bs
    rw [decide_eq_false (show ¬ b - a > 1 by omega)]; rfl
  | f + 1,g + 1,a,b,h0,h1,h2 => by
    unfold bs
    by_cases h:b - a > 1
    · obtain ⟨m1,m2⟩ := JVz h0 h
      rw [JUi P f g a _ h0 (by omega) (by omega),JUi P f g _ b (by omega) (by omega) (by omega)]
    · rw [decide_eq_false h]; rfl
def bs0 (n:Int):Int × Int := (0,n)
def bsF (P:Int → Bool) (s:Int × Int):Int := bs P (s.2 - s.1).toNat s.1 s.2
theorem JmY {P:Int → Bool} {a b:Int} (h:¬ b - a > 1):bsF P (a,b) = b := by
  show bs P (b - a).toNat a b = b
  cases (b - a).toNat with
  | zero => rfl
  | succ f => unfold bs; rw [decide_eq_false h]; rfl
theorem JtH {P:Int → Bool} {a b:Int} (h0:0 ≤ a) (h:b - a > 1):bsF P (a,b) = bif P ((a + b).tdiv 2) then bsF P (a,(a + b).tdiv 2) else bsF P ((a + b).tdiv 2,b) := by
  obtain ⟨m1,m2⟩ := JVz h0 h
  show bs P (b - a).toNat a b = _
  have e:(b - a).toNat = (b - a - 1).toNat + 1 := by omega
  rw [e]
  unfold bs
  rw [decide_eq_true h,cond_true]
  show (bif P ((a + b).tdiv 2) then bs P (b - a - 1).toNat a ((a + b).tdiv 2) else bs P (b - a - 1).toNat ((a + b).tdiv 2) b) = _
  rw [JUi P (b - a - 1).toNat ((a + b).tdiv 2 - a).toNat a _ h0 (by omega) (by omega),JUi P (b - a - 1).toNat (b - (a + b).tdiv 2).toNat _ b (by omega) (by omega) (by omega)]
  rfl
def bsN (P:Int → Bool) (s:Int × Int):Int × Int := (bif P ((s.1 + s.2).tdiv 2) then s.1 else (s.1 + s.2).tdiv 2,bif P ((s.1 + s.2).tdiv 2) then (s.1 + s.2).tdiv 2 else s.2)
theorem Jt9 {P:Int → Bool} {s:Int × Int} (h0:0 ≤ s.1) (h:s.2 - s.1 > 1):0 ≤ (bsN P s).1 ∧ (bsN P s).1 ≤ (bsN P s).2 ∧ (bsN P s).2 ≤ s.2 ∧ ((bsN P s).2 - (bsN P s).1).toNat < (s.2 - s.1).toNat ∧ bsF P (bsN P s) = bsF P s := by
  rcases s with ⟨a,b⟩
  obtain ⟨m1,m2⟩ := JVz h0 h
  have hs := JtH (P := P) h0 h
  unfold bsN
  simp only at h0 h m1 m2 hs ⊢
  rw [hs]
  cases P ((a + b).tdiv 2)
  · simp only [cond_false]
    exact ⟨by omega,by omega,by omega,by omega,trivial⟩
  · simp only [cond_true]
    exact ⟨by omega,by omega,by omega,by omega,trivial⟩
theorem Ju0 {s:Int × Int} (h0:0 ≤ s.1) (h1:s.1 ≤ s.2) (h2:s.2 ≤ 1000000000000):IntKind.i64.wrap (s.2 - s.1) = s.2 - s.1 ∧ IntKind.i64.wrap ((IntKind.i64.wrap (s.1 + s.2)).tdiv 2) = (s.1 + s.2).tdiv 2 ∧ XY ((s.1 + s.2).tdiv 2) := by
  have e:(s.1 + s.2).tdiv 2 = (s.1 + s.2) / 2 := Int.tdiv_eq_ediv_of_nonneg (by omega)
  rw [X7 (x := s.2 - s.1) (by omega) (by omega),X7 (x := s.1 + s.2) (by omega) (by omega),e,X7 (by omega) (by omega)]
  exact ⟨rfl,rfl,by omega,by omega⟩
def JcU (mem:Jo) (id:Nat):Option (List Int × Bool) := match SX.JC mem id with
  | some (.blk _ cs) => (match cs.reverse with
    | (_,.bool b) :: r => (Jn3 r.reverse).map fun l => (l,b.val)
    | _ => none)
  | _ => none
section
variable (l0 l1 d0 d1 n:Int) (id t:Nat) (x y e0 e1 e2 e3 e4 e5 e6 r k:Int) (e7:Bool)
def JoU:Nat × SX.Obj:= (id,.blk 91 [(t,I e0),(t + 1,I e1),(t + 2,I e2),(t + 3,I e3),(t + 4,I e4),(t + 5,I e5),(t + 6,I e6),(t + 7,.bool (.v e7))])
def Jug:Nat × SX.Obj:= (id,.blk 54 [(t,I x),(t + 1,I y)])
def Juv:Nat × SX.Obj:= (id,.blk 54 [(t,.int .i64 (.c 0)),(t + 1,.int .i64 (.c 0))])
def stP:Bool:= Zd e0 e1 e2 e3 e4 e5 e6 (JI l0 (XD d0 k n 2)) (JI l1 (XD d1 k n 2)) r
end
def stM (l0 l1 d0 d1 n e0 e1 e2 e3 e4 e5 e6:Int) (e7:Bool) (r:Int):Jo := [(76,.clo [.one (.ptr 53 0),.one (.ptr 71 0),.one (.ptr 12 0)]),(71,.blk 3 [(74,I n)]),Jug 53 57 d0 d1,Juv 20 21,Jug 12 13 l0 l1,(0,.clo [.one (.ptr 1 0),.one (.ptr 2 0)]),JoU 1 3 e0 e1 e2 e3 e4 e5 e6 e7,(2,.blk 3 [(11,I r)])]
def stF (l0 l1 d0 d1 n e0 e1 e2 e3 e4 e5 e6:Int) (e7:Bool) (r:Int):Fam (Int × Int) Int where
  k := 60
  E s := [(11,ent 1000000000 (.one (I s.2))),(10,ent 1000000001 (.one (I s.1))),(9,ent 78 (.one (.clo 160 76))),(6,ent 23 (.one (.ptr 20 0))),(2,ent 4 (.one (.clo 133 0)))]
  M _ := stM l0 l1 d0 d1 n e0 e1 e2 e3 e4 e5 e6 e7 r
  out b := .leaf (.exit 0) [(11,ent 83 (.one (I b))),(9,ent 78 (.one (.clo 160 76))),(6,ent 23 (.one (.ptr 20 0)))] (stM l0 l1 d0 d1 n e0 e1 e2 e3 e4 e5 e6 e7 r)
  fin s := bsF (stP l0 l1 d0 d1 n e0 e1 e2 e3 e4 e5 e6 r) s
  next s _ := bsN (stP l0 l1 d0 d1 n e0 e1 e2 e3 e4 e5 e6 r) s
  J s := 0 ≤ s.1 ∧ s.1 ≤ s.2 ∧ s.2 ≤ 1000000000000 ∧ XY d0 ∧ XY d1 ∧ XY n
  μ s := (s.2 - s.1).toNat
section
variable (l0 l1 d0 d1 n e0 e1 e2 e3 e4 e5 e6:Int) (e7:Bool) (r:Int) (s:Int × Int)
def Jr0:Prop:= decide (IntKind.i64.wrap (s.snd - s.fst) > 1) = true
def JJ9:Int:= IntKind.i64.wrap ((IntKind.i64.wrap (s.fst + s.snd)).tdiv 2)
def Jtd:Prop:= -9223372036854775808 ≤ n ∧ n < 9223372036854775808
def Jr4:Int:= ((stF l0 l1 d0 d1 n e0 e1 e2 e3 e4 e5 e6 e7 r).next s 0).fst
def JqT:Int:= ((stF l0 l1 d0 d1 n e0 e1 e2 e3 e4 e5 e6 e7 r).next s 0).snd
def Jvu:Int:= (stF l0 l1 d0 d1 n e0 e1 e2 e3 e4 e5 e6 e7 r).fin s
def JWM:List Prop:= [Jr0 s → (-9223372036854775808 ≤ d0 ∧ d0 < 9223372036854775808) ∧ (-9223372036854775808 ≤ JJ9 s ∧ JJ9 s < 9223372036854775808) ∧ Jtd n ∧ (-9223372036854775808 ≤ d1 ∧ d1 < 9223372036854775808) ∧ (-9223372036854775808 ≤ JJ9 s ∧ JJ9 s < 9223372036854775808) ∧ Jtd n,Jr0 s → (0 ≤ Jr4 l0 l1 d0 d1 n e0 e1 e2 e3 e4 e5 e6 e7 r s ∧ Jr4 l0 l1 d0 d1 n e0 e1 e2 e3 e4 e5 e6 e7 r s ≤ JqT l0 l1 d0 d1 n e0 e1 e2 e3 e4 e5 e6 e7 r s ∧ JqT l0 l1 d0 d1 n e0 e1 e2 e3 e4 e5 e6 e7 r s ≤ 1000000000000 ∧ (-9223372036854775808 ≤ d0 ∧ d0 < 9223372036854775808) ∧ (-9223372036854775808 ≤ d1 ∧ d1 < 9223372036854775808) ∧ Jtd n) ∧ (stF l0 l1 d0 d1 n e0 e1 e2 e3 e4 e5 e6 e7 r).μ ((stF l0 l1 d0 d1 n e0 e1 e2 e3 e4 e5 e6 e7 r).next s 0) < (stF l0 l1 d0 d1 n e0 e1 e2 e3 e4 e5 e6 e7 r).μ s ∧ (stF l0 l1 d0 d1 n e0 e1 e2 e3 e4 e5 e6 e7 r).fin ((stF l0 l1 d0 d1 n e0 e1 e2 e3 e4 e5 e6 e7 r).next s 0) = Jvu l0 l1 d0 d1 n e0 e1 e2 e3 e4 e5 e6 e7 r s ∧ (JqT l0 l1 d0 d1 n e0 e1 e2 e3 e4 e5 e6 e7 r s = bif Zd e0 e1 e2 e3 e4 e5 e6 (JI l0 (XD d0 (JJ9 s) n 2)) (JI l1 (XD d1 (JJ9 s) n 2)) r then JJ9 s else s.snd) ∧ Jr4 l0 l1 d0 d1 n e0 e1 e2 e3 e4 e5 e6 e7 r s = bif Zd e0 e1 e2 e3 e4 e5 e6 (JI l0 (XD d0 (JJ9 s) n 2)) (JI l1 (XD d1 (JJ9 s) n 2)) r then s.fst else JJ9 s,decide (IntKind.i64.wrap (s.snd - s.fst) > 1) = false → Jvu l0 l1 d0 d1 n e0 e1 e2 e3 e4 e5 e6 e7 r s = s.snd]
end
theorem Jqy (l0 l1 d0 d1 n e0 e1 e2 e3 e4 e5 e6:Int) (e7:Bool) (r:Int) (s:Int × Int) (hNeeds:∀ pN ∈ (JWM l0 l1 d0 d1 n e0 e1 e2 e3 e4 e5 e6 e7 r s),pN):Jz (XU (stF l0 l1 d0 d1 n e0 e1 e2 e3 e4 e5 e6 e7 r) (QU Tryz.prog (JB JKF) Zw 135 0) 82 s) :=
  Jz.of (ps := (JWM l0 l1 d0 d1 n e0 e1 e2 e3 e4 e5 e6 e7 r s)) (by kernel_rfl) (by kernel_rfl) hNeeds
theorem Jpp (l0 l1 d0 d1 n e0 e1 e2 e3 e4 e5 e6:Int) (e7:Bool) (r:Int):Qv (stF l0 l1 d0 d1 n e0 e1 e2 e3 e4 e5 e6 e7 r) (QU Tryz.prog (JB JKF) Zw 135 0) 82 := by
  intro s hJ
  obtain ⟨h0,h1,h2,h3,h4,h5⟩:0 ≤ s.1 ∧ s.1 ≤ s.2 ∧ s.2 ≤ 1000000000000 ∧ XY d0 ∧ XY d1 ∧ XY n := hJ
  obtain ⟨w1,w2,w3⟩ := Ju0 h0 h1 h2
  have hk:JJ9 s = (s.1 + s.2).tdiv 2 := w2
  refine Jqy l0 l1 d0 d1 n e0 e1 e2 e3 e4 e5 e6 e7 r s ?_
  unfold JWM
  rw [hk]
  unfold Jr0
  rw [w1]
  intro p hp
  simp only [List.mem_cons,List.not_mem_nil,or_false] at hp
  rcases hp with rfl | rfl | rfl
  · exact fun _ => ⟨h3,w3,h5,h4,w3,h5⟩
  · intro h
    have h:s.2 - s.1 > 1 := by simpa using h
    obtain ⟨b1,b2,b3,b4,b5⟩ := Jt9 (P := stP l0 l1 d0 d1 n e0 e1 e2 e3 e4 e5 e6 r) h0 h
    exact ⟨⟨b1,b2,Int.le_trans b3 h2,h3,h4,h5⟩,b4,b5,rfl,rfl⟩
  · intro h
    have h:¬ s.2 - s.1 > 1 := by simpa using h
    show bsF _ (s.1,s.2) = s.2
    exact JmY h
def stL:QH := fun env mem m => match Wj env 11,JI1 mem 12,JI1 mem 53,JI1 mem 71,JcU mem 1,JI1 mem 2 with
  | some b,some [l0,l1],some [d0,d1],some [n],some ([e0,e1,e2,e3,e4,e5,e6],e7),some [r] => jY (stF l0 l1 d0 d1 n e0 e1 e2 e3 e4 e5 e6 e7 r) 82 (fun _ _ => some (bs0 b)) env mem m
  | _,_,_,_,_,_ => none
def Jpn:FuncId → Nat → Option QH := JBZ Zw 135 5 stL
theorem Jbz:Known Tryz.prog (JB JKF) Jpn := by
  refine Qj 0 JTx (by kernel_rfl) (Qy fun env mem m x h => ?_)
  unfold stL at h
  have hlen:(QZ Tryz.prog 135).length = 1 := by kernel_rfl
  split at h
  · exact ⟨_,XF (Qa Zy JTx (by omega)) (Jpp _ _ _ _ _ _ _ _ _ _ _ _ _ _),h⟩
  · cases h
theorem Jju (P:Int → Bool):∀ (f:Nat) (a b:Int),0 ≤ a → a ≤ b → a ≤ bs P f a b ∧ bs P f a b ≤ b
  | 0,a,b,_,h => ⟨h,Int.le_refl _⟩
  | f + 1,a,b,h0,h => by
    unfold bs
    by_cases g:b - a > 1
    · obtain ⟨m1,m2⟩ := JVz h0 g
      rw [decide_eq_true g,cond_true]
      cases P ((a + b).tdiv 2)
      · have := Jju P f ((a + b).tdiv 2) b (by omega) (by omega)
        rw [cond_false]; omega
      · have := Jju P f a ((a + b).tdiv 2) h0 (by omega)
        rw [cond_true]; omega
    · rw [decide_eq_false g,cond_false]; omega
theorem JnX (P:Int → Bool) {n:Int} (h:0 ≤ n):0 ≤ bsF P (bs0 n) ∧ bsF P (bs0 n) ≤ n := Jju P _ 0 n (by omega) h
def Wo:Tpl := ⟨[.agg [.int .i64,.int .i64],.agg [.int .i64,.int .i64],.one (.clo 133 0)],[(0,.clo [.one (.ptr 1 0),.one (.ptr 2 0)]),(1,.blk 91 [(3,.int .i64),(4,.int .i64),(5,.int .i64),(6,.int .i64),(7,.int .i64),(8,.int .i64),(9,.int .i64),(10,.bool)]),(2,.blk 3 [(11,.int .i64)])],12⟩
section
variable (l0 l1 h0 h1 e0 e1 e2 e3 e4 e5 e6:Int) (e7:Bool) (r:Int)
def JDe:Int:=
 if IntKind.i64.wrap (0 - J0 h0 l0) > J0 h0 l0 then IntKind.i64.wrap (0 - J0 h0 l0) else J0 h0 l0
def JDY:Int:=
 if J0 h1 l1 > JDe l0 h0 then J0 h1 l1 else JDe l0 h0
def QB:Int:=
 if IntKind.i64.wrap (0 - J0 h1 l1) > JDY l0 l1 h0 h1 then IntKind.i64.wrap (0 - J0 h1 l1) else JDY l0 l1 h0 h1
def JCq:Int:= JI l0 (XD (J0 h0 l0) ((stF l0 l1 (J0 h0 l0) (J0 h1 l1) (QB l0 l1 h0 h1) e0 e1 e2 e3 e4 e5 e6 e7 r).fin (bs0 (QB l0 l1 h0 h1))) (QB l0 l1 h0 h1) 2)
def JDC:Int:= JI l1 (XD (J0 h1 l1) ((stF l0 l1 (J0 h0 l0) (J0 h1 l1) (QB l0 l1 h0 h1) e0 e1 e2 e3 e4 e5 e6 e7 r).fin (bs0 (QB l0 l1 h0 h1))) (QB l0 l1 h0 h1) 2)
def JDU:Prop:= -9223372036854775808 ≤ J0 h0 l0 ∧ J0 h0 l0 < 9223372036854775808
def JIq:Prop:= -9223372036854775808 ≤ QB l0 l1 h0 h1 ∧ QB l0 l1 h0 h1 < 9223372036854775808
def Ya:Int:= (stF l0 l1 (J0 h0 l0) (J0 h1 l1) (QB l0 l1 h0 h1) e0 e1 e2 e3 e4 e5 e6 e7 r).fin (bs0 (QB l0 l1 h0 h1))
def Wp:List Prop:= [0 ≤ (bs0 (QB l0 l1 h0 h1)).fst ∧ (bs0 (QB l0 l1 h0 h1)).fst ≤ (bs0 (QB l0 l1 h0 h1)).snd ∧ (bs0 (QB l0 l1 h0 h1)).snd ≤ 1000000000000 ∧ JDU l0 h0 ∧ JDU l1 h1 ∧ JIq l0 l1 h0 h1,(bs0 (QB l0 l1 h0 h1)).snd = QB l0 l1 h0 h1,(bs0 (QB l0 l1 h0 h1)).fst = 0,JDU l0 h0,-9223372036854775808 ≤ Ya l0 l1 h0 h1 e0 e1 e2 e3 e4 e5 e6 e7 r ∧ Ya l0 l1 h0 h1 e0 e1 e2 e3 e4 e5 e6 e7 r < 9223372036854775808,JIq l0 l1 h0 h1,JDU l1 h1,-9223372036854775808 ≤ Ya l0 l1 h0 h1 e0 e1 e2 e3 e4 e5 e6 e7 r ∧ Ya l0 l1 h0 h1 e0 e1 e2 e3 e4 e5 e6 e7 r < 9223372036854775808,JIq l0 l1 h0 h1]
end
theorem Jb0 {l0:Int} {l1:Int} {h0:Int} {h1:Int} {e0:Int} {e1:Int} {e2:Int} {e3:Int} {e4:Int} {e5:Int} {e6:Int} {e7:Bool} {r:Int} (hW:∀ q ∈ ([bd 1048576 l0,bd 1048576 l1,bd 1048576 h0,bd 1048576 h1]:List Prop),q):∀ q ∈ (Wp l0 l1 h0 h1 e0 e1 e2 e3 e4 e5 e6 e7 r),q := by
  simp only [awc,awn,and_true] at hW
  unfold Wp
  simp only [awc,awn,and_true]
  obtain ⟨b0,b1,b2,b3⟩ := hW
  have d0:J0 h0 l0 = h0 - l0 := Xf (by omega) (by omega)
  have d1:J0 h1 l1 = h1 - l1 := Xf (by omega) (by omega)
  have hn:0 ≤ QB l0 l1 h0 h1 ∧ QB l0 l1 h0 h1 ≤ 2097152 := by
    unfold QB JDY JDe
    rw [d0,d1,X7 (x := 0 - (h0 - l0)) (by omega) (by omega),X7 (x := 0 - (h1 - l1)) (by omega) (by omega)]
    repeat' split
    all_goals omega
  have hf:0 ≤ Ya l0 l1 h0 h1 e0 e1 e2 e3 e4 e5 e6 e7 r ∧ Ya l0 l1 h0 h1 e0 e1 e2 e3 e4 e5 e6 e7 r ≤ QB l0 l1 h0 h1 := JnX _ hn.1
  have i6:XY (Ya l0 l1 h0 h1 e0 e1 e2 e3 e4 e5 e6 e7 r) := ⟨by omega,by omega⟩
  have i5:XY (QB l0 l1 h0 h1) := ⟨by omega,by omega⟩
  have i0:XY (J0 h0 l0) := Jk _
  have i1:XY (J0 h1 l1) := Jk _
  exact ⟨⟨Int.le_refl 0,hn.1,show QB l0 l1 h0 h1 ≤ _ by omega,i0,i1,i5⟩,rfl,rfl,i0,i6,i5,i1,i6,i5⟩
def JTp (e0 e1 e2 e3 e4 e5 e6:Int) (e7:Bool) (r:Int):Jo := [(0,Obj.clo [SV.one (SC.ptr 1 0),SV.one (SC.ptr 2 0)]),(1,Obj.blk 91 [(3,Ci e0),(4,Ci e1),(5,Ci e2),(6,Ci e3),(7,Ci e4),(8,Ci e5),(9,Ci e6),(10,Cb e7)]),(2,Obj.blk 3 [(11,Ci r)])]
theorem Jan (l0 l1 h0 h1 e0 e1 e2 e3 e4 e5 e6:Int) (e7:Bool) (r:Int) (hNeeds:∀ pN ∈ (Wp l0 l1 h0 h1 e0 e1 e2 e3 e4 e5 e6 e7 r),pN):Runs (Js (JB JKF) Jpn 135) (Wo.args [.i l0,.i l1,.i h0,.i h1,.i e0,.i e1,.i e2,.i e3,.i e4,.i e5,.i e6,.b e7,.i r]) (Wo.memo [.i l0,.i l1,.i h0,.i h1,.i e0,.i e1,.i e2,.i e3,.i e4,.i e5,.i e6,.b e7,.i r] []) Wo.n (SV.agg [Ci (JCq l0 l1 h0 h1 e0 e1 e2 e3 e4 e5 e6 e7 r),Ci (JDC l0 l1 h0 h1 e0 e1 e2 e3 e4 e5 e6 e7 r)]) (JTp e0 e1 e2 e3 e4 e5 e6 e7 r) :=
  Runs.of1 (ps := (Wp l0 l1 h0 h1 e0 e1 e2 e3 e4 e5 e6 e7 r)) (by kernel_rfl) hNeeds
def JHe:List Pm → Qr → Option CRes
  | [.i l0,.i l1,.i h0,.i h1,.i e0,.i e1,.i e2,.i e3,.i e4,.i e5,.i e6,.b e7,.i r],[] => some ⟨SV.agg [Ci (JCq l0 l1 h0 h1 e0 e1 e2 e3 e4 e5 e6 e7 r),Ci (JDC l0 l1 h0 h1 e0 e1 e2 e3 e4 e5 e6 e7 r)],
 JTp e0 e1 e2 e3 e4 e5 e6 e7 r,[bd 1048576 l0,bd 1048576 l1,bd 1048576 h0,bd 1048576 h1],[],1229⟩
  | _,_ => none
theorem JgM:Qk Tryz.prog 135 (JS Wo JHe) := by
  refine JH (JD Jbz 135) fun ps ls r hr hn _ => ?_
  unfold JHe at hr
  split at hr
  · cases hr; exact ⟨_,Jan _ _ _ _ _ _ _ _ _ _ _ _ _ (Jb0 (by exact hn)),fun _ => rfl⟩
  · cases hr
def jl:List (Nat × JW) := (135,JS Wo JHe) :: JKF
theorem JIi:Known Tryz.prog (JB jl) Jpn := J7 Jbz JgM
structure CvS where
  i:Nat
  a0:Int
  a1:Int
  b0:Int
  b1:Int
section
variable (P:Int → Int → Bool) (a0 a1 b0 b1 d z:Int) (full:Bool) (s:CvS)
def JM7:Bool:= Ja (IntKind.i64.wrap (s.b0 - s.a0)) 1 && Ja (IntKind.i64.wrap (s.b1 - s.a1)) 1
def oH0:Int:= Xn (QQ a0 a1 b0 b1 d) z (J8 (QQ a0 a1 b0 b1 d) (QO a0 a1 b0 b1 d) (QQ a0 a1 b0 b1 d) (QO a0 a1 b0 b1 d)) 2
def oH1:Int:= Xn (QO a0 a1 b0 b1 d) z (J8 (QQ a0 a1 b0 b1 d) (QO a0 a1 b0 b1 d) (QQ a0 a1 b0 b1 d) (QO a0 a1 b0 b1 d)) 2
def JUH:Int:= bif !full || decide (Int.ofNat s.i > 0) then oH0 s.a0 s.a1 s.b0 s.b1 d z else IntKind.i64.wrap (0 - s.a0)
def JUD:Int:= bif !full || decide (Int.ofNat s.i > 0) then oH1 s.a0 s.a1 s.b0 s.b1 d z else IntKind.i64.wrap (0 - s.a1)
def cvN:CvS:= ⟨s.i + 1,bif P (JUH d z full s) (JUD d z full s) then s.a0 else JUH d z full s,bif P (JUH d z full s) (JUD d z full s) then s.a1 else JUD d z full s, bif P (JUH d z full s) (JUD d z full s) then JUH d z full s else s.b0,bif P (JUH d z full s) (JUD d z full s) then JUD d z full s else s.b1⟩
end
def cv (P:Int → Int → Bool) (d z:Int) (full:Bool):Nat → CvS → Int × Int
  | 0,s => (s.b0,s.b1)
  | f + 1,s => bif (!full || decide (Int.ofNat s.i > 0)) && JM7 s then (s.b0,s.b1) else cv P d z full f (cvN P d z full s)
def cv0 (a0 a1 b0 b1:Int):CvS := ⟨0,a0,a1,b0,b1⟩
def JpA (id t u:Nat) (x y:Int):Nat × SX.Obj := (id,.blk 54 [(t,I x),(u,I y)])
def crP (f4 f5 e0 e1 e2 e3 e4 e5 e6 r u w:Int):Bool := Zd e0 e1 e2 e3 e4 e5 e6 (JI f4 u) (JI f5 w) r
def crM (f0 f1 f2 f3 f4 f5 f6:Int) (f7:Bool) (e0 e1 e2 e3 e4 e5 e6:Int) (e7:Bool) (r:Int):Jo := [Juv 30 31,JoU 12 13 f0 f1 f2 f3 f4 f5 f6 f7,(0,.clo [.one (.ptr 1 0),.one (.ptr 2 0)]),JoU 1 3 e0 e1 e2 e3 e4 e5 e6 e7,(2,.blk 3 [(11,I r)])]
def crF (z:Int) (f0 f1 f2 f3 f4 f5 f6:Int) (f7:Bool) (e0 e1 e2 e3 e4 e5 e6:Int) (e7:Bool) (r:Int):Fam CvS (Int × Int) where
  k := 60
  E s := [(44,ent 1000000000 (.one (I (Int.ofNat s.i)))),(15,ent 377 (.one (.ptr 374 0))),(14,ent 373 (.one (.ptr 370 0))),(12,ent 309 (.one (I z))),(10,ent 33 (.one (.ptr 30 0))),(5,ent 21 (.one (.ptr 12 0))),(4,ent 8 (.one (.clo 133 0)))]
  M s := JpA 374 1000000001 1000000002 s.b0 s.b1 :: JpA 370 1000000003 1000000004 s.a0 s.a1 :: crM f0 f1 f2 f3 f4 f5 f6 f7 e0 e1 e2 e3 e4 e5 e6 e7 r
  out t := .leaf (.exit 0) [(15,ent 377 (.one (.ptr 374 0))),(10,ent 33 (.one (.ptr 30 0))),(5,ent 21 (.one (.ptr 12 0)))] (JpA 374 386 387 t.1 t.2 :: crM f0 f1 f2 f3 f4 f5 f6 f7 e0 e1 e2 e3 e4 e5 e6 e7 r)
  fin s := cv (crP f4 f5 e0 e1 e2 e3 e4 e5 e6 r) f6 z f7 (24 - s.i) s
  next s _ := cvN (crP f4 f5 e0 e1 e2 e3 e4 e5 e6 r) f6 z f7 s
  J s := s.i ≤ 24 ∧ XY z
  μ s := 24 - s.i
section
variable (z f0 f1 f2 f3 f4 f5 f6:Int) (f7:Bool) (e0 e1 e2 e3 e4 e5 e6:Int) (e7:Bool) (r:Int) (s:CvS)
def Jvg:Prop:= decide (Int.ofNat s.i < 24) = true
def Jvx:Prop:= (!f7 || decide (Int.ofNat s.i > 0)) = true
def JvR:Prop:= (Ja (IntKind.i64.wrap (s.b0 - s.a0)) 1 && Ja (IntKind.i64.wrap (s.b1 - s.a1)) 1) = false
def Jtn:Prop:= -9223372036854775808 ≤ z ∧ z < 9223372036854775808
def JmQ:Prop:= ((crF z f0 f1 f2 f3 f4 f5 f6 f7 e0 e1 e2 e3 e4 e5 e6 e7 r).fin s).fst = s.b0 ∧ ((crF z f0 f1 f2 f3 f4 f5 f6 f7 e0 e1 e2 e3 e4 e5 e6 e7 r).fin s).snd = s.b1
def JvK:Int:= J8 (QQ s.a0 s.a1 s.b0 s.b1 f6) (QO s.a0 s.a1 s.b0 s.b1 f6) (QQ s.a0 s.a1 s.b0 s.b1 f6) (QO s.a0 s.a1 s.b0 s.b1 f6)
def JXC:Int:= Xn (QQ s.a0 s.a1 s.b0 s.b1 f6) z (JvK f6 s) 2
def JXI:Int:= Xn (QO s.a0 s.a1 s.b0 s.b1 f6) z (JvK f6 s) 2
def JX5:List Prop:=
 [Jvg s → Jvx f7 s → JvR s → Jtn z,Jvg s → (Jvx f7 s → ((Ja (IntKind.i64.wrap (s.b0 - s.a0)) 1 && Ja (IntKind.i64.wrap (s.b1 - s.a1)) 1) = true → JmQ z f0 f1 f2 f3 f4 f5 f6 f7 e0 e1 e2 e3 e4 e5 e6 e7 r s) ∧ (JvR s → (((crF z f0 f1 f2 f3 f4 f5 f6 f7 e0 e1 e2 e3 e4 e5 e6 e7 r).next s 1).i ≤ 24 ∧ Jtn z) ∧ (crF z f0 f1 f2 f3 f4 f5 f6 f7 e0 e1 e2 e3 e4 e5 e6 e7 r).μ ((crF z f0 f1 f2 f3 f4 f5 f6 f7 e0 e1 e2 e3 e4 e5 e6 e7 r).next s 1) < (crF z f0 f1 f2 f3 f4 f5 f6 f7 e0 e1 e2 e3 e4 e5 e6 e7 r).μ s ∧ (crF z f0 f1 f2 f3 f4 f5 f6 f7 e0 e1 e2 e3 e4 e5 e6 e7 r).fin ((crF z f0 f1 f2 f3 f4 f5 f6 f7 e0 e1 e2 e3 e4 e5 e6 e7 r).next s 1) = (crF z f0 f1 f2 f3 f4 f5 f6 f7 e0 e1 e2 e3 e4 e5 e6 e7 r).fin s ∧ Int.ofNat ((crF z f0 f1 f2 f3 f4 f5 f6 f7 e0 e1 e2 e3 e4 e5 e6 e7 r).next s 1).i = IntKind.i64.wrap (Int.ofNat s.i + 1) ∧ (((crF z f0 f1 f2 f3 f4 f5 f6 f7 e0 e1 e2 e3 e4 e5 e6 e7 r).next s 1).b0 = bif Zd e0 e1 e2 e3 e4 e5 e6 (JI f4 (JXC z f6 s)) (JI f5 (JXI z f6 s)) r then JXC z f6 s else s.b0) ∧ (((crF z f0 f1 f2 f3 f4 f5 f6 f7 e0 e1 e2 e3 e4 e5 e6 e7 r).next s 1).b1 = bif Zd e0 e1 e2 e3 e4 e5 e6 (JI f4 (JXC z f6 s)) (JI f5 (JXI z f6 s)) r then JXI z f6 s else s.b1) ∧ (((crF z f0 f1 f2 f3 f4 f5 f6 f7 e0 e1 e2 e3 e4 e5 e6 e7 r).next s 1).a0 = bif Zd e0 e1 e2 e3 e4 e5 e6 (JI f4 (JXC z f6 s)) (JI f5 (JXI z f6 s)) r then s.a0 else JXC z f6 s) ∧ ((crF z f0 f1 f2 f3 f4 f5 f6 f7 e0 e1 e2 e3 e4 e5 e6 e7 r).next s 1).a1 = bif Zd e0 e1 e2 e3 e4 e5 e6 (JI f4 (JXC z f6 s)) (JI f5 (JXI z f6 s)) r then s.a1 else JXI z f6 s)) ∧ ((!f7 || decide (Int.ofNat s.i > 0)) = false → (((crF z f0 f1 f2 f3 f4 f5 f6 f7 e0 e1 e2 e3 e4 e5 e6 e7 r).next s 2).i ≤ 24 ∧ Jtn z) ∧ (crF z f0 f1 f2 f3 f4 f5 f6 f7 e0 e1 e2 e3 e4 e5 e6 e7 r).μ ((crF z f0 f1 f2 f3 f4 f5 f6 f7 e0 e1 e2 e3 e4 e5 e6 e7 r).next s 2) < (crF z f0 f1 f2 f3 f4 f5 f6 f7 e0 e1 e2 e3 e4 e5 e6 e7 r).μ s ∧ (crF z f0 f1 f2 f3 f4 f5 f6 f7 e0 e1 e2 e3 e4 e5 e6 e7 r).fin ((crF z f0 f1 f2 f3 f4 f5 f6 f7 e0 e1 e2 e3 e4 e5 e6 e7 r).next s 2) = (crF z f0 f1 f2 f3 f4 f5 f6 f7 e0 e1 e2 e3 e4 e5 e6 e7 r).fin s ∧ Int.ofNat ((crF z f0 f1 f2 f3 f4 f5 f6 f7 e0 e1 e2 e3 e4 e5 e6 e7 r).next s 2).i = IntKind.i64.wrap (Int.ofNat s.i + 1) ∧ (((crF z f0 f1 f2 f3 f4 f5 f6 f7 e0 e1 e2 e3 e4 e5 e6 e7 r).next s 2).b0 = bif Zd e0 e1 e2 e3 e4 e5 e6 (JI f4 (IntKind.i64.wrap (0 - s.a0))) (JI f5 (IntKind.i64.wrap (0 - s.a1))) r then IntKind.i64.wrap (0 - s.a0) else s.b0) ∧ (((crF z f0 f1 f2 f3 f4 f5 f6 f7 e0 e1 e2 e3 e4 e5 e6 e7 r).next s 2).b1 = bif Zd e0 e1 e2 e3 e4 e5 e6 (JI f4 (IntKind.i64.wrap (0 - s.a0))) (JI f5 (IntKind.i64.wrap (0 - s.a1))) r then IntKind.i64.wrap (0 - s.a1) else s.b1) ∧ (((crF z f0 f1 f2 f3 f4 f5 f6 f7 e0 e1 e2 e3 e4 e5 e6 e7 r).next s 2).a0 = bif Zd e0 e1 e2 e3 e4 e5 e6 (JI f4 (IntKind.i64.wrap (0 - s.a0))) (JI f5 (IntKind.i64.wrap (0 - s.a1))) r then s.a0 else IntKind.i64.wrap (0 - s.a0)) ∧ ((crF z f0 f1 f2 f3 f4 f5 f6 f7 e0 e1 e2 e3 e4 e5 e6 e7 r).next s 2).a1 = bif Zd e0 e1 e2 e3 e4 e5 e6 (JI f4 (IntKind.i64.wrap (0 - s.a0))) (JI f5 (IntKind.i64.wrap (0 - s.a1))) r then s.a1 else IntKind.i64.wrap (0 - s.a1)),decide (Int.ofNat s.i < 24) = false → JmQ z f0 f1 f2 f3 f4 f5 f6 f7 e0 e1 e2 e3 e4 e5 e6 e7 r s]
end
theorem Jrv (z f0 f1 f2 f3 f4 f5 f6:Int) (f7:Bool) (e0 e1 e2 e3 e4 e5 e6:Int) (e7:Bool) (r:Int) (s:CvS) (hNeeds:∀ pN ∈ (JX5 z f0 f1 f2 f3 f4 f5 f6 f7 e0 e1 e2 e3 e4 e5 e6 e7 r s),pN):Jz (XU (crF z f0 f1 f2 f3 f4 f5 f6 f7 e0 e1 e2 e3 e4 e5 e6 e7 r) (QU Tryz.prog (JB jl) Jpn 136 0) 385 s) :=
  Jz.of (ps := (JX5 z f0 f1 f2 f3 f4 f5 f6 f7 e0 e1 e2 e3 e4 e5 e6 e7 r s)) (by kernel_rfl) (by kernel_rfl) hNeeds
theorem Jut (P:Int → Int → Bool) (d z:Int) (full:Bool) (s:CvS) (h:s.i < 24):cv P d z full (24 - s.i) s = bif (!full || decide (Int.ofNat s.i > 0)) && JM7 s then (s.b0,s.b1) else cv P d z full (24 - (s.i + 1)) (cvN P d z full s) := by
  have e:24 - s.i = (24 - (s.i + 1)) + 1 := by omega
  rw [e]; rfl
theorem Jpe (z f0 f1 f2 f3 f4 f5 f6:Int) (f7:Bool) (e0 e1 e2 e3 e4 e5 e6:Int) (e7:Bool) (r:Int):Qv (crF z f0 f1 f2 f3 f4 f5 f6 f7 e0 e1 e2 e3 e4 e5 e6 e7 r) (QU Tryz.prog (JB jl) Jpn 136 0) 385 := by
  intro s hJ
  obtain ⟨hi,hz⟩:s.i ≤ 24 ∧ XY z := hJ
  refine Jrv z f0 f1 f2 f3 f4 f5 f6 f7 e0 e1 e2 e3 e4 e5 e6 e7 r s ?_
  unfold JX5
  intro p hp
  simp only [List.mem_cons,List.not_mem_nil,or_false] at hp
  have hw:IntKind.i64.wrap (Int.ofNat s.i + 1) = Int.ofNat (s.i + 1) := by
    rw [X7 (by simp; omega) (by simp; omega)]; rfl
  rcases hp with rfl | rfl | rfl
  · exact fun _ _ _ => hz
  · intro h0
    have hi':s.i < 24 := by
      have h0:decide (Int.ofNat s.i < 24) = true := h0
      simp at h0; omega
    have E1 := Jut (crP f4 f5 e0 e1 e2 e3 e4 e5 e6 r) f6 z f7 s hi'
    refine ⟨fun g1 => ⟨fun g2 => ?_,fun g2 => ?_⟩,fun g1 => ?_⟩
    · have g1:(!f7 || decide (Int.ofNat s.i > 0)) = true := g1
      have g2:JM7 s = true := g2
      rw [g1,g2] at E1
      have e2:(crF z f0 f1 f2 f3 f4 f5 f6 f7 e0 e1 e2 e3 e4 e5 e6 e7 r).fin s = (s.b0,s.b1) := E1
      unfold JmQ
      rw [e2]
      exact ⟨rfl,rfl⟩
    · have g1:(!f7 || decide (Int.ofNat s.i > 0)) = true := g1
      have g2:JM7 s = false := g2
      rw [g1,g2] at E1
      have m0:JUH f6 z f7 s = JXC z f6 s := by unfold JUH; rw [g1]; rfl
      have m1:JUD f6 z f7 s = JXI z f6 s := by unfold JUD; rw [g1]; rfl
      refine ⟨⟨by show s.i + 1 ≤ 24; omega,hz⟩,?_,E1.symm,hw.symm,?_,?_,?_,?_⟩
      · show 24 - (s.i + 1) < 24 - s.i; omega
      all_goals (rw [← m0,← m1]; rfl)
    · have m0:JUH f6 z f7 s = IntKind.i64.wrap (0 - s.a0) := by unfold JUH; rw [g1]; rfl
      have m1:JUD f6 z f7 s = IntKind.i64.wrap (0 - s.a1) := by unfold JUD; rw [g1]; rfl
      rw [g1] at E1
      refine ⟨⟨by show s.i + 1 ≤ 24; omega,hz⟩,?_,E1.symm,hw.symm,?_,?_,?_,?_⟩
      · show 24 - (s.i + 1) < 24 - s.i; omega
      all_goals (rw [← m0,← m1]; rfl)
  · intro h
    have hi':24 - s.i = 0 := by
      simp at h; omega
    have e2:(crF z f0 f1 f2 f3 f4 f5 f6 f7 e0 e1 e2 e3 e4 e5 e6 e7 r).fin s = (s.b0,s.b1) := by
      show cv _ _ _ _ (24 - s.i) s = _
      rw [hi']; rfl
    unfold JmQ
    rw [e2]
    exact ⟨rfl,rfl⟩
def crL:QH := fun env mem m => match Wj env 12,JI1 mem 374,JI1 mem 370,JcU mem 12,JcU mem 1,JI1 mem 2 with
  | some z,some [b0,b1],some [a0,a1],some ([f0,f1,f2,f3,f4,f5,f6],f7),some ([e0,e1,e2,e3,e4,e5,e6],e7),some [r] => jY (crF z f0 f1 f2 f3 f4 f5 f6 f7 e0 e1 e2 e3 e4 e5 e6 e7 r) 385 (fun _ _ => some (cv0 a0 a1 b0 b1)) env mem m
  | _,_,_,_,_,_ => none
def kE:FuncId → Nat → Option QH := JBZ Jpn 136 6 crL
theorem JcH:Known Tryz.prog (JB jl) kE := by
  refine Qj 0 JIi (by kernel_rfl) (Qy fun env mem m x h => ?_)
  unfold crL at h
  have hlen:(QZ Tryz.prog 136).length = 1 := by kernel_rfl
  split at h
  · exact ⟨_,XF (Qa Zy JIi (by omega)) (Jpe _ _ _ _ _ _ _ _ _ _ _ _ _ _ _ _ _ _),h⟩
  · cases h
def JCY:Tpl := ⟨[.agg [.int .i64,.int .i64,.int .i64,.int .i64,.int .i64,.int .i64,.int .i64,.bool],.agg [.int .i64,.int .i64],.agg [.int .i64,.int .i64],.one (.int .i64),.one (.clo 133 0)],[(0,.clo [.one (.ptr 1 0),.one (.ptr 2 0)]),(1,.blk 91 [(3,.int .i64),(4,.int .i64),(5,.int .i64),(6,.int .i64),(7,.int .i64),(8,.int .i64),(9,.int .i64),(10,.bool)]),(2,.blk 3 [(11,.int .i64)])],12⟩
section
variable (f0 f1 f2 f3 f4 f5 f6:Int) (f7:Bool) (l0 l1 h0 h1 rr e0 e1 e2 e3 e4 e5 e6:Int) (e7:Bool) (r:Int)
def JIo:Int:= JI f4 ((crF (IntKind.i64.wrap (JDh (J8 (J0 f0 f4) (J0 f1 f5) (J0 f0 f4) (J0 f1 f5)) 2 - IntKind.i64.wrap (f6 * rr))) f0 f1 f2 f3 f4 f5 f6 f7 e0 e1 e2 e3 e4 e5 e6 e7 r).fin (cv0 (J0 l0 f4) (J0 l1 f5) (J0 h0 f4) (J0 h1 f5))).fst
def JJz:Int:= JI f5 ((crF (IntKind.i64.wrap (JDh (J8 (J0 f0 f4) (J0 f1 f5) (J0 f0 f4) (J0 f1 f5)) 2 - IntKind.i64.wrap (f6 * rr))) f0 f1 f2 f3 f4 f5 f6 f7 e0 e1 e2 e3 e4 e5 e6 e7 r).fin (cv0 (J0 l0 f4) (J0 l1 f5) (J0 h0 f4) (J0 h1 f5))).snd
def Jbm:Int:= IntKind.i64.wrap (JDh (J8 (J0 f0 f4) (J0 f1 f5) (J0 f0 f4) (J0 f1 f5)) 2 - IntKind.i64.wrap (f6 * rr))
def JC3:List Prop:= [-9223372036854775808 ≤ J8 (J0 f0 f4) (J0 f1 f5) (J0 f0 f4) (J0 f1 f5) ∧ J8 (J0 f0 f4) (J0 f1 f5) (J0 f0 f4) (J0 f1 f5) < 9223372036854775808,(cv0 (J0 l0 f4) (J0 l1 f5) (J0 h0 f4) (J0 h1 f5)).i ≤ 24 ∧ -9223372036854775808 ≤ Jbm f0 f1 f4 f5 f6 rr ∧ Jbm f0 f1 f4 f5 f6 rr < 9223372036854775808,Int.ofNat (cv0 (J0 l0 f4) (J0 l1 f5) (J0 h0 f4) (J0 h1 f5)).i = 0,(cv0 (J0 l0 f4) (J0 l1 f5) (J0 h0 f4) (J0 h1 f5)).b0 = J0 h0 f4,(cv0 (J0 l0 f4) (J0 l1 f5) (J0 h0 f4) (J0 h1 f5)).b1 = J0 h1 f5,(cv0 (J0 l0 f4) (J0 l1 f5) (J0 h0 f4) (J0 h1 f5)).a0 = J0 l0 f4,(cv0 (J0 l0 f4) (J0 l1 f5) (J0 h0 f4) (J0 h1 f5)).a1 = J0 l1 f5]
end
theorem Jhh {f0:Int} {f1:Int} {f4:Int} {f5:Int} {f6:Int} {l0:Int} {l1:Int} {h0:Int} {h1:Int} {rr:Int}:∀ q ∈ (JC3 f0 f1 f4 f5 f6 l0 l1 h0 h1 rr),q := by
  unfold JC3
  simp only [awc,awn,and_true]
  exact ⟨Jk _,⟨Nat.zero_le _,Jk _⟩,rfl,rfl,rfl,rfl,rfl⟩
def JbP (e0 e1 e2 e3 e4 e5 e6:Int) (e7:Bool) (r:Int):Jo := [(0,Obj.clo [SV.one (SC.ptr 1 0),SV.one (SC.ptr 2 0)]),(1,Obj.blk 91 [(3,Ci e0),(4,Ci e1),(5,Ci e2),(6,Ci e3),(7,Ci e4),(8,Ci e5),(9,Ci e6),(10,Cb e7)]),(2,Obj.blk 3 [(11,Ci r)])]
theorem Jgs (f0 f1 f2 f3 f4 f5 f6:Int) (f7:Bool) (l0 l1 h0 h1 rr e0 e1 e2 e3 e4 e5 e6:Int) (e7:Bool) (r:Int) (hNeeds:∀ pN ∈ (JC3 f0 f1 f4 f5 f6 l0 l1 h0 h1 rr),pN):Runs (Js (JB jl) kE 136) (JCY.args [.i f0,.i f1,.i f2,.i f3,.i f4,.i f5,.i f6,.b f7,.i l0,.i l1,.i h0,.i h1,.i rr,.i e0,.i e1,.i e2,.i e3,.i e4,.i e5,.i e6,.b e7,.i r]) (JCY.memo [.i f0,.i f1,.i f2,.i f3,.i f4,.i f5,.i f6,.b f7,.i l0,.i l1,.i h0,.i h1,.i rr,.i e0,.i e1,.i e2,.i e3,.i e4,.i e5,.i e6,.b e7,.i r] []) JCY.n (SV.agg [Ci (JIo f0 f1 f2 f3 f4 f5 f6 f7 l0 l1 h0 h1 rr e0 e1 e2 e3 e4 e5 e6 e7 r),Ci (JJz f0 f1 f2 f3 f4 f5 f6 f7 l0 l1 h0 h1 rr e0 e1 e2 e3 e4 e5 e6 e7 r)]) (JbP e0 e1 e2 e3 e4 e5 e6 e7 r) :=
  Runs.of1 (ps := (JC3 f0 f1 f4 f5 f6 l0 l1 h0 h1 rr)) (by kernel_rfl) hNeeds
def JMG:List Pm → Qr → Option CRes
  | [.i f0,.i f1,.i f2,.i f3,.i f4,.i f5,.i f6,.b f7,.i l0,.i l1,.i h0,.i h1,.i rr,.i e0,.i e1,.i e2,.i e3,.i e4,.i e5,.i e6,.b e7,.i r],[] => some ⟨SV.agg [Ci (JIo f0 f1 f2 f3 f4 f5 f6 f7 l0 l1 h0 h1 rr e0 e1 e2 e3 e4 e5 e6 e7 r),Ci (JJz f0 f1 f2 f3 f4 f5 f6 f7 l0 l1 h0 h1 rr e0 e1 e2 e3 e4 e5 e6 e7 r)],
 JbP e0 e1 e2 e3 e4 e5 e6 e7 r,[],[],478⟩
  | _,_ => none
theorem Jpc:Qk Tryz.prog 136 (JS JCY JMG) := by
  refine JH (JD JcH 136) fun ps ls r hr hn _ => ?_
  unfold JMG at hr
  split at hr
  · cases hr; exact ⟨_,Jgs _ _ _ _ _ _ _ _ _ _ _ _ _ _ _ _ _ _ _ _ _ _ (fun p hp => Jhh p hp),fun _ => rfl⟩
  · cases hr
def JX0:List (Nat × JW) := (136,JS JCY JMG) :: jl
theorem JNp:Known Tryz.prog (JB JX0) kE := J7 JcH Jpc
theorem JUd (A B C D X:Int) (hX:X = A ∨ X = B ∨ X = C ∨ X = D):bd 1048576 (bif !Ja A 1048576 then 0 else bif !Ja B 1048576 then 0 else bif !Ja C 1048576 then 0 else bif !Ja D 1048576 then 0 else X) := by
  have z:bd 1048576 0 := by decide
  cases hA:Ja A 1048576
  · exact z
  cases hB:Ja B 1048576
  · exact z
  cases hC:Ja C 1048576
  · exact z
  cases hD:Ja D 1048576
  · exact z
  have q:∀ {x},Ja x 1048576 = true → bd 1048576 x := fun h => (jB (by omega) (by omega)).1 h
  rcases hX with rfl | rfl | rfl | rfl
  · exact q hA
  · exact q hB
  · exact q hC
  · exact q hD
theorem JEw (e0 e1 e2 e3 e4 e5 e6 r:Int):bd 1048576 (XN e0 e1 e2 e3 e4 e5 e6 r) ∧ bd 1048576 (XP e0 e1 e2 e3 e4 e5 e6 r) ∧ bd 1048576 (Xl e0 e1 e2 e3 e4 e5 e6 r) ∧ bd 1048576 (Xk e0 e1 e2 e3 e4 e5 e6 r) := by
  have z:bd 1048576 0 := by decide
  have key:∀ (p q s:Bool) (x:Int),bd 1048576 x → bd 1048576 (bif p then bif q then 0 else bif s then 0 else x else x) := fun p q s x h => by
    cases p <;> cases q <;> cases s <;> first | exact h | exact z
  refine ⟨key _ _ _ _ ?_,key _ _ _ _ ?_,key _ _ _ _ ?_,key _ _ _ _ ?_⟩
  · exact JUd _ _ _ _ _ (.inl rfl)
  · exact JUd _ _ _ _ _ (.inr (.inl rfl))
  · exact JUd _ _ _ _ _ (.inr (.inr (.inl rfl)))
  · exact JUd _ _ _ _ _ (.inr (.inr (.inr rfl)))
def JJu:Tpl := ⟨[.agg [.int .i64,.int .i64,.int .i64,.int .i64,.int .i64,.int .i64,.int .i64,.bool],.agg [.int .i64,.int .i64,.int .i64,.int .i64,.int .i64,.int .i64,.int .i64,.bool],.one (.int .i64)],[],0⟩
section
variable (e0 e1 e2 e3 e4 e5 e6:Int) (e7:Bool) (f0 f1 f2 f3 f4 f5 f6:Int) (f7:Bool) (r:Int)
def JC2:Int:= bif f6 == 0 then JCq (XN f0 f1 f2 f3 f4 f5 f6 r) (XP f0 f1 f2 f3 f4 f5 f6 r) (Xl f0 f1 f2 f3 f4 f5 f6 r) (Xk f0 f1 f2 f3 f4 f5 f6 r) e0 e1 e2 e3 e4 e5 e6 e7 r else JIo f0 f1 f2 f3 f4 f5 f6 f7 (XN f0 f1 f2 f3 f4 f5 f6 r) (XP f0 f1 f2 f3 f4 f5 f6 r) (Xl f0 f1 f2 f3 f4 f5 f6 r) (Xk f0 f1 f2 f3 f4 f5 f6 r) r e0 e1 e2 e3 e4 e5 e6 e7 r
def JB9:Int:= bif f6 == 0 then JDC (XN f0 f1 f2 f3 f4 f5 f6 r) (XP f0 f1 f2 f3 f4 f5 f6 r) (Xl f0 f1 f2 f3 f4 f5 f6 r) (Xk f0 f1 f2 f3 f4 f5 f6 r) e0 e1 e2 e3 e4 e5 e6 e7 r else JJz f0 f1 f2 f3 f4 f5 f6 f7 (XN f0 f1 f2 f3 f4 f5 f6 r) (XP f0 f1 f2 f3 f4 f5 f6 r) (Xl f0 f1 f2 f3 f4 f5 f6 r) (Xk f0 f1 f2 f3 f4 f5 f6 r) r e0 e1 e2 e3 e4 e5 e6 e7 r
def JN1:Int:= bif Qo e0 e1 e2 e3 e4 e5 e6 r != 0 then 0 else bif Qo f0 f1 f2 f3 f4 f5 f6 r != 0 then 0 else bif !Zd e0 e1 e2 e3 e4 e5 e6 (Xl f0 f1 f2 f3 f4 f5 f6 r) (Xk f0 f1 f2 f3 f4 f5 f6 r) r then 0 else bif !Ja (JC2 e0 e1 e2 e3 e4 e5 e6 e7 f0 f1 f2 f3 f4 f5 f6 f7 r) 1048576 || !Ja (JB9 e0 e1 e2 e3 e4 e5 e6 e7 f0 f1 f2 f3 f4 f5 f6 f7 r) 1048576 then 0 else bif !JHZ e0 e1 e2 e3 e4 e5 e6 e7 (JC2 e0 e1 e2 e3 e4 e5 e6 e7 f0 f1 f2 f3 f4 f5 f6 f7 r) (JB9 e0 e1 e2 e3 e4 e5 e6 e7 f0 f1 f2 f3 f4 f5 f6 f7 r) (XN e0 e1 e2 e3 e4 e5 e6 r) (XP e0 e1 e2 e3 e4 e5 e6 r) then 0 else JC2 e0 e1 e2 e3 e4 e5 e6 e7 f0 f1 f2 f3 f4 f5 f6 f7 r
def JMD:Int:= bif Qo e0 e1 e2 e3 e4 e5 e6 r != 0 then 0 else bif Qo f0 f1 f2 f3 f4 f5 f6 r != 0 then 0 else bif !Zd e0 e1 e2 e3 e4 e5 e6 (Xl f0 f1 f2 f3 f4 f5 f6 r) (Xk f0 f1 f2 f3 f4 f5 f6 r) r then 0 else bif !Ja (JC2 e0 e1 e2 e3 e4 e5 e6 e7 f0 f1 f2 f3 f4 f5 f6 f7 r) 1048576 || !Ja (JB9 e0 e1 e2 e3 e4 e5 e6 e7 f0 f1 f2 f3 f4 f5 f6 f7 r) 1048576 then 0 else bif !JHZ e0 e1 e2 e3 e4 e5 e6 e7 (JC2 e0 e1 e2 e3 e4 e5 e6 e7 f0 f1 f2 f3 f4 f5 f6 f7 r) (JB9 e0 e1 e2 e3 e4 e5 e6 e7 f0 f1 f2 f3 f4 f5 f6 f7 r) (XN e0 e1 e2 e3 e4 e5 e6 r) (XP e0 e1 e2 e3 e4 e5 e6 r) then 0 else JB9 e0 e1 e2 e3 e4 e5 e6 e7 f0 f1 f2 f3 f4 f5 f6 f7 r
def JQZ:Int:= bif Qo e0 e1 e2 e3 e4 e5 e6 r != 0 then Qo e0 e1 e2 e3 e4 e5 e6 r else bif Qo f0 f1 f2 f3 f4 f5 f6 r != 0 then Qo f0 f1 f2 f3 f4 f5 f6 r else bif !Zd e0 e1 e2 e3 e4 e5 e6 (Xl f0 f1 f2 f3 f4 f5 f6 r) (Xk f0 f1 f2 f3 f4 f5 f6 r) r then 16 else bif !Ja (JC2 e0 e1 e2 e3 e4 e5 e6 e7 f0 f1 f2 f3 f4 f5 f6 f7 r) 1048576 || !Ja (JB9 e0 e1 e2 e3 e4 e5 e6 e7 f0 f1 f2 f3 f4 f5 f6 f7 r) 1048576 then 3 else bif !JHZ e0 e1 e2 e3 e4 e5 e6 e7 (JC2 e0 e1 e2 e3 e4 e5 e6 e7 f0 f1 f2 f3 f4 f5 f6 f7 r) (JB9 e0 e1 e2 e3 e4 e5 e6 e7 f0 f1 f2 f3 f4 f5 f6 f7 r) (XN e0 e1 e2 e3 e4 e5 e6 r) (XP e0 e1 e2 e3 e4 e5 e6 r) then 16 else 0
def JGk:List Prop:= [(Qo e0 e1 e2 e3 e4 e5 e6 r != 0) = false → (Qo f0 f1 f2 f3 f4 f5 f6 r != 0) = false → (!Zd e0 e1 e2 e3 e4 e5 e6 (Xl f0 f1 f2 f3 f4 f5 f6 r) (Xk f0 f1 f2 f3 f4 f5 f6 r) r) = false → (f6 == 0) = true → (-1048576 ≤ XN f0 f1 f2 f3 f4 f5 f6 r ∧ XN f0 f1 f2 f3 f4 f5 f6 r ≤ 1048576) ∧ (-1048576 ≤ XP f0 f1 f2 f3 f4 f5 f6 r ∧ XP f0 f1 f2 f3 f4 f5 f6 r ≤ 1048576) ∧ (-1048576 ≤ Xl f0 f1 f2 f3 f4 f5 f6 r ∧ Xl f0 f1 f2 f3 f4 f5 f6 r ≤ 1048576) ∧ -1048576 ≤ Xk f0 f1 f2 f3 f4 f5 f6 r ∧ Xk f0 f1 f2 f3 f4 f5 f6 r ≤ 1048576]
end
theorem Jp2 {e0:Int} {e1:Int} {e2:Int} {e3:Int} {e4:Int} {e5:Int} {e6:Int} {f0:Int} {f1:Int} {f2:Int} {f3:Int} {f4:Int} {f5:Int} {f6:Int} {r:Int}:∀ q ∈ (JGk e0 e1 e2 e3 e4 e5 e6 f0 f1 f2 f3 f4 f5 f6 r),q := by
  unfold JGk
  simp only [awc,awn,and_true]
  intro _ _ _ _
  exact JEw _ _ _ _ _ _ _ _
theorem Jq8 (e0 e1 e2 e3 e4 e5 e6:Int) (e7:Bool) (f0 f1 f2 f3 f4 f5 f6:Int) (f7:Bool) (r:Int) (hNeeds:∀ pN ∈ (JGk e0 e1 e2 e3 e4 e5 e6 f0 f1 f2 f3 f4 f5 f6 r),pN):Runs (Js (JB JX0) kE 108) (JJu.args [.i e0,.i e1,.i e2,.i e3,.i e4,.i e5,.i e6,.b e7,.i f0,.i f1,.i f2,.i f3,.i f4,.i f5,.i f6,.b f7,.i r]) (JJu.memo [.i e0,.i e1,.i e2,.i e3,.i e4,.i e5,.i e6,.b e7,.i f0,.i f1,.i f2,.i f3,.i f4,.i f5,.i f6,.b f7,.i r] []) JJu.n (SV.tup [(true,[Ci (JN1 e0 e1 e2 e3 e4 e5 e6 e7 f0 f1 f2 f3 f4 f5 f6 f7 r),Ci (JMD e0 e1 e2 e3 e4 e5 e6 e7 f0 f1 f2 f3 f4 f5 f6 f7 r)]),(false,[Ci (JQZ e0 e1 e2 e3 e4 e5 e6 e7 f0 f1 f2 f3 f4 f5 f6 f7 r)])]) ([]) :=
  Runs.of1 (ps := (JGk e0 e1 e2 e3 e4 e5 e6 f0 f1 f2 f3 f4 f5 f6 r)) (by kernel_rfl) hNeeds
def JWq:List Pm → Qr → Option CRes
  | [.i e0,.i e1,.i e2,.i e3,.i e4,.i e5,.i e6,.b e7,.i f0,.i f1,.i f2,.i f3,.i f4,.i f5,.i f6,.b f7,.i r],[] => some ⟨SV.tup [(true,[Ci (JN1 e0 e1 e2 e3 e4 e5 e6 e7 f0 f1 f2 f3 f4 f5 f6 f7 r),Ci (JMD e0 e1 e2 e3 e4 e5 e6 e7 f0 f1 f2 f3 f4 f5 f6 f7 r)]),(false,[Ci (JQZ e0 e1 e2 e3 e4 e5 e6 e7 f0 f1 f2 f3 f4 f5 f6 f7 r)])],
 [],[],[],25762⟩
  | _,_ => none
theorem JuH:Qk Tryz.prog 108 (JS JJu JWq) := by
  refine JH (JD JNp 108) fun ps ls r hr hn _ => ?_
  unfold JWq at hr
  split at hr
  · cases hr; exact ⟨_,Jq8 _ _ _ _ _ _ _ _ _ _ _ _ _ _ _ _ _ (fun p hp => Jp2 p hp),fun _ => rfl⟩
  · cases hr
def Jl8:List (Nat × JW) := (108,JS JJu JWq) :: JX0
theorem JYh:Known Tryz.prog (JB Jl8) kE := J7 JNp JuH
def JDH:Tpl := ⟨[.agg pI],[],0⟩
def XW (k f0 f1 f2 t0 t1 t2 p c0 c1 c2 d:Int) (fu:Bool):Int := bif k != 3 || !Kt p || !XI f0 f1 f2 || !XI t0 t1 t2 || !XI c0 c1 c2 || d != 1 && d != -1 || J9 p f0 f1 f2 != J9 p c0 c1 c2 then 1 else bif decide (J8 (Jd f0 f1 f2 p c0 c1 c2) (Jg f0 f1 f2 p c0 c1 c2) (Jd f0 f1 f2 p c0 c1 c2) (Jg f0 f1 f2 p c0 c1 c2) < 64) || decide (J8 (Jd t0 t1 t2 p c0 c1 c2) (Jg t0 t1 t2 p c0 c1 c2) (Jd t0 t1 t2 p c0 c1 c2) (Jg t0 t1 t2 p c0 c1 c2) < 64) || !jc (J8 (Jd f0 f1 f2 p c0 c1 c2) (Jg f0 f1 f2 p c0 c1 c2) (Jd f0 f1 f2 p c0 c1 c2) (Jg f0 f1 f2 p c0 c1 c2)) (J8 (Jd t0 t1 t2 p c0 c1 c2) (Jg t0 t1 t2 p c0 c1 c2) (Jd t0 t1 t2 p c0 c1 c2) (Jg t0 t1 t2 p c0 c1 c2)) || fu && !(Jd f0 f1 f2 p c0 c1 c2 == Jd t0 t1 t2 p c0 c1 c2 && Jg f0 f1 f2 p c0 c1 c2 == Jg t0 t1 t2 p c0 c1 c2) || !fu && XK (Jd f0 f1 f2 p c0 c1 c2) (Jg f0 f1 f2 p c0 c1 c2) (Jd t0 t1 t2 p c0 c1 c2) (Jg t0 t1 t2 p c0 c1 c2) then 12 else 0
theorem JhY (k bl f0 f1 f2 t0 t1 t2 p c0 c1 c2 d:Int) (fu:Bool) (fe:Int) (pr:Bool) (si ra be n sp:Int) (on:Bool):Runs (Js (JB Jl8) kE 95) (JDH.args [.i k,.i bl,.i f0,.i f1,.i f2,.i t0,.i t1,.i t2,.i p,.i c0,.i c1,.i c2,.i d,.b fu,.i fe,.b pr,.i si,.i ra,.i be,.i n,.i sp,.b on]) (JDH.memo [.i k,.i bl,.i f0,.i f1,.i f2,.i t0,.i t1,.i t2,.i p,.i c0,.i c1,.i c2,.i d,.b fu,.i fe,.b pr,.i si,.i ra,.i be,.i n,.i sp,.b on] []) JDH.n (SV.one (Ci (XW k f0 f1 f2 t0 t1 t2 p c0 c1 c2 d fu))) ([]) :=
  Runs.of1 (ps := []) (by kernel_rfl) (by simp)
def JMj:List Pm → Qr → Option CRes
  | [.i k,.i bl,.i f0,.i f1,.i f2,.i t0,.i t1,.i t2,.i p,.i c0,.i c1,.i c2,.i d,.b fu,.i fe,.b pr,.i si,.i ra,.i be,.i n,.i sp,.b on],[] => some ⟨SV.one (Ci (XW k f0 f1 f2 t0 t1 t2 p c0 c1 c2 d fu)),
 [],[],[],1152⟩
  | _,_ => none
theorem Jpq:Qk Tryz.prog 95 (JS JDH JMj) := by
  refine JH (JD JYh 95) fun ps ls r hr hn _ => ?_
  unfold JMj at hr
  split at hr
  · cases hr; exact ⟨_,JhY _ _ _ _ _ _ _ _ _ _ _ _ _ _ _ _ _ _ _ _ _ _,fun _ => rfl⟩
  · cases hr
def JYO:List (Nat × JW) := (95,JS JDH JMj) :: Jl8
theorem JO5:Known Tryz.prog (JB JYO) kE := J7 JYh Jpq
def ko:Tpl := ⟨[.one (.int .i64)],[],0⟩
def J5 (k:Int):Bool := decide (k ≥ 1) && decide (k ≤ 6)
theorem JeS (k:Int):Runs (Js (JB JYO) kE 46) (ko.args [.i k]) (ko.memo [.i k] []) ko.n (SV.one (Cb (J5 k))) ([]) :=
  Runs.of1 (ps := []) (by kernel_rfl) (by simp)
def JIp:List Pm → Qr → Option CRes
  | [.i k],[] => some ⟨SV.one (Cb (J5 k)),
 [],[],[],8⟩
  | _,_ => none
theorem Jjh:Qk Tryz.prog 46 (JS ko JIp) := by
  refine JH (JD JO5 46) fun ps ls r hr hn _ => ?_
  unfold JIp at hr
  split at hr
  · cases hr; exact ⟨_,JeS _,fun _ => rfl⟩
  · cases hr
def JPZ:List (Nat × JW) := (46,JS ko JIp) :: JYO
theorem JLB:Known Tryz.prog (JB JPZ) kE := J7 JO5 Jjh
def JCN:Tpl := ⟨[.agg pI],[],0⟩
def JKn:List GK := [.v Jy]
section
variable (x:List GC)
def JcQ:Bool:= bif xi x 0 == 1 then xi x 14 == 0 && !xb x 15 && xi x 18 == 0 else bif decide (xi x 14 < 1) || decide (xi x 14 > 60000000) then false else bif bif xi x 0 == 2 then xi x 0 == 2 else xi x 0 == 3 then decide (xi x 18 ≥ 0) && decide (xi x 18 ≤ 1000) else bif bif xi x 0 == 5 then xi x 0 == 5 else xi x 0 == 6 then xi x 18 == 0 && xb x 15 else xi x 18 == 0
def Jc0:Bool:= bif xi x 0 == 6 then bif xi x 19 != 3 && xi x 19 != 4 then false else JcQ x else bif xi x 19 != 0 then false else JcQ x
def JRI:Bool:= decide (xi x 19 ≥ 0)
def Qc:Bool:= bif decide (xi x 1 < 0) || decide (xi x 1 ≥ 2000) then false else bif J5 (xi x 0) then bif !XI (xi x 2) (xi x 3) (xi x 4) || !XI (xi x 5) (xi x 6) (xi x 7) || xi x 20 != 0 || xb x 21 || !bif xi x 16 == 0 then xi x 17 == 0 && (xi x 8 == 0 || xi x 0 == 3) else (xi x 0 == 1 || xi x 0 == 2 || xi x 0 == 3) && Kt (xi x 8) && (xi x 16 == 1 || xi x 16 == -1) && decide (xi x 17 ≥ 0) && decide (xi x 17 ≤ 32768) then false else bif xi x 0 == 3 then bif XW (xi x 0) (xi x 2) (xi x 3) (xi x 4) (xi x 5) (xi x 6) (xi x 7) (xi x 8) (xi x 9) (xi x 10) (xi x 11) (xi x 12) (xb x 13) != 0 then false else Jc0 x else bif !(xi x 9 == 0 && (xi x 10 == 0 && xi x 11 == 0)) || xi x 12 != 0 || xb x 13 then false else Jc0 x else bif !(xi x 0 == xi x 0 && (xi x 1 == xi x 1 && (xi x 2 == 0 && (xi x 3 == 0 && (xi x 4 == 0 && (xi x 5 == 0 && (xi x 6 == 0 && (xi x 7 == 0 && (xi x 8 == 0 && (xi x 9 == 0 && (xi x 10 == 0 && (xi x 11 == 0 && (xi x 12 == 0 && (xb x 13 == false && (xi x 14 == 0 && (xb x 15 == false && (xi x 16 == 0 && (xi x 17 == 0 && (xi x 18 == 0 && (xi x 19 == xi x 19 && (xi x 20 == xi x 20 && xb x 21 == xb x 21))))))))))))))))))))) then false else bif xi x 0 == 8 then !xb x 21 && decide (xi x 19 ≥ 3) && decide (xi x 19 ≤ 5) && decide (xi x 20 ≥ 0) && decide (xi x 20 ≤ 30000) && (xi x 19 != 5 || xi x 20 == 0) else bif xi x 0 == 9 then xi x 20 == 0 && (xi x 19 == 7 || xi x 19 == 8) else bif xi x 0 == 10 then xi x 20 == 0 && JRI x && decide (xi x 19 < 16) else bif xi x 0 == 7 then !xb x 21 && xi x 20 == 0 && JRI x && decide (xi x 19 ≤ 60000) else bif xi x 0 == 11 then !xb x 21 && xi x 20 == 0 && JRI x && decide (xi x 19 ≤ 32) else (bif xi x 0 == 12 then xi x 0 == 12 else bif xi x 0 == 13 then xi x 0 == 13 else xi x 0 == 14) && (!xb x 21 && xi x 20 == 0 && xi x 19 == 0)
end
theorem Jgk (x:List GC):Runs (Js (JB JPZ) kE 47) (JCN.args (Jc JKn [.v x])) (JCN.memo (Jc JKn [.v x]) []) JCN.n (SV.one (Cb (Qc x))) ([]) :=
  Runs.of1 (ps := []) (by kernel_rfl) (by simp)
def JMK:List Gm → Qr → Option CRes
  | [.v x],[] => some ⟨SV.one (Cb (Qc x)),
 [],[],[],1925⟩
  | _,_ => none
theorem JoT:Qk Tryz.prog 47 (Z9 JKn JCN JMK) := by
  refine Qd (JD JLB 47) fun ps ls r hr hn _ => ?_
  unfold JMK at hr
  split at hr
  · cases hr; exact ⟨_,Jgk _,fun _ => rfl⟩
  · cases hr
def JVO:List (Nat × JW) := (47,Z9 JKn JCN JMK) :: JPZ
theorem JP8:Known Tryz.prog (JB JVO) kE := J7 JLB JoT
def JEs:Tpl := ⟨[.agg pI,.one (.int .i64),.one (.int .i64)],[],0⟩
def JOX:List GK := [.v Jy,.i,.i]
section
variable (x:List GC) (pl ra:Int)
def JGC:Int:= IntKind.i64.wrap (J3 pl (xi x 5) (xi x 6) (xi x 7) - J3 pl (xi x 2) (xi x 3) (xi x 4))
def JFs:Int:= IntKind.i64.wrap (J4 pl (xi x 5) (xi x 6) (xi x 7) - J4 pl (xi x 2) (xi x 3) (xi x 4))
def JX:Bool:= xi x 0 == 2 && J9 pl (xi x 2) (xi x 3) (xi x 4) == J9 pl (xi x 5) (xi x 6) (xi x 7) && decide (J8 (JGC x pl) (JFs x pl) (JGC x pl) (JFs x pl) > 0) && decide (J8 (JGC x pl) (JFs x pl) (JGC x pl) (JFs x pl) ≥ IntKind.i64.wrap (ra * ra))
end
theorem Jjy (x:List GC) (pl ra:Int):Runs (Js (JB JVO) kE 65) (JEs.args (Jc JOX [.v x,.i pl,.i ra])) (JEs.memo (Jc JOX [.v x,.i pl,.i ra]) []) JEs.n (SV.one (Cb (JX x pl ra))) ([]) :=
  Runs.of1 (ps := []) (by kernel_rfl) (by simp)
def JR6:List Gm → Qr → Option CRes
  | [.v x,.i pl,.i ra],[] => some ⟨SV.one (Cb (JX x pl ra)),
 [],[],[],254⟩
  | _,_ => none
theorem JsO:Qk Tryz.prog 65 (Z9 JOX JEs JR6) := by
  refine Qd (JD JP8 65) fun ps ls r hr hn _ => ?_
  unfold JR6 at hr
  split at hr
  · cases hr; exact ⟨_,Jjy _ _ _,fun _ => rfl⟩
  · cases hr
def JUu:List (Nat × JW) := (65,Z9 JOX JEs JR6) :: JVO
theorem JTh:Known Tryz.prog (JB JUu) kE := J7 JP8 JsO
def Y3:List (Nat × PO) := [(0,.blk 66 [(3,.int .i64),(4,.int .i64),(5,.int .i64),(6,.int .i64),(7,.int .i64),(8,.int .i64),(9,.int .i64),(10,.int .i64),(11,.int .i64),(12,.int .i64),(13,.int .i64),(14,.int .i64),(15,.int .i64),(16,.bool),(17,.int .i64),(18,.bool),(19,.int .i64),(20,.int .i64),(21,.int .i64),(22,.int .i64),(23,.int .i64),(24,.bool),(25,.int .i64),(26,.int .i64),(27,.int .i64),(28,.int .i64),(29,.int .i64),(30,.int .i64),(31,.int .i64),(32,.int .i64),(33,.int .i64),(34,.int .i64),(35,.int .i64),(36,.int .i64),(37,.int .i64),(38,.bool),(39,.int .i64),(40,.bool),(41,.int .i64),(42,.int .i64),(43,.int .i64),(44,.int .i64),(45,.int .i64),(46,.bool),(47,.int .i64),(48,.int .i64),(49,.bool),(50,.wh 1),(51,.bool),(52,.bool),(53,.bool),(54,.bool),(55,.int .i64),(56,.int .i64),(57,.int .i64),(58,.wh 2),(59,.int .i64)]),(1,.row false 40 22 60 jH),(2,.row false 40 22 61 jH)]
def zo:Tpl := ⟨[.one (.ptr 0 0),.agg pI,.agg [.int .i64,.int .i64],.one (.int .i64),.one (.int .i64),.one (.bool)],Y3,62⟩
def JKQ:List GK := [.v Jy,.i,.i,.i,.i,.b,.v Jy,.v Jy,.i,.i,.b,.b,.b,.b,.b,.i,.i,.i,.i]
section
variable (x:List GC) (u w lo hi:Int) (al:Bool) (l:List GC) (a0 a1:Int) (O:LL)
def Jmd:Int:= bif al || !(JP (xi l 8) a0 a1 lo == JP (xi l 8) u w hi && (JQ (xi l 8) a0 a1 lo == JQ (xi l 8) u w hi && JR (xi l 8) a0 a1 lo == JR (xi l 8) u w hi)) then u else u
def Jmh:Int:= bif al || !(JP (xi l 8) a0 a1 lo == JP (xi l 8) u w hi && (JQ (xi l 8) a0 a1 lo == JQ (xi l 8) u w hi && JR (xi l 8) a0 a1 lo == JR (xi l 8) u w hi)) then w else w
def Zu:LL:= bif al || !(JP (xi l 8) a0 a1 lo == JP (xi l 8) u w hi && (JQ (xi l 8) a0 a1 lo == JQ (xi l 8) u w hi && JR (xi l 8) a0 a1 lo == JR (xi l 8) u w hi)) then O ++ [[xi x 0,xi x 1,JP (xi l 8) a0 a1 lo,JQ (xi l 8) a0 a1 lo,JR (xi l 8) a0 a1 lo,JP (xi l 8) u w hi,JQ (xi l 8) u w hi,JR (xi l 8) u w hi,bif xi x 0 != 3 then 0 else xi x 8,xi x 9,xi x 10,xi x 11,xi x 12,bif xb x 13 then 1 else 0,xi x 14,bif xb x 15 then 1 else 0,0,0,xi x 18,xi x 19,xi x 20,bif xb x 21 then 1 else 0]] else O
def JDL:List Prop:= [(al || !(JP (xi l 8) a0 a1 lo == JP (xi l 8) u w hi && (JQ (xi l 8) a0 a1 lo == JQ (xi l 8) u w hi && JR (xi l 8) a0 a1 lo == JR (xi l 8) u w hi))) = true → (O.length + 1) * 176 ≤ 140737488355328 ∧ O.length + 1 ≤ 9223372036854775807]
end
theorem Jos {u:Int} {w:Int} {lo:Int} {hi:Int} {al:Bool} {l:List GC} {a0:Int} {a1:Int} {O:LL} (hW:∀ q ∈ ([O.length ≤ 1000000]:List Prop),q):∀ q ∈ (JDL u w lo hi al l a0 a1 O),q := by
  simp only [awc,awn,and_true] at hW
  unfold JDL
  simp only [awc,awn,and_true]
  exact fun _ => ⟨by omega,by omega⟩
def Jn8 (x:List GC) (u w lo hi:Int) (al:Bool) (l y:List GC) (a0 a1:Int) (tr op cl en mo:Bool) (la0 la1 la2 er:Int) (C O:LL):Jo := [(0,Obj.blk 66 [(3,Ci (xi l 0)),(4,Ci (xi l 1)),(5,Ci (xi l 2)),(6,Ci (xi l 3)),(7,Ci (xi l 4)),(8,Ci (xi l 5)),(9,Ci (xi l 6)),(10,Ci (xi l 7)),(11,Ci (xi l 8)),(12,Ci (xi l 9)),(13,Ci (xi l 10)),(14,Ci (xi l 11)),(15,Ci (xi l 12)),(16,Cb (xb l 13)),(17,Ci (xi l 14)),(18,Cb (xb l 15)),(19,Ci (xi l 16)),(20,Ci (xi l 17)),(21,Ci (xi l 18)),(22,Ci (xi l 19)),(23,Ci (xi l 20)),(24,Cb (xb l 21)),(25,Ci (xi y 0)),(26,Ci (xi y 1)),(27,Ci (xi y 2)),(28,Ci (xi y 3)),(29,Ci (xi y 4)),(30,Ci (xi y 5)),(31,Ci (xi y 6)),(32,Ci (xi y 7)),(33,Ci (xi y 8)),(34,Ci (xi y 9)),(35,Ci (xi y 10)),(36,Ci (xi y 11)),(37,Ci (xi y 12)),(38,Cb (xb y 13)),(39,Ci (xi y 14)),(40,Cb (xb y 15)),(41,Ci (xi y 16)),(42,Ci (xi y 17)),(43,Ci (xi y 18)),(44,Ci (xi y 19)),(45,Ci (xi y 20)),(46,Cb (xb y 21)),(593,Ci (Jmd u w lo hi al l a0 a1)),(594,Ci (Jmh u w lo hi al l a0 a1)),(49,Cb tr),(50,SC.wh 1),(51,Cb op),(52,Cb cl),(53,Cb en),(54,Cb mo),(55,Ci la0),(56,Ci la1),(57,Ci la2),(591,SC.wh 589),(59,Ci er)]),(589,Obj.row false 40 22 (RowC.lst 592 jH (Zu x u w lo hi al l a0 a1 O))),(1,Obj.row false 40 22 (RowC.lst 60 jH C))]
theorem JoN (x:List GC) (u w lo hi:Int) (al:Bool) (l y:List GC) (a0 a1:Int) (tr op cl en mo:Bool) (la0 la1 la2 er:Int) (C O:LL) (hNeeds:∀ pN ∈ (JDL u w lo hi al l a0 a1 O),pN):Runs (Js (JB JUu) kE 72) (zo.args (Jc JKQ [.v x,.i u,.i w,.i lo,.i hi,.b al,.v l,.v y,.i a0,.i a1,.b tr,.b op,.b cl,.b en,.b mo,.i la0,.i la1,.i la2,.i er])) (zo.memo (Jc JKQ [.v x,.i u,.i w,.i lo,.i hi,.b al,.v l,.v y,.i a0,.i a1,.b tr,.b op,.b cl,.b en,.b mo,.i la0,.i la1,.i la2,.i er]) [C,O]) zo.n (SV.tup []) (Jn8 x u w lo hi al l y a0 a1 tr op cl en mo la0 la1 la2 er C O) :=
  Runs.of1 (ps := (JDL u w lo hi al l a0 a1 O)) (by kernel_rfl) hNeeds
def JXY:List Gm → Qr → Option CRes
  | [.v x,.i u,.i w,.i lo,.i hi,.b al,.v l,.v y,.i a0,.i a1,.b tr,.b op,.b cl,.b en,.b mo,.i la0,.i la1,.i la2,.i er],[C,O] => some ⟨SV.tup [],[(0,Obj.blk 66 [(3,Ci (xi l 0)),(4,Ci (xi l 1)),(5,Ci (xi l 2)),(6,Ci (xi l 3)),(7,Ci (xi l 4)),(8,Ci (xi l 5)),(9,Ci (xi l 6)),(10,Ci (xi l 7)),(11,Ci (xi l 8)),(12,Ci (xi l 9)),(13,Ci (xi l 10)),(14,Ci (xi l 11)),(15,Ci (xi l 12)),(16,Cb (xb l 13)),(17,Ci (xi l 14)),(18,Cb (xb l 15)),(19,Ci (xi l 16)),(20,Ci (xi l 17)),(21,Ci (xi l 18)),(22,Ci (xi l 19)),(23,Ci (xi l 20)),(24,Cb (xb l 21)),(25,Ci (xi y 0)),(26,Ci (xi y 1)),(27,Ci (xi y 2)),(28,Ci (xi y 3)),(29,Ci (xi y 4)),(30,Ci (xi y 5)),(31,Ci (xi y 6)),(32,Ci (xi y 7)),(33,Ci (xi y 8)),(34,Ci (xi y 9)),(35,Ci (xi y 10)),(36,Ci (xi y 11)),(37,Ci (xi y 12)),(38,Cb (xb y 13)),(39,Ci (xi y 14)),(40,Cb (xb y 15)),(41,Ci (xi y 16)),(42,Ci (xi y 17)),(43,Ci (xi y 18)),(44,Ci (xi y 19)),(45,Ci (xi y 20)),(46,Cb (xb y 21)),(593,Ci (u)),(594,Ci (w)),(49,Cb tr),(50,SC.wh 1),(51,Cb op),(52,Cb cl),(53,Cb en),(54,Cb mo),(55,Ci la0),(56,Ci la1),(57,Ci la2),(591,SC.wh 589),(59,Ci er)]),(589,Obj.row false 40 22 (RowC.lst 592 jH (Zu x u w lo hi al l a0 a1 O))),(1,Obj.row false 40 22 (RowC.lst 60 jH C))],[O.length ≤ 1000000],[],595⟩
  | _,_ => none
theorem Jgc (x:List GC) (u w lo hi:Int) (al:Bool) (l y:List GC) (a0 a1:Int) (tr op cl en mo:Bool) (la0 la1 la2 er:Int) (C O:LL) (hNeeds:∀ pN ∈ (JDL u w lo hi al l a0 a1 O),pN):Runs (Js (JB JUu) kE 72) (zo.args (Jc JKQ [.v x,.i u,.i w,.i lo,.i hi,.b al,.v l,.v y,.i a0,.i a1,.b tr,.b op,.b cl,.b en,.b mo,.i la0,.i la1,.i la2,.i er])) (zo.memo (Jc JKQ [.v x,.i u,.i w,.i lo,.i hi,.b al,.v l,.v y,.i a0,.i a1,.b tr,.b op,.b cl,.b en,.b mo,.i la0,.i la1,.i la2,.i er]) [C,O]) zo.n (SV.tup [])
    ([(0,
     Obj.blk 66
     [(3,SC.int IntKind.i64 (SI.v (xi l 0))),(4,SC.int IntKind.i64 (SI.v (xi l 1))),(5,SC.int IntKind.i64 (SI.v (xi l 2))),(6,SC.int IntKind.i64 (SI.v (xi l 3))),
     (7,SC.int IntKind.i64 (SI.v (xi l 4))),(8,SC.int IntKind.i64 (SI.v (xi l 5))),(9,SC.int IntKind.i64 (SI.v (xi l 6))),(10,SC.int IntKind.i64 (SI.v (xi l 7))),
     (11,SC.int IntKind.i64 (SI.v (xi l 8))),(12,SC.int IntKind.i64 (SI.v (xi l 9))),(13,SC.int IntKind.i64 (SI.v (xi l 10))),(14,SC.int IntKind.i64 (SI.v (xi l 11))),
     (15,SC.int IntKind.i64 (SI.v (xi l 12))),(16,SC.bool (SB.v (xb l 13))),(17,SC.int IntKind.i64 (SI.v (xi l 14))),(18,SC.bool (SB.v (xb l 15))),(19,SC.int IntKind.i64 (SI.v (xi l 16))),
     (20,SC.int IntKind.i64 (SI.v (xi l 17))),(21,SC.int IntKind.i64 (SI.v (xi l 18))),(22,SC.int IntKind.i64 (SI.v (xi l 19))),(23,SC.int IntKind.i64 (SI.v (xi l 20))),
     (24,SC.bool (SB.v (xb l 21))),(25,SC.int IntKind.i64 (SI.v (xi y 0))),(26,SC.int IntKind.i64 (SI.v (xi y 1))),(27,SC.int IntKind.i64 (SI.v (xi y 2))),
     (28,SC.int IntKind.i64 (SI.v (xi y 3))),(29,SC.int IntKind.i64 (SI.v (xi y 4))),(30,SC.int IntKind.i64 (SI.v (xi y 5))),(31,SC.int IntKind.i64 (SI.v (xi y 6))),
     (32,SC.int IntKind.i64 (SI.v (xi y 7))),(33,SC.int IntKind.i64 (SI.v (xi y 8))),(34,SC.int IntKind.i64 (SI.v (xi y 9))),(35,SC.int IntKind.i64 (SI.v (xi y 10))),
     (36,SC.int IntKind.i64 (SI.v (xi y 11))),(37,SC.int IntKind.i64 (SI.v (xi y 12))),(38,SC.bool (SB.v (xb y 13))),(39,SC.int IntKind.i64 (SI.v (xi y 14))),(40,SC.bool (SB.v (xb y 15))),
     (41,SC.int IntKind.i64 (SI.v (xi y 16))),(42,SC.int IntKind.i64 (SI.v (xi y 17))),(43,SC.int IntKind.i64 (SI.v (xi y 18))),(44,SC.int IntKind.i64 (SI.v (xi y 19))),
     (45,SC.int IntKind.i64 (SI.v (xi y 20))),(46,SC.bool (SB.v (xb y 21))),(593,SC.int IntKind.i64 (SI.v (u))),
     (594,SC.int IntKind.i64 (SI.v (w))),(49,SC.bool (SB.v tr)),(50,SC.wh 1),(51,SC.bool (SB.v op)),(52,SC.bool (SB.v cl)),(53,SC.bool (SB.v en)),
     (54,SC.bool (SB.v mo)),(55,SC.int IntKind.i64 (SI.v la0)),(56,SC.int IntKind.i64 (SI.v la1)),(57,SC.int IntKind.i64 (SI.v la2)),(591,SC.wh 589),(59,SC.int IntKind.i64 (SI.v er))]),
    (589,
     Obj.row false 40 22
     (RowC.lst 592
     [CK.int IntKind.i64,CK.int IntKind.i64,CK.int IntKind.i64,CK.int IntKind.i64,CK.int IntKind.i64,CK.int IntKind.i64,CK.int IntKind.i64,CK.int IntKind.i64,CK.int IntKind.i64,
     CK.int IntKind.i64,CK.int IntKind.i64,CK.int IntKind.i64,CK.int IntKind.i64,CK.bool,CK.int IntKind.i64,CK.bool,CK.int IntKind.i64,CK.int IntKind.i64,CK.int IntKind.i64,
     CK.int IntKind.i64,CK.int IntKind.i64,CK.bool]
     (Zu x u w lo hi al l a0 a1 O))),
    (1,
     Obj.row false 40 22
     (RowC.lst 60
     [CK.int IntKind.i64,CK.int IntKind.i64,CK.int IntKind.i64,CK.int IntKind.i64,CK.int IntKind.i64,CK.int IntKind.i64,CK.int IntKind.i64,CK.int IntKind.i64,CK.int IntKind.i64,
     CK.int IntKind.i64,CK.int IntKind.i64,CK.int IntKind.i64,CK.int IntKind.i64,CK.bool,CK.int IntKind.i64,CK.bool,CK.int IntKind.i64,CK.int IntKind.i64,CK.int IntKind.i64,
     CK.int IntKind.i64,CK.int IntKind.i64,CK.bool]
     C))]) :=
  (JoN x u w lo hi al l y a0 a1 tr op cl en mo la0 la1 la2 er C O hNeeds).to (by first | rfl | (simp only [])) ((by simp only [Jn8,Ci,Cb,jH,Jmd,Jmh,Bool.cond_self]))
theorem Jv4:Qk Tryz.prog 72 (Z9 JKQ zo JXY) := by
  refine Qd (JD JTh 72) fun ps ls r hr hn _ => ?_
  unfold JXY at hr
  split at hr
  · cases hr; exact ⟨_,Jgc _ _ _ _ _ _ _ _ _ _ _ _ _ _ _ _ _ _ _ _ _ (Jos (by exact hn)),fun _ => rfl⟩
  · cases hr
def Jki:List (Nat × JW) := (72,Z9 JKQ zo JXY) :: JUu
theorem JZx:Known Tryz.prog (JB Jki) kE := J7 JTh Jv4
theorem Wg (x:List GC) (u w lo hi:Int) (al:Bool) (l:List GC) (a0 a1:Int) (O:LL):O.length ≤ (Zu x u w lo hi al l a0 a1 O).length ∧ (Zu x u w lo hi al l a0 a1 O).length ≤ O.length + 1 := by
  unfold Zu
  generalize (al || _:Bool) = c
  cases c
  · exact ⟨Nat.le_refl _,Nat.le_succ _⟩
  · simp only [cond_true,List.length_append,List.length_cons,List.length_nil]; omega
def JD3:Tpl := ⟨[.one (.ptr 0 0),.agg [.int .i64,.int .i64],.one (.bool)],Y3,62⟩
def JKz:List GK := [.i,.i,.b,.v Jy,.v Jy,.i,.i,.b,.b,.b,.b,.b,.i,.i,.i,.i]
def je (u:Int) (l y:List GC):Int := IntKind.i64.wrap (u - J3 (xi l 8) (xi y 9) (xi y 10) (xi y 11))
def ja (w:Int) (l y:List GC):Int := IntKind.i64.wrap (w - J4 (xi l 8) (xi y 9) (xi y 10) (xi y 11))
def WE (u w:Int) (tm:Bool) (l y:List GC) (a0 a1:Int) (tr:Bool):Bool := bif tr then bif !KQ (xi y 2) (xi y 3) (xi y 4) (xi y 5) (xi y 6) (xi y 7) (xi y 8) (xi y 9) (xi y 10) (xi y 11) (xi y 12) (xb y 13) (IntKind.i64.wrap (a0 - J3 (xi l 8) (xi y 9) (xi y 10) (xi y 11))) (IntKind.i64.wrap (a1 - J4 (xi l 8) (xi y 9) (xi y 10) (xi y 11))) then false else !tm || KQ (JP (xi l 8) a0 a1 (J9 (xi l 8) (xi y 2) (xi y 3) (xi y 4))) (JQ (xi l 8) a0 a1 (J9 (xi l 8) (xi y 2) (xi y 3) (xi y 4))) (JR (xi l 8) a0 a1 (J9 (xi l 8) (xi y 2) (xi y 3) (xi y 4))) (xi y 5) (xi y 6) (xi y 7) (xi y 8) (xi y 9) (xi y 10) (xi y 11) (xi y 12) (xb y 13) (je u l y) (ja w l y) else !tm || KQ (xi y 2) (xi y 3) (xi y 4) (xi y 5) (xi y 6) (xi y 7) (xi y 8) (xi y 9) (xi y 10) (xi y 11) (xi y 12) (xb y 13) (je u l y) (ja w l y)
def JbT (l y:List GC) (a0 a1:Int) (tr op cl en mo:Bool) (la0 la1 la2 er:Int) (C O:LL):Jo := [(0,Obj.blk 66 [(3,Ci (xi l 0)),(4,Ci (xi l 1)),(5,Ci (xi l 2)),(6,Ci (xi l 3)),(7,Ci (xi l 4)),(8,Ci (xi l 5)),(9,Ci (xi l 6)),(10,Ci (xi l 7)),(11,Ci (xi l 8)),(12,Ci (xi l 9)),(13,Ci (xi l 10)),(14,Ci (xi l 11)),(15,Ci (xi l 12)),(16,Cb (xb l 13)),(17,Ci (xi l 14)),(18,Cb (xb l 15)),(19,Ci (xi l 16)),(20,Ci (xi l 17)),(21,Ci (xi l 18)),(22,Ci (xi l 19)),(23,Ci (xi l 20)),(24,Cb (xb l 21)),(25,Ci (xi y 0)),(26,Ci (xi y 1)),(27,Ci (xi y 2)),(28,Ci (xi y 3)),(29,Ci (xi y 4)),(30,Ci (xi y 5)),(31,Ci (xi y 6)),(32,Ci (xi y 7)),(33,Ci (xi y 8)),(34,Ci (xi y 9)),(35,Ci (xi y 10)),(36,Ci (xi y 11)),(37,Ci (xi y 12)),(38,Cb (xb y 13)),(39,Ci (xi y 14)),(40,Cb (xb y 15)),(41,Ci (xi y 16)),(42,Ci (xi y 17)),(43,Ci (xi y 18)),(44,Ci (xi y 19)),(45,Ci (xi y 20)),(46,Cb (xb y 21)),(47,Ci a0),(48,Ci a1),(49,Cb tr),(50,SC.wh 1),(51,Cb op),(52,Cb cl),(53,Cb en),(54,Cb mo),(55,Ci la0),(56,Ci la1),(57,Ci la2),(58,SC.wh 2),(59,Ci er)]),(1,Obj.row false 40 22 (RowC.lst 60 jH C)),(2,Obj.row false 40 22 (RowC.lst 61 jH O))]
theorem JiA (u w:Int) (tm:Bool) (l y:List GC) (a0 a1:Int) (tr op cl en mo:Bool) (la0 la1 la2 er:Int) (C O:LL):Runs (Js (JB Jki) kE 104) (JD3.args (Jc JKz [.i u,.i w,.b tm,.v l,.v y,.i a0,.i a1,.b tr,.b op,.b cl,.b en,.b mo,.i la0,.i la1,.i la2,.i er])) (JD3.memo (Jc JKz [.i u,.i w,.b tm,.v l,.v y,.i a0,.i a1,.b tr,.b op,.b cl,.b en,.b mo,.i la0,.i la1,.i la2,.i er]) [C,O]) JD3.n (SV.one (Cb (WE u w tm l y a0 a1 tr))) (JbT l y a0 a1 tr op cl en mo la0 la1 la2 er C O) :=
  Runs.of1 (ps := []) (by kernel_rfl) (by simp)
def JMO:List Gm → Qr → Option CRes
  | [.i u,.i w,.b tm,.v l,.v y,.i a0,.i a1,.b tr,.b op,.b cl,.b en,.b mo,.i la0,.i la1,.i la2,.i er],[C,O] => some ⟨SV.one (Cb (WE u w tm l y a0 a1 tr)),
 JbT l y a0 a1 tr op cl en mo la0 la1 la2 er C O,[],[],2498⟩
  | _,_ => none
theorem Jpg:Qk Tryz.prog 104 (Z9 JKz JD3 JMO) := by
  refine Qd (JD JZx 104) fun ps ls r hr hn _ => ?_
  unfold JMO at hr
  split at hr
  · cases hr; exact ⟨_,JiA _ _ _ _ _ _ _ _ _ _ _ _ _ _ _ _ _ _,fun _ => rfl⟩
  · cases hr
def JYb:List (Nat × JW) := (104,Z9 JKz JD3 JMO) :: Jki
theorem JP3:Known Tryz.prog (JB JYb) kE := J7 JZx Jpg
def JG1:Tpl := ⟨[.one (.ptr 0 0),.agg [.int .i64,.int .i64],.one (.bool)],Y3,62⟩
def JOi:List GK := [.i,.i,.b,.v Jy,.v Jy,.i,.i,.b,.b,.b,.b,.b,.i,.i,.i,.i]
section
variable (u w:Int) (tm:Bool) (l y:List GC) (a0 a1:Int) (tr:Bool) (O:LL)
def z7:Int:= J8 (IntKind.i64.wrap (u - a0)) (IntKind.i64.wrap (w - a1)) (IntKind.i64.wrap (J3 (xi l 8) (xi y 5) (xi y 6) (xi y 7) - J3 (xi l 8) (xi y 2) (xi y 3) (xi y 4))) (IntKind.i64.wrap (J4 (xi l 8) (xi y 5) (xi y 6) (xi y 7) - J4 (xi l 8) (xi y 2) (xi y 3) (xi y 4)))
def Q8:Int:= bif xi y 0 == 2 then bif (tm || tr) && decide (z7 u w l y a0 a1 ≤ 0) then 16 else 0 else bif (tm || tr) && !xb y 13 && !WE u w tm (J2 l) (J2 y) a0 a1 tr then 16 else bif XW (xi y 0) (JP (xi l 8) a0 a1 (J9 (xi l 8) (xi y 2) (xi y 3) (xi y 4))) (JQ (xi l 8) a0 a1 (J9 (xi l 8) (xi y 2) (xi y 3) (xi y 4))) (JR (xi l 8) a0 a1 (J9 (xi l 8) (xi y 2) (xi y 3) (xi y 4))) (JP (xi l 8) u w (J9 (xi l 8) (xi y 5) (xi y 6) (xi y 7))) (JQ (xi l 8) u w (J9 (xi l 8) (xi y 5) (xi y 6) (xi y 7))) (JR (xi l 8) u w (J9 (xi l 8) (xi y 5) (xi y 6) (xi y 7))) (bif xi y 0 != 3 then 0 else xi y 8) (xi y 9) (xi y 10) (xi y 11) (xi y 12) (xb y 13 && !tm && !tr) != 0 then 16 else 0
def KV:Int:= bif xi y 0 == 2 then bif (tm || tr) && decide (z7 u w l y a0 a1 ≤ 0) then a0 else u else bif (tm || tr) && !xb y 13 && !WE u w tm (J2 l) (J2 y) a0 a1 tr then a0 else bif XW (xi y 0) (JP (xi l 8) a0 a1 (J9 (xi l 8) (xi y 2) (xi y 3) (xi y 4))) (JQ (xi l 8) a0 a1 (J9 (xi l 8) (xi y 2) (xi y 3) (xi y 4))) (JR (xi l 8) a0 a1 (J9 (xi l 8) (xi y 2) (xi y 3) (xi y 4))) (JP (xi l 8) u w (J9 (xi l 8) (xi y 5) (xi y 6) (xi y 7))) (JQ (xi l 8) u w (J9 (xi l 8) (xi y 5) (xi y 6) (xi y 7))) (JR (xi l 8) u w (J9 (xi l 8) (xi y 5) (xi y 6) (xi y 7))) (bif xi y 0 != 3 then 0 else xi y 8) (xi y 9) (xi y 10) (xi y 11) (xi y 12) (xb y 13 && !tm && !tr) != 0 then a0 else u
def KW:Int:= bif xi y 0 == 2 then bif (tm || tr) && decide (z7 u w l y a0 a1 ≤ 0) then a1 else w else bif (tm || tr) && !xb y 13 && !WE u w tm (J2 l) (J2 y) a0 a1 tr then a1 else bif XW (xi y 0) (JP (xi l 8) a0 a1 (J9 (xi l 8) (xi y 2) (xi y 3) (xi y 4))) (JQ (xi l 8) a0 a1 (J9 (xi l 8) (xi y 2) (xi y 3) (xi y 4))) (JR (xi l 8) a0 a1 (J9 (xi l 8) (xi y 2) (xi y 3) (xi y 4))) (JP (xi l 8) u w (J9 (xi l 8) (xi y 5) (xi y 6) (xi y 7))) (JQ (xi l 8) u w (J9 (xi l 8) (xi y 5) (xi y 6) (xi y 7))) (JR (xi l 8) u w (J9 (xi l 8) (xi y 5) (xi y 6) (xi y 7))) (bif xi y 0 != 3 then 0 else xi y 8) (xi y 9) (xi y 10) (xi y 11) (xi y 12) (xb y 13 && !tm && !tr) != 0 then a1 else w
def JWD:Int:= bif xi y 0 != 3 then 0 else xi y 8
def Zt:LL:= bif xi y 0 == 2 then bif (tm || tr) && decide (z7 u w l y a0 a1 ≤ 0) then O else Zu (J2 y) u w (J9 (xi l 8) (xi y 2) (xi y 3) (xi y 4)) (J9 (xi l 8) (xi y 5) (xi y 6) (xi y 7)) false (J2 l) a0 a1 O else bif (tm || tr) && !xb y 13 && !WE u w tm (J2 l) (J2 y) a0 a1 tr then O else bif XW (xi y 0) (JP (xi l 8) a0 a1 (J9 (xi l 8) (xi y 2) (xi y 3) (xi y 4))) (JQ (xi l 8) a0 a1 (J9 (xi l 8) (xi y 2) (xi y 3) (xi y 4))) (JR (xi l 8) a0 a1 (J9 (xi l 8) (xi y 2) (xi y 3) (xi y 4))) (JP (xi l 8) u w (J9 (xi l 8) (xi y 5) (xi y 6) (xi y 7))) (JQ (xi l 8) u w (J9 (xi l 8) (xi y 5) (xi y 6) (xi y 7))) (JR (xi l 8) u w (J9 (xi l 8) (xi y 5) (xi y 6) (xi y 7))) (JWD y) (xi y 9) (xi y 10) (xi y 11) (xi y 12) (xb y 13 && !tm && !tr) != 0 then O else O ++ [[xi y 0,xi y 1,JP (xi l 8) a0 a1 (J9 (xi l 8) (xi y 2) (xi y 3) (xi y 4)),JQ (xi l 8) a0 a1 (J9 (xi l 8) (xi y 2) (xi y 3) (xi y 4)),JR (xi l 8) a0 a1 (J9 (xi l 8) (xi y 2) (xi y 3) (xi y 4)),JP (xi l 8) u w (J9 (xi l 8) (xi y 5) (xi y 6) (xi y 7)),JQ (xi l 8) u w (J9 (xi l 8) (xi y 5) (xi y 6) (xi y 7)),JR (xi l 8) u w (J9 (xi l 8) (xi y 5) (xi y 6) (xi y 7)),JWD y,xi y 9,xi y 10,xi y 11,xi y 12,bif xb y 13 && !tm && !tr then 1 else 0,xi y 14,bif xb y 15 then 1 else 0,0,0,xi y 18,xi y 19,xi y 20,bif xb y 21 then 1 else 0]]
def JDm:List Prop:= [(xi y 0 == 2) = true → ((tm || tr) && decide (z7 u w l y a0 a1 ≤ 0)) = false → O.length ≤ 1000000,(xi y 0 == 2) = false → ((tm || tr) && !xb y 13 && !WE u w tm (J2 l) (J2 y) a0 a1 tr) = false → (XW (xi y 0) (JP (xi l 8) a0 a1 (J9 (xi l 8) (xi y 2) (xi y 3) (xi y 4))) (JQ (xi l 8) a0 a1 (J9 (xi l 8) (xi y 2) (xi y 3) (xi y 4))) (JR (xi l 8) a0 a1 (J9 (xi l 8) (xi y 2) (xi y 3) (xi y 4))) (JP (xi l 8) u w (J9 (xi l 8) (xi y 5) (xi y 6) (xi y 7))) (JQ (xi l 8) u w (J9 (xi l 8) (xi y 5) (xi y 6) (xi y 7))) (JR (xi l 8) u w (J9 (xi l 8) (xi y 5) (xi y 6) (xi y 7))) (bif xi y 0 != 3 then 0 else xi y 8) (xi y 9) (xi y 10) (xi y 11) (xi y 12) (xb y 13 && !tm && !tr) != 0) = false → (O.length + 1) * 176 ≤ 140737488355328 ∧ O.length + 1 ≤ 9223372036854775807]
end
theorem Jja {u:Int} {w:Int} {tm:Bool} {l:List GC} {y:List GC} {a0:Int} {a1:Int} {tr:Bool} {O:LL} (hW:∀ q ∈ ([O.length ≤ 1000000]:List Prop),q):∀ q ∈ (JDm u w tm l y a0 a1 tr O),q := by
  simp only [awc,awn,and_true] at hW
  unfold JDm
  simp only [awc,awn,and_true]
  exact ⟨fun _ _ => hW,fun _ _ _ => ⟨by omega,by omega⟩⟩
def JiP (u w:Int) (tm:Bool) (l y:List GC) (a0 a1:Int) (tr op cl en mo:Bool) (la0 la1 la2 er:Int) (C O:LL):Jo := [(0,Obj.blk 66 [(3,Ci (xi l 0)),(4,Ci (xi l 1)),(5,Ci (xi l 2)),(6,Ci (xi l 3)),(7,Ci (xi l 4)),(8,Ci (xi l 5)),(9,Ci (xi l 6)),(10,Ci (xi l 7)),(11,Ci (xi l 8)),(12,Ci (xi l 9)),(13,Ci (xi l 10)),(14,Ci (xi l 11)),(15,Ci (xi l 12)),(16,Cb (xb l 13)),(17,Ci (xi l 14)),(18,Cb (xb l 15)),(19,Ci (xi l 16)),(20,Ci (xi l 17)),(21,Ci (xi l 18)),(22,Ci (xi l 19)),(23,Ci (xi l 20)),(24,Cb (xb l 21)),(25,Ci (xi y 0)),(26,Ci (xi y 1)),(27,Ci (xi y 2)),(28,Ci (xi y 3)),(29,Ci (xi y 4)),(30,Ci (xi y 5)),(31,Ci (xi y 6)),(32,Ci (xi y 7)),(33,Ci (xi y 8)),(34,Ci (xi y 9)),(35,Ci (xi y 10)),(36,Ci (xi y 11)),(37,Ci (xi y 12)),(38,Cb (xb y 13)),(39,Ci (xi y 14)),(40,Cb (xb y 15)),(41,Ci (xi y 16)),(42,Ci (xi y 17)),(43,Ci (xi y 18)),(44,Ci (xi y 19)),(45,Ci (xi y 20)),(46,Cb (xb y 21)),(5758,Ci (KV u w tm l y a0 a1 tr)),(5759,Ci (KW u w tm l y a0 a1 tr)),(49,Cb tr),(50,SC.wh 1),(51,Cb op),(52,Cb cl),(53,Cb en),(54,Cb mo),(55,Ci la0),(56,Ci la1),(57,Ci la2),(5734,SC.wh 5732),(59,Ci er)]),(5732,Obj.row false 40 22 (RowC.lst 5757 jH (Zt u w tm l y a0 a1 tr O))),(1,Obj.row false 40 22 (RowC.lst 60 jH C))]
theorem Jkp (u w:Int) (tm:Bool) (l y:List GC) (a0 a1:Int) (tr op cl en mo:Bool) (la0 la1 la2 er:Int) (C O:LL) (hNeeds:∀ pN ∈ (JDm u w tm l y a0 a1 tr O),pN):Runs (Js (JB JYb) kE 69) (JG1.args (Jc JOi [.i u,.i w,.b tm,.v l,.v y,.i a0,.i a1,.b tr,.b op,.b cl,.b en,.b mo,.i la0,.i la1,.i la2,.i er])) (JG1.memo (Jc JOi [.i u,.i w,.b tm,.v l,.v y,.i a0,.i a1,.b tr,.b op,.b cl,.b en,.b mo,.i la0,.i la1,.i la2,.i er]) [C,O]) JG1.n (SV.one (Ci (Q8 u w tm l y a0 a1 tr))) (JiP u w tm l y a0 a1 tr op cl en mo la0 la1 la2 er C O) :=
  Runs.of1 (ps := (JDm u w tm l y a0 a1 tr O)) (by kernel_rfl) hNeeds
def JQI:List Gm → Qr → Option CRes
  | [.i u,.i w,.b tm,.v l,.v y,.i a0,.i a1,.b tr,.b op,.b cl,.b en,.b mo,.i la0,.i la1,.i la2,.i er],[C,O] => some ⟨SV.one (Ci (Q8 u w tm l y a0 a1 tr)),
 JiP u w tm l y a0 a1 tr op cl en mo la0 la1 la2 er C O,[O.length ≤ 1000000],[],5760⟩
  | _,_ => none
theorem Jqs:Qk Tryz.prog 69 (Z9 JOi JG1 JQI) := by
  refine Qd (JD JP3 69) fun ps ls r hr hn _ => ?_
  unfold JQI at hr
  split at hr
  · cases hr; exact ⟨_,Jkp _ _ _ _ _ _ _ _ _ _ _ _ _ _ _ _ _ _ (Jja (by exact hn)),fun _ => rfl⟩
  · cases hr
def JUo:List (Nat × JW) := (69,Z9 JOi JG1 JQI) :: JYb
theorem JSp:Known Tryz.prog (JB JUo) kE := J7 JP3 Jqs
def JG4 (O A:LL):Prop := O.length ≤ A.length ∧ A.length ≤ O.length + 1
theorem JG4.self (O:LL):JG4 O O := ⟨Nat.le_refl _,Nat.le_succ _⟩
theorem JG4.one (O:LL) (r:List Int):JG4 O (O ++ [r]) := by
  unfold JG4; simp only [List.length_append,List.length_cons,List.length_nil]; omega
theorem JG4.ite {c:Bool} {O A B:LL} (h:JG4 O A) (k:JG4 O B):JG4 O (bif c then A else B) := by cases c <;> assumption
theorem Yw (u w:Int) (tm:Bool) (l y:List GC) (a0 a1:Int) (tr:Bool) (O:LL):JG4 O (Zt u w tm l y a0 a1 tr O) := by
  unfold Zt
  exact .ite (.ite (.self O) (Wg ..)) (.ite (.self O) (.ite (.self O) (.one O _)))
def kN:Tpl := ⟨[.one (.ptr 0 0),.agg pI,.agg [.int .i64,.int .i64],.one (.bool)],Y3,62⟩
def JKk:List GK := [.v Jy,.i,.i,.b,.v Jy,.v Jy,.i,.i,.b,.b,.b,.b,.b,.i,.i,.i,.i]
section
variable (x:List GC) (w u:Int) (l:List GC) (a1 a0:Int)
def K3:Int:= IntKind.i64.wrap (a0 - J3 (xi l 8) (xi x 2) (xi x 3) (xi x 4))
def Xz:Int:= IntKind.i64.wrap (a1 - J4 (xi l 8) (xi x 2) (xi x 3) (xi x 4))
def Xy:Int:= IntKind.i64.wrap (u - J3 (xi l 8) (xi x 2) (xi x 3) (xi x 4))
def Xx:Int:= IntKind.i64.wrap (w - J4 (xi l 8) (xi x 2) (xi x 3) (xi x 4))
end
section
variable (x:List GC) (u w:Int) (ou:Bool) (l:List GC) (a0 a1:Int) (O:LL)
def Ws:Int:= IntKind.i64.wrap (JE (K3 x l a0) (Xz x l a1) (Xy x u l) (Xx x w l) * IntKind.i64.wrap (0 - xi l 16))
def JnI:Int:= bif ou && (decide (Ws x u w l a0 a1 > 0) || Ws x u w l a0 a1 == 0 && decide (J8 (K3 x l a0) (Xz x l a1) (Xy x u l) (Xx x w l) < 0)) && decide (J8 (K3 x l a0) (Xz x l a1) (K3 x l a0) (Xz x l a1) ≥ 64) && decide (J8 (Xy x u l) (Xx x w l) (Xy x u l) (Xx x w l) ≥ 64) then u else u
def Jna:Int:= bif ou && (decide (Ws x u w l a0 a1 > 0) || Ws x u w l a0 a1 == 0 && decide (J8 (K3 x l a0) (Xz x l a1) (Xy x u l) (Xx x w l) < 0)) && decide (J8 (K3 x l a0) (Xz x l a1) (K3 x l a0) (Xz x l a1) ≥ 64) && decide (J8 (Xy x u l) (Xx x w l) (Xy x u l) (Xx x w l) ≥ 64) then w else w
def Wl:LL:= bif ou && (decide (Ws x u w l a0 a1 > 0) || Ws x u w l a0 a1 == 0 && decide (J8 (K3 x l a0) (Xz x l a1) (Xy x u l) (Xx x w l) < 0)) && decide (J8 (K3 x l a0) (Xz x l a1) (K3 x l a0) (Xz x l a1) ≥ 64) && decide (J8 (Xy x u l) (Xx x w l) (Xy x u l) (Xx x w l) ≥ 64) then O ++ [[3,xi x 1,JP (xi l 8) a0 a1 (J9 (xi l 8) (xi x 2) (xi x 3) (xi x 4)),JQ (xi l 8) a0 a1 (J9 (xi l 8) (xi x 2) (xi x 3) (xi x 4)),JR (xi l 8) a0 a1 (J9 (xi l 8) (xi x 2) (xi x 3) (xi x 4)),JP (xi l 8) u w (J9 (xi l 8) (xi x 2) (xi x 3) (xi x 4)),JQ (xi l 8) u w (J9 (xi l 8) (xi x 2) (xi x 3) (xi x 4)),JR (xi l 8) u w (J9 (xi l 8) (xi x 2) (xi x 3) (xi x 4)),xi l 8,JP (xi l 8) (J3 (xi l 8) (xi x 2) (xi x 3) (xi x 4)) (J4 (xi l 8) (xi x 2) (xi x 3) (xi x 4)) (J9 (xi l 8) (xi x 2) (xi x 3) (xi x 4)),JQ (xi l 8) (J3 (xi l 8) (xi x 2) (xi x 3) (xi x 4)) (J4 (xi l 8) (xi x 2) (xi x 3) (xi x 4)) (J9 (xi l 8) (xi x 2) (xi x 3) (xi x 4)),JR (xi l 8) (J3 (xi l 8) (xi x 2) (xi x 3) (xi x 4)) (J4 (xi l 8) (xi x 2) (xi x 3) (xi x 4)) (J9 (xi l 8) (xi x 2) (xi x 3) (xi x 4)),IntKind.i64.wrap (0 - xi l 16),0,xi x 14,bif xb x 15 then 1 else 0,0,0,0,0,0,0]] else Zu [GC.i 2,GC.i (xi x 1),GC.i 0,GC.i 0,GC.i 0,GC.i 0,GC.i 0,GC.i 0,GC.i 0,GC.i 0,GC.i 0,GC.i 0,GC.i 0,GC.b false,GC.i (xi x 14),GC.b (xb x 15),GC.i 0,GC.i 0,GC.i 0,GC.i 0,GC.i 0,GC.b false] u w (J9 (xi l 8) (xi x 2) (xi x 3) (xi x 4)) (J9 (xi l 8) (xi x 2) (xi x 3) (xi x 4)) false (J2 l) a0 a1 O
def JDF:List Prop:= [(ou && (decide (Ws x u w l a0 a1 > 0) || Ws x u w l a0 a1 == 0 && decide (J8 (K3 x l a0) (Xz x l a1) (Xy x u l) (Xx x w l) < 0)) && decide (J8 (K3 x l a0) (Xz x l a1) (K3 x l a0) (Xz x l a1) ≥ 64) && decide (J8 (Xy x u l) (Xx x w l) (Xy x u l) (Xx x w l) ≥ 64)) = true → (O.length + 1) * 176 ≤ 140737488355328 ∧ O.length + 1 ≤ 9223372036854775807,(ou && (decide (Ws x u w l a0 a1 > 0) || Ws x u w l a0 a1 == 0 && decide (J8 (K3 x l a0) (Xz x l a1) (Xy x u l) (Xx x w l) < 0)) && decide (J8 (K3 x l a0) (Xz x l a1) (K3 x l a0) (Xz x l a1) ≥ 64) && decide (J8 (Xy x u l) (Xx x w l) (Xy x u l) (Xx x w l) ≥ 64)) = false → O.length ≤ 1000000]
end
theorem JoE {x:List GC} {u:Int} {w:Int} {ou:Bool} {l:List GC} {a0:Int} {a1:Int} {O:LL} (hW:∀ q ∈ ([O.length ≤ 1000000]:List Prop),q):∀ q ∈ (JDF x u w ou l a0 a1 O),q := by
  simp only [awc,awn,and_true] at hW
  unfold JDF
  simp only [awc,awn,and_true]
  exact ⟨fun _ => ⟨by omega,by omega⟩,fun _ => hW⟩
def Jmp (x:List GC) (u w:Int) (ou:Bool) (l y:List GC) (a0 a1:Int) (tr op cl en mo:Bool) (la0 la1 la2 er:Int) (C O:LL):Jo := [(0,Obj.blk 66 [(3,Ci (xi l 0)),(4,Ci (xi l 1)),(5,Ci (xi l 2)),(6,Ci (xi l 3)),(7,Ci (xi l 4)),(8,Ci (xi l 5)),(9,Ci (xi l 6)),(10,Ci (xi l 7)),(11,Ci (xi l 8)),(12,Ci (xi l 9)),(13,Ci (xi l 10)),(14,Ci (xi l 11)),(15,Ci (xi l 12)),(16,Cb (xb l 13)),(17,Ci (xi l 14)),(18,Cb (xb l 15)),(19,Ci (xi l 16)),(20,Ci (xi l 17)),(21,Ci (xi l 18)),(22,Ci (xi l 19)),(23,Ci (xi l 20)),(24,Cb (xb l 21)),(25,Ci (xi y 0)),(26,Ci (xi y 1)),(27,Ci (xi y 2)),(28,Ci (xi y 3)),(29,Ci (xi y 4)),(30,Ci (xi y 5)),(31,Ci (xi y 6)),(32,Ci (xi y 7)),(33,Ci (xi y 8)),(34,Ci (xi y 9)),(35,Ci (xi y 10)),(36,Ci (xi y 11)),(37,Ci (xi y 12)),(38,Cb (xb y 13)),(39,Ci (xi y 14)),(40,Cb (xb y 15)),(41,Ci (xi y 16)),(42,Ci (xi y 17)),(43,Ci (xi y 18)),(44,Ci (xi y 19)),(45,Ci (xi y 20)),(46,Cb (xb y 21)),(1678,Ci (JnI x u w ou l a0 a1)),(1679,Ci (Jna x u w ou l a0 a1)),(49,Cb tr),(50,SC.wh 1),(51,Cb op),(52,Cb cl),(53,Cb en),(54,Cb mo),(55,Ci la0),(56,Ci la1),(57,Ci la2),(1664,SC.wh 1662),(59,Ci er)]),(1662,Obj.row false 40 22 (RowC.lst 1677 jH (Wl x u w ou l a0 a1 O))),(1,Obj.row false 40 22 (RowC.lst 60 jH C))]
theorem JoF (x:List GC) (u w:Int) (ou:Bool) (l y:List GC) (a0 a1:Int) (tr op cl en mo:Bool) (la0 la1 la2 er:Int) (C O:LL) (hNeeds:∀ pN ∈ (JDF x u w ou l a0 a1 O),pN):Runs (Js (JB JUo) kE 109) (kN.args (Jc JKk [.v x,.i u,.i w,.b ou,.v l,.v y,.i a0,.i a1,.b tr,.b op,.b cl,.b en,.b mo,.i la0,.i la1,.i la2,.i er])) (kN.memo (Jc JKk [.v x,.i u,.i w,.b ou,.v l,.v y,.i a0,.i a1,.b tr,.b op,.b cl,.b en,.b mo,.i la0,.i la1,.i la2,.i er]) [C,O]) kN.n (SV.tup []) (Jmp x u w ou l y a0 a1 tr op cl en mo la0 la1 la2 er C O) :=
  Runs.of1 (ps := (JDF x u w ou l a0 a1 O)) (by kernel_rfl) hNeeds
def JWe:List Gm → Qr → Option CRes
  | [.v x,.i u,.i w,.b ou,.v l,.v y,.i a0,.i a1,.b tr,.b op,.b cl,.b en,.b mo,.i la0,.i la1,.i la2,.i er],[C,O] => some ⟨SV.tup [],[(0,Obj.blk 66 [(3,Ci (xi l 0)),(4,Ci (xi l 1)),(5,Ci (xi l 2)),(6,Ci (xi l 3)),(7,Ci (xi l 4)),(8,Ci (xi l 5)),(9,Ci (xi l 6)),(10,Ci (xi l 7)),(11,Ci (xi l 8)),(12,Ci (xi l 9)),(13,Ci (xi l 10)),(14,Ci (xi l 11)),(15,Ci (xi l 12)),(16,Cb (xb l 13)),(17,Ci (xi l 14)),(18,Cb (xb l 15)),(19,Ci (xi l 16)),(20,Ci (xi l 17)),(21,Ci (xi l 18)),(22,Ci (xi l 19)),(23,Ci (xi l 20)),(24,Cb (xb l 21)),(25,Ci (xi y 0)),(26,Ci (xi y 1)),(27,Ci (xi y 2)),(28,Ci (xi y 3)),(29,Ci (xi y 4)),(30,Ci (xi y 5)),(31,Ci (xi y 6)),(32,Ci (xi y 7)),(33,Ci (xi y 8)),(34,Ci (xi y 9)),(35,Ci (xi y 10)),(36,Ci (xi y 11)),(37,Ci (xi y 12)),(38,Cb (xb y 13)),(39,Ci (xi y 14)),(40,Cb (xb y 15)),(41,Ci (xi y 16)),(42,Ci (xi y 17)),(43,Ci (xi y 18)),(44,Ci (xi y 19)),(45,Ci (xi y 20)),(46,Cb (xb y 21)),(1678,Ci (u)),(1679,Ci (w)),(49,Cb tr),(50,SC.wh 1),(51,Cb op),(52,Cb cl),(53,Cb en),(54,Cb mo),(55,Ci la0),(56,Ci la1),(57,Ci la2),(1664,SC.wh 1662),(59,Ci er)]),(1662,Obj.row false 40 22 (RowC.lst 1677 jH (Wl x u w ou l a0 a1 O))),(1,Obj.row false 40 22 (RowC.lst 60 jH C))],[O.length ≤ 1000000],[],1680⟩
  | _,_ => none
theorem JgR (x:List GC) (u w:Int) (ou:Bool) (l y:List GC) (a0 a1:Int) (tr op cl en mo:Bool) (la0 la1 la2 er:Int) (C O:LL) (hNeeds:∀ pN ∈ (JDF x u w ou l a0 a1 O),pN):Runs (Js (JB JUo) kE 109) (kN.args (Jc JKk [.v x,.i u,.i w,.b ou,.v l,.v y,.i a0,.i a1,.b tr,.b op,.b cl,.b en,.b mo,.i la0,.i la1,.i la2,.i er])) (kN.memo (Jc JKk [.v x,.i u,.i w,.b ou,.v l,.v y,.i a0,.i a1,.b tr,.b op,.b cl,.b en,.b mo,.i la0,.i la1,.i la2,.i er]) [C,O]) kN.n (SV.tup [])
    ([(0,
     Obj.blk 66
     [(3,SC.int IntKind.i64 (SI.v (xi l 0))),(4,SC.int IntKind.i64 (SI.v (xi l 1))),(5,SC.int IntKind.i64 (SI.v (xi l 2))),(6,SC.int IntKind.i64 (SI.v (xi l 3))),
     (7,SC.int IntKind.i64 (SI.v (xi l 4))),(8,SC.int IntKind.i64 (SI.v (xi l 5))),(9,SC.int IntKind.i64 (SI.v (xi l 6))),(10,SC.int IntKind.i64 (SI.v (xi l 7))),
     (11,SC.int IntKind.i64 (SI.v (xi l 8))),(12,SC.int IntKind.i64 (SI.v (xi l 9))),(13,SC.int IntKind.i64 (SI.v (xi l 10))),(14,SC.int IntKind.i64 (SI.v (xi l 11))),
     (15,SC.int IntKind.i64 (SI.v (xi l 12))),(16,SC.bool (SB.v (xb l 13))),(17,SC.int IntKind.i64 (SI.v (xi l 14))),(18,SC.bool (SB.v (xb l 15))),(19,SC.int IntKind.i64 (SI.v (xi l 16))),
     (20,SC.int IntKind.i64 (SI.v (xi l 17))),(21,SC.int IntKind.i64 (SI.v (xi l 18))),(22,SC.int IntKind.i64 (SI.v (xi l 19))),(23,SC.int IntKind.i64 (SI.v (xi l 20))),
     (24,SC.bool (SB.v (xb l 21))),(25,SC.int IntKind.i64 (SI.v (xi y 0))),(26,SC.int IntKind.i64 (SI.v (xi y 1))),(27,SC.int IntKind.i64 (SI.v (xi y 2))),
     (28,SC.int IntKind.i64 (SI.v (xi y 3))),(29,SC.int IntKind.i64 (SI.v (xi y 4))),(30,SC.int IntKind.i64 (SI.v (xi y 5))),(31,SC.int IntKind.i64 (SI.v (xi y 6))),
     (32,SC.int IntKind.i64 (SI.v (xi y 7))),(33,SC.int IntKind.i64 (SI.v (xi y 8))),(34,SC.int IntKind.i64 (SI.v (xi y 9))),(35,SC.int IntKind.i64 (SI.v (xi y 10))),
     (36,SC.int IntKind.i64 (SI.v (xi y 11))),(37,SC.int IntKind.i64 (SI.v (xi y 12))),(38,SC.bool (SB.v (xb y 13))),(39,SC.int IntKind.i64 (SI.v (xi y 14))),(40,SC.bool (SB.v (xb y 15))),
     (41,SC.int IntKind.i64 (SI.v (xi y 16))),(42,SC.int IntKind.i64 (SI.v (xi y 17))),(43,SC.int IntKind.i64 (SI.v (xi y 18))),(44,SC.int IntKind.i64 (SI.v (xi y 19))),
     (45,SC.int IntKind.i64 (SI.v (xi y 20))),(46,SC.bool (SB.v (xb y 21))),(1678,SC.int IntKind.i64 (SI.v (u))),
     (1679,SC.int IntKind.i64 (SI.v (w))),(49,SC.bool (SB.v tr)),(50,SC.wh 1),(51,SC.bool (SB.v op)),(52,SC.bool (SB.v cl)),(53,SC.bool (SB.v en)),
     (54,SC.bool (SB.v mo)),(55,SC.int IntKind.i64 (SI.v la0)),(56,SC.int IntKind.i64 (SI.v la1)),(57,SC.int IntKind.i64 (SI.v la2)),(1664,SC.wh 1662),
     (59,SC.int IntKind.i64 (SI.v er))]),
    (1662,
     Obj.row false 40 22
     (RowC.lst 1677
     [CK.int IntKind.i64,CK.int IntKind.i64,CK.int IntKind.i64,CK.int IntKind.i64,CK.int IntKind.i64,CK.int IntKind.i64,CK.int IntKind.i64,CK.int IntKind.i64,CK.int IntKind.i64,
     CK.int IntKind.i64,CK.int IntKind.i64,CK.int IntKind.i64,CK.int IntKind.i64,CK.bool,CK.int IntKind.i64,CK.bool,CK.int IntKind.i64,CK.int IntKind.i64,CK.int IntKind.i64,
     CK.int IntKind.i64,CK.int IntKind.i64,CK.bool]
     (Wl x u w ou l a0 a1 O))),
    (1,
     Obj.row false 40 22
     (RowC.lst 60
     [CK.int IntKind.i64,CK.int IntKind.i64,CK.int IntKind.i64,CK.int IntKind.i64,CK.int IntKind.i64,CK.int IntKind.i64,CK.int IntKind.i64,CK.int IntKind.i64,CK.int IntKind.i64,
     CK.int IntKind.i64,CK.int IntKind.i64,CK.int IntKind.i64,CK.int IntKind.i64,CK.bool,CK.int IntKind.i64,CK.bool,CK.int IntKind.i64,CK.int IntKind.i64,CK.int IntKind.i64,
     CK.int IntKind.i64,CK.int IntKind.i64,CK.bool]
     C))]) :=
  (JoF x u w ou l y a0 a1 tr op cl en mo la0 la1 la2 er C O hNeeds).to (by first | rfl | (simp only [])) ((by simp only [Jmp,Ci,Cb,jH,JnI,Jna,Bool.cond_self]))
theorem JuM:Qk Tryz.prog 109 (Z9 JKk kN JWe) := by
  refine Qd (JD JSp 109) fun ps ls r hr hn _ => ?_
  unfold JWe at hr
  split at hr
  · cases hr; exact ⟨_,JgR _ _ _ _ _ _ _ _ _ _ _ _ _ _ _ _ _ _ _ (JoE (by exact hn)),fun _ => rfl⟩
  · cases hr
def JPz:List (Nat × JW) := (109,Z9 JKk kN JWe) :: JUo
theorem JWI:Known Tryz.prog (JB JPz) kE := J7 JSp JuM
theorem Jhg (x:List GC) (u w:Int) (ou:Bool) (l:List GC) (a0 a1:Int) (O:LL):JG4 O (Wl x u w ou l a0 a1 O) := by
  unfold Wl
  exact .ite (.one O _) (Wg ..)
def B (x:Bool):SC := .bool (.v x)
def CKi:List CK := [.int .i64,.int .i64,.int .i64,.int .i64,.int .i64,.int .i64,.int .i64,.int .i64,.int .i64,.int .i64,.int .i64,.int .i64,.int .i64,.bool,.int .i64,.bool,.int .i64,.int .i64,.int .i64,.int .i64,.int .i64,.bool]
def Ku (id tag:Nat) (xs:LL):Nat × SX.Obj := (id,.row false 40 22 (.lst tag CKi xs))
def Jj9 (g:Nat → Nat) (l y:List GC) (a0 a1:Int) (tr:Bool) (c:Nat) (op cl en mo:Bool) (la0 la1 la2:Int) (o:Nat) (er:Int):List (Nat × SC) := [(g 0,I (xi l 0)),(g 1,I (xi l 1)),(g 2,I (xi l 2)),(g 3,I (xi l 3)),(g 4,I (xi l 4)),(g 5,I (xi l 5)),(g 6,I (xi l 6)),(g 7,I (xi l 7)),(g 8,I (xi l 8)),(g 9,I (xi l 9)),(g 10,I (xi l 10)),(g 11,I (xi l 11)),(g 12,I (xi l 12)),(g 13,B (xb l 13)),(g 14,I (xi l 14)),(g 15,B (xb l 15)),(g 16,I (xi l 16)),(g 17,I (xi l 17)),(g 18,I (xi l 18)),(g 19,I (xi l 19)),(g 20,I (xi l 20)),(g 21,B (xb l 21)),(g 22,I (xi y 0)),(g 23,I (xi y 1)),(g 24,I (xi y 2)),(g 25,I (xi y 3)),(g 26,I (xi y 4)),(g 27,I (xi y 5)),(g 28,I (xi y 6)),(g 29,I (xi y 7)),(g 30,I (xi y 8)),(g 31,I (xi y 9)),(g 32,I (xi y 10)),(g 33,I (xi y 11)),(g 34,I (xi y 12)),(g 35,B (xb y 13)),(g 36,I (xi y 14)),(g 37,B (xb y 15)),(g 38,I (xi y 16)),(g 39,I (xi y 17)),(g 40,I (xi y 18)),(g 41,I (xi y 19)),(g 42,I (xi y 20)),(g 43,B (xb y 21)),(g 44,I a0),(g 45,I a1),(g 46,B tr),(g 47,.wh c),(g 48,B op),(g 49,B cl),(g 50,B en),(g 51,B mo),(g 52,I la0),(g 53,I la1),(g 54,I la2),(g 55,.wh o),(g 56,I er)]
def JcP:List Bool → List (Nat × SC) → Option (List GC × List (Nat × SC))
  | [],r => some ([],r)
  | false :: ks,(_,.int _ x) :: r => match JcP ks r with
    | some (l,q) => some (.i x.val :: l,q)
    | none => none
  | true :: ks,(_,.bool x) :: r => match JcP ks r with
    | some (l,q) => some (.b x.val :: l,q)
    | none => none
  | _,_ => none
section
variable (l:List GC) (a0 a1:Int) (O C:LL) (j:Nat) (r:List Int)
def JUL:LL:= bif J5 (r.getD 0 0) then Zu (Jj r) a0 a1 (J9 (xi l 8) (r.getD 2 0) (r.getD 3 0) (r.getD 4 0)) (J9 (xi l 8) (r.getD 5 0) (r.getD 6 0) (r.getD 7 0)) false (J2 l) a0 a1 O else O ++ [JmK r]
def JHU:LL:= (C.take j).foldl (JUL l a0 a1) O
def JaD:LL:= C.foldl (JUL l a0 a1) O
end
theorem Jnt (l:List GC) (a0 a1:Int) (O C:LL) (j:Nat) (h:j < C.length):JHU l a0 a1 O C (j + 1) = JUL l a0 a1 (JHU l a0 a1 O C j) (C.getD j []) := by
  have e:C.getD j [] = C[j] := by simp [List.getD,List.getElem?_eq_getElem h]
  unfold JHU
  rw [List.take_succ_eq_append_getElem h,List.foldl_append,e]
  rfl
theorem Jro (l:List GC) (a0 a1:Int) (O C:LL):JHU l a0 a1 O C C.length = JaD l a0 a1 O C := by
  unfold JHU; rw [List.take_length]; rfl
theorem JrV (l:List GC) (a0 a1:Int) (O:LL) (r:List Int):JG4 O (JUL l a0 a1 O r) := by
  unfold JUL
  exact .ite (Wg ..) (.one O _)
theorem JVt (l:List GC) (a0 a1:Int):∀ (C O:LL),O.length ≤ (JaD l a0 a1 O C).length ∧ (JaD l a0 a1 O C).length ≤ O.length + C.length
  | [],O => ⟨Nat.le_refl _,Nat.le_refl _⟩
  | r :: C,O => by
    have h := JrV l a0 a1 O r
    have k := JVt l a0 a1 C (JUL l a0 a1 O r)
    unfold JG4 at h
    have e:JaD l a0 a1 O (r :: C) = JaD l a0 a1 (JUL l a0 a1 O r) C := rfl
    rw [e,List.length_cons]; omega
theorem Jsw (l:List GC) (a0 a1:Int) (O C:LL) (j:Nat):(JHU l a0 a1 O C j).length ≤ O.length + C.length := by
  have h := JVt l a0 a1 (C.take j) O
  have k:(C.take j).length ≤ C.length := by rw [List.length_take]; omega
  have e:JHU l a0 a1 O C j = JaD l a0 a1 O (C.take j) := rfl
  rw [e]; omega
def Jxb (k:Nat):Nat := bif Nat.beq k 44 || Nat.beq k 45 || Nat.beq k 55 then 1000000000 + k else k + 3
def Jxc (k:Nat):Nat := bif Nat.beq k 44 || Nat.beq k 45 || Nat.beq k 55 then 69 + k else k + 3
def JEY (l y:List GC) (a0 a1:Int) (tr op cl en mo:Bool) (la0 la1 la2 er:Int) (C O:LL):Fam Nat Unit where
  k := 120
  E j := [(14,ent 1000000060 (.one (I (Int.ofNat j)))),(13,ent 1000000061 (.one (I (Int.ofNat C.length)))),(12,ent 1000000062 (.one (.wh 1))),(0,ent 0 (.one (.ptr 0 0)))]
  M j := [(0,.blk 66 (Jj9 Jxb l y a0 a1 tr 1 op cl en mo la0 la1 la2 71 er)),Ku 1 60 C,Ku 71 1000000070 (JHU l a0 a1 O C j)]
  out _ := .leaf (.exit 0) [(0,ent 0 (.one (.ptr 0 0)))] [(0,.blk 66 (Jj9 Jxc l y a0 a1 tr 1 op cl en mo la0 la1 la2 71 er)),Ku 1 60 C,Ku 71 130 (JaD l a0 a1 O C)]
  fin _ := ()
  next j _ := j + 1
  J j := j ≤ C.length ∧ C.length ≤ 1000 ∧ O.length ≤ 900000
  μ j := C.length - j
section
variable (l y:List GC) (a0 a1:Int) (tr op cl en mo:Bool) (la0 la1 la2 er:Int) (C O:LL) (j:Nat)
def JfU:Prop:= decide (Int.ofNat j < Int.ofNat C.length) = true
def Jkz:Prop:= (!J5 ((C.getD (Int.ofNat j).toNat []).getD 0 0)) = true
def JjR:Prop:= (!J5 ((C.getD (Int.ofNat j).toNat []).getD 0 0)) = false
def JrS:Prop:= C.length ≤ 1000 ∧ O.length ≤ 900000
def JRu:List Prop:= [JfU C j → 0 ≤ Int.ofNat j ∧ (Int.ofNat j).toNat < C.length ∧ (Int.ofNat j).toNat < C.length ∧ (Jkz C j → ((JHU l a0 a1 O C j).length + 1) * 176 ≤ 140737488355328 ∧ (JHU l a0 a1 O C j).length + 1 ≤ 9223372036854775807) ∧ (JjR C j → (JHU l a0 a1 O C j).length ≤ 1000000),JfU C j → (Jkz C j → ((JEY l y a0 a1 tr op cl en mo la0 la1 la2 er C O).next j 0 ≤ C.length ∧ JrS C O) ∧ (JEY l y a0 a1 tr op cl en mo la0 la1 la2 er C O).μ ((JEY l y a0 a1 tr op cl en mo la0 la1 la2 er C O).next j 0) < (JEY l y a0 a1 tr op cl en mo la0 la1 la2 er C O).μ j ∧ (JEY l y a0 a1 tr op cl en mo la0 la1 la2 er C O).fin ((JEY l y a0 a1 tr op cl en mo la0 la1 la2 er C O).next j 0) = (JEY l y a0 a1 tr op cl en mo la0 la1 la2 er C O).fin j ∧ Int.ofNat ((JEY l y a0 a1 tr op cl en mo la0 la1 la2 er C O).next j 0) = IntKind.i64.wrap (Int.ofNat j + 1) ∧ Int.ofNat C.length = Int.ofNat C.length ∧ a0 = a0 ∧ a1 = a1 ∧ JHU l a0 a1 O C ((JEY l y a0 a1 tr op cl en mo la0 la1 la2 er C O).next j 0) = JHU l a0 a1 O C j ++ [JmK (C.getD (Int.ofNat j).toNat [])]) ∧ (JjR C j → ((JEY l y a0 a1 tr op cl en mo la0 la1 la2 er C O).next j 1 ≤ C.length ∧ JrS C O) ∧ (JEY l y a0 a1 tr op cl en mo la0 la1 la2 er C O).μ ((JEY l y a0 a1 tr op cl en mo la0 la1 la2 er C O).next j 1) < (JEY l y a0 a1 tr op cl en mo la0 la1 la2 er C O).μ j ∧ (JEY l y a0 a1 tr op cl en mo la0 la1 la2 er C O).fin ((JEY l y a0 a1 tr op cl en mo la0 la1 la2 er C O).next j 1) = (JEY l y a0 a1 tr op cl en mo la0 la1 la2 er C O).fin j ∧ Int.ofNat ((JEY l y a0 a1 tr op cl en mo la0 la1 la2 er C O).next j 1) = IntKind.i64.wrap (Int.ofNat j + 1) ∧ Int.ofNat C.length = Int.ofNat C.length ∧ a0 = a0 ∧ a1 = a1 ∧ JHU l a0 a1 O C ((JEY l y a0 a1 tr op cl en mo la0 la1 la2 er C O).next j 1) = Zu (Jj (C.getD (Int.ofNat j).toNat [])) a0 a1 (J9 (xi l 8) ((C.getD (Int.ofNat j).toNat []).getD 2 0) ((C.getD (Int.ofNat j).toNat []).getD 3 0) ((C.getD (Int.ofNat j).toNat []).getD 4 0)) (J9 (xi l 8) ((C.getD (Int.ofNat j).toNat []).getD 5 0) ((C.getD (Int.ofNat j).toNat []).getD 6 0) ((C.getD (Int.ofNat j).toNat []).getD 7 0)) false (J2 l) a0 a1 (JHU l a0 a1 O C j)),decide (Int.ofNat j < Int.ofNat C.length) = false → a0 = a0 ∧ a1 = a1 ∧ JaD l a0 a1 O C = JHU l a0 a1 O C j]
end
theorem Jq3 (l y:List GC) (a0 a1:Int) (tr op cl en mo:Bool) (la0 la1 la2 er:Int) (C O:LL) (j:Nat) (hNeeds:∀ pN ∈ (JRu l y a0 a1 tr op cl en mo la0 la1 la2 er C O j),pN):Jz (XU (JEY l y a0 a1 tr op cl en mo la0 la1 la2 er C O) (QU Tryz.prog (JB JPz) kE 70 0) 69 j) :=
  Jz.of (ps := (JRu l y a0 a1 tr op cl en mo la0 la1 la2 er C O j)) (by kernel_rfl) (by kernel_rfl) hNeeds
theorem Jk1 (l y:List GC) (a0 a1:Int) (tr op cl en mo:Bool) (la0 la1 la2 er:Int) (C O:LL):Qv (JEY l y a0 a1 tr op cl en mo la0 la1 la2 er C O) (QU Tryz.prog (JB JPz) kE 70 0) 69 := by
  intro j hJ
  obtain ⟨h1,h2,h3⟩:j ≤ C.length ∧ C.length ≤ 1000 ∧ O.length ≤ 900000 := hJ
  refine Jq3 l y a0 a1 tr op cl en mo la0 la1 la2 er C O j ?_
  unfold JRu
  have hl := Jsw l a0 a1 O C j
  have lt:JfU C j → j < C.length := by unfold JfU; simp
  simp only [awc,awn,and_true]
  refine ⟨fun h => ⟨by simp,lt h,lt h,fun _ => ⟨by omega,by omega⟩,fun _ => by omega⟩,fun h => ?_,fun h => ?_⟩
  · have hj := lt h
    have hs := Jnt l a0 a1 O C j hj
    have e6:IntKind.i64.wrap (Int.ofNat j + 1) = Int.ofNat (j + 1) := X7 (by simp; omega) (by simp; omega)
    refine ⟨fun h1 => ⟨⟨hj,h2,h3⟩,by show C.length - (j + 1) < C.length - j; omega,trivial,e6.symm,trivial,trivial,trivial,?_⟩,fun h1 => ⟨⟨hj,h2,h3⟩,by show C.length - (j + 1) < C.length - j; omega,trivial,e6.symm,trivial,trivial,trivial,?_⟩⟩
    · show JHU l a0 a1 O C (j + 1) = _
      rw [hs]; unfold JUL
      unfold Jkz at h1
      rw [show J5 ((C.getD j []).getD 0 0) = false by simpa using h1]; rfl
    · show JHU l a0 a1 O C (j + 1) = _
      rw [hs]; unfold JUL
      unfold JjR at h1
      rw [show J5 ((C.getD j []).getD 0 0) = true by simpa using h1]; rfl
  · have:j = C.length := by simp at h; omega
    rw [this]; exact ⟨trivial,trivial,(Jro ..).symm⟩
def Jvv:QH := fun env mem m => match SX.JC mem 0,SX.JC mem 1,SX.JC mem 2 with
  | some (.blk _ cs),some (.row _ _ _ (.lst _ _ C)),some (.row _ _ _ (.lst _ _ O)) => (match JcP Jy cs with
    | some (l,r) => (match JcP Jy r with
      | some (y,[(_,.int _ a0),(_,.int _ a1),(_,.bool tr),_,(_,.bool op),(_,.bool cl),(_,.bool en),(_,.bool mo),(_,.int _ la0),(_,.int _ la1),(_,.int _ la2),_,(_,.int _ er)]) => jY (JEY l y a0.val a1.val tr.val op.val cl.val en.val mo.val la0.val la1.val la2.val er.val C O) 69 (fun _ _ => some 0) env mem m
      | _ => none)
    | none => none)
  | _,_,_ => none
def Zh:FuncId → Nat → Option QH := JBZ kE 70 1 Jvv
theorem JXi:Known Tryz.prog (JB JPz) Zh := by
  refine Qj 0 JWI (by kernel_rfl) (Qy fun env mem m x h => ?_)
  unfold Jvv at h
  have hlen:(QZ Tryz.prog 70).length = 1 := by kernel_rfl
  split at h
  · split at h
    · split at h
      · exact ⟨_,XF (Qa Zy JWI (by omega)) (Jk1 _ _ _ _ _ _ _ _ _ _ _ _ _ _ _),h⟩
      · cases h
    · cases h
  · cases h
def zx:Tpl := ⟨[.one (.ptr 0 0)],Y3,62⟩
def JGr:List GK := [.v Jy,.v Jy,.i,.i,.b,.b,.b,.b,.b,.i,.i,.i,.i]
def QY (l:List GC) (a0 a1:Int) (C O:LL):LL := JaD (J2 l) a0 a1 O C
def jr (l:List GC) (a0 a1:Int) (C O:LL):List Prop := [0 ≤ C.length ∧ C.length ≤ 1000 ∧ O.length ≤ 900000,Int.ofNat 0 = 0,Int.ofNat C.length = Int.ofNat C.length,a0 = a0,a1 = a1,JHU (J2 l) a0 a1 O C 0 = O]
theorem Jdq {l:List GC} {a0:Int} {a1:Int} {C:LL} {O:LL} (hW:∀ q ∈ ([C.length ≤ 1000,O.length ≤ 900000]:List Prop),q):∀ q ∈ (jr l a0 a1 C O),q := by
  simp only [awc,awn,and_true] at hW
  unfold jr
  simp only [awc,awn,and_true]
  exact ⟨⟨Nat.zero_le _,hW⟩,rfl,trivial,trivial,trivial,rfl⟩
def JX1 (l y:List GC) (a0 a1:Int) (tr op cl en mo:Bool) (la0 la1 la2 er:Int) (C O:LL):Jo := [(0,Obj.blk 66 [(3,Ci (xi l 0)),(4,Ci (xi l 1)),(5,Ci (xi l 2)),(6,Ci (xi l 3)),(7,Ci (xi l 4)),(8,Ci (xi l 5)),(9,Ci (xi l 6)),(10,Ci (xi l 7)),(11,Ci (xi l 8)),(12,Ci (xi l 9)),(13,Ci (xi l 10)),(14,Ci (xi l 11)),(15,Ci (xi l 12)),(16,Cb (xb l 13)),(17,Ci (xi l 14)),(18,Cb (xb l 15)),(19,Ci (xi l 16)),(20,Ci (xi l 17)),(21,Ci (xi l 18)),(22,Ci (xi l 19)),(23,Ci (xi l 20)),(24,Cb (xb l 21)),(25,Ci (xi y 0)),(26,Ci (xi y 1)),(27,Ci (xi y 2)),(28,Ci (xi y 3)),(29,Ci (xi y 4)),(30,Ci (xi y 5)),(31,Ci (xi y 6)),(32,Ci (xi y 7)),(33,Ci (xi y 8)),(34,Ci (xi y 9)),(35,Ci (xi y 10)),(36,Ci (xi y 11)),(37,Ci (xi y 12)),(38,Cb (xb y 13)),(39,Ci (xi y 14)),(40,Cb (xb y 15)),(41,Ci (xi y 16)),(42,Ci (xi y 17)),(43,Ci (xi y 18)),(44,Ci (xi y 19)),(45,Ci (xi y 20)),(46,Cb (xb y 21)),(113,Ci a0),(114,Ci a1),(49,Cb tr),(197,SC.wh 195),(51,Cb op),(52,Cb cl),(53,Cb en),(54,Cb mo),(55,Ci la0),(56,Ci la1),(57,Ci la2),(124,SC.wh 71),(59,Ci er)]),(195,Obj.row false 40 22 (RowC.lit 196 [])),(1,Obj.row false 40 22 (RowC.lst 60 jH C)),(71,Obj.row false 40 22 (RowC.lst 130 jH (QY l a0 a1 C O)))]
theorem JeJ (l y:List GC) (a0 a1:Int) (tr op cl en mo:Bool) (la0 la1 la2 er:Int) (C O:LL) (hNeeds:∀ pN ∈ (jr l a0 a1 C O),pN):Runs (Js (JB JPz) Zh 70) (zx.args (Jc JGr [.v l,.v y,.i a0,.i a1,.b tr,.b op,.b cl,.b en,.b mo,.i la0,.i la1,.i la2,.i er])) (zx.memo (Jc JGr [.v l,.v y,.i a0,.i a1,.b tr,.b op,.b cl,.b en,.b mo,.i la0,.i la1,.i la2,.i er]) [C,O]) zx.n (SV.tup []) (JX1 l y a0 a1 tr op cl en mo la0 la1 la2 er C O) :=
  Runs.of1 (ps := (jr l a0 a1 C O)) (by kernel_rfl) hNeeds
def JJy:List Gm → Qr → Option CRes
  | [.v l,.v y,.i a0,.i a1,.b tr,.b op,.b cl,.b en,.b mo,.i la0,.i la1,.i la2,.i er],[C,O] => some ⟨SV.tup [],
 JX1 l y a0 a1 tr op cl en mo la0 la1 la2 er C O,[C.length ≤ 1000,O.length ≤ 900000],[],198⟩
  | _,_ => none
theorem Jid:Qk Tryz.prog 70 (Z9 JGr zx JJy) := by
  refine Qd (JD JXi 70) fun ps ls r hr hn _ => ?_
  unfold JJy at hr
  split at hr
  · cases hr; exact ⟨_,JeJ _ _ _ _ _ _ _ _ _ _ _ _ _ _ _ (Jdq (by exact hn)),fun _ => rfl⟩
  · cases hr
def JPd:List (Nat × JW) := (70,Z9 JGr zx JJy) :: JPz
theorem JLg:Known Tryz.prog (JB JPd) Zh := J7 JXi Jid
theorem zC (l:List GC) (a0 a1:Int) (C O:LL):(QY l a0 a1 C O).length ≤ O.length + C.length := (JVt l a0 a1 C O).2
theorem Wz {c:Bool} {a b:LL} {k:Nat} (h:a.length ≤ k) (h':b.length ≤ k):(bif c then a else b).length ≤ k := by cases c <;> assumption
def JF5:Tpl := ⟨[.one (.ptr 0 0),.agg pI],Y3,62⟩
def JOG:List GK := [.v Jy,.v Jy,.v Jy,.i,.i,.b,.b,.b,.b,.b,.i,.i,.i,.i]
section
variable (x:List GC) (C:LL) (op tr:Bool) (a0:Int) (y l:List GC)
def JNq:Int:= bif !JX (J2 x) (xi x 8) (xi x 17) then 14 else 0
def JdX:Int:= bif !JX (J2 x) (xi x 8) (xi x 17) then xi l 0 else xi x 0
def Jer:Int:= bif !JX (J2 x) (xi x 8) (xi x 17) then xi l 1 else xi x 1
def JeK:Int:= bif !JX (J2 x) (xi x 8) (xi x 17) then xi l 2 else xi x 2
def Jfn:Int:= bif !JX (J2 x) (xi x 8) (xi x 17) then xi l 3 else xi x 3
def Jfh:Int:= bif !JX (J2 x) (xi x 8) (xi x 17) then xi l 4 else xi x 4
def Jef:Int:= bif !JX (J2 x) (xi x 8) (xi x 17) then xi l 5 else xi x 5
def Jd7:Int:= bif !JX (J2 x) (xi x 8) (xi x 17) then xi l 6 else xi x 6
def Jev:Int:= bif !JX (J2 x) (xi x 8) (xi x 17) then xi l 7 else xi x 7
def JdD:Int:= bif !JX (J2 x) (xi x 8) (xi x 17) then xi l 8 else xi x 8
def JYX:Int:= bif !JX (J2 x) (xi x 8) (xi x 17) then xi l 9 else xi x 9
def JX9:Int:= bif !JX (J2 x) (xi x 8) (xi x 17) then xi l 10 else xi x 10
def JYp:Int:= bif !JX (J2 x) (xi x 8) (xi x 17) then xi l 11 else xi x 11
def JXq:Int:= bif !JX (J2 x) (xi x 8) (xi x 17) then xi l 12 else xi x 12
def JYs:Bool:= bif !JX (J2 x) (xi x 8) (xi x 17) then xb l 13 else xb x 13
def JaE:Int:= bif !JX (J2 x) (xi x 8) (xi x 17) then xi l 14 else xi x 14
def JX6:Bool:= bif !JX (J2 x) (xi x 8) (xi x 17) then xb l 15 else xb x 15
def JVm:Int:= bif !JX (J2 x) (xi x 8) (xi x 17) then xi l 16 else xi x 16
def JXD:Int:= bif !JX (J2 x) (xi x 8) (xi x 17) then xi l 17 else xi x 17
def JXs:Int:= bif !JX (J2 x) (xi x 8) (xi x 17) then xi l 18 else xi x 18
def JZc:Int:= bif !JX (J2 x) (xi x 8) (xi x 17) then xi l 19 else xi x 19
def JaB:Int:= bif !JX (J2 x) (xi x 8) (xi x 17) then xi l 20 else xi x 20
def JaY:Bool:= bif !JX (J2 x) (xi x 8) (xi x 17) then xb l 21 else xb x 21
def Jal:Int:= bif !JX (J2 x) (xi x 8) (xi x 17) then xi y 0 else 0
def JVk:Int:= bif !JX (J2 x) (xi x 8) (xi x 17) then xi y 1 else 0
def JW5:Int:= bif !JX (J2 x) (xi x 8) (xi x 17) then xi y 2 else 0
def JaX:Int:= bif !JX (J2 x) (xi x 8) (xi x 17) then xi y 3 else 0
def JVc:Int:= bif !JX (J2 x) (xi x 8) (xi x 17) then xi y 4 else 0
def JYv:Int:= bif !JX (J2 x) (xi x 8) (xi x 17) then xi y 5 else 0
def JVa:Int:= bif !JX (J2 x) (xi x 8) (xi x 17) then xi y 6 else 0
def JW6:Int:= bif !JX (J2 x) (xi x 8) (xi x 17) then xi y 7 else 0
def JZX:Int:= bif !JX (J2 x) (xi x 8) (xi x 17) then xi y 8 else 0
def JXx:Int:= bif !JX (J2 x) (xi x 8) (xi x 17) then xi y 9 else 0
def JWA:Int:= bif !JX (J2 x) (xi x 8) (xi x 17) then xi y 10 else 0
def JZK:Int:= bif !JX (J2 x) (xi x 8) (xi x 17) then xi y 11 else 0
def JVT:Int:= bif !JX (J2 x) (xi x 8) (xi x 17) then xi y 12 else 0
def JXO:Bool:= !JX (J2 x) (xi x 8) (xi x 17) && xb y 13
def JVy:Int:= bif !JX (J2 x) (xi x 8) (xi x 17) then xi y 14 else 0
def JXA:Bool:= !JX (J2 x) (xi x 8) (xi x 17) && xb y 15
def JVP:Int:= bif !JX (J2 x) (xi x 8) (xi x 17) then xi y 16 else 0
def JX3:Int:= bif !JX (J2 x) (xi x 8) (xi x 17) then xi y 17 else 0
def JWC:Int:= bif !JX (J2 x) (xi x 8) (xi x 17) then xi y 18 else 0
def JYV:Int:= bif !JX (J2 x) (xi x 8) (xi x 17) then xi y 19 else 0
def JXE:Int:= bif !JX (J2 x) (xi x 8) (xi x 17) then xi y 20 else 0
def JWF:Bool:= !JX (J2 x) (xi x 8) (xi x 17) && xb y 21
def JIP:Int:= bif !JX (J2 x) (xi x 8) (xi x 17) then a0 else 0
def JaW:Bool:= !JX (J2 x) (xi x 8) (xi x 17) && tr
def JY6:Bool:= bif !JX (J2 x) (xi x 8) (xi x 17) then op else true
def JJp:LL:= bif !JX (J2 x) (xi x 8) (xi x 17) then C else []
end
def JSv := jH
def Jrc (x l y:List GC) (a0 a1:Int) (tr op cl en mo:Bool) (la0 la1 la2 er:Int) (C O:LL) := [(0,Obj.blk 66 [(413,Ci (JdX x l)),(414,Ci (Jer x l)),(415,Ci (JeK x l)),(416,Ci (Jfn x l)),(417,Ci (Jfh x l)),(418,Ci (Jef x l)),(419,Ci (Jd7 x l)),(420,Ci (Jev x l)),(421,Ci (JdD x l)),(422,Ci (JYX x l)),(423,Ci (JX9 x l)),(424,Ci (JYp x l)),(425,Ci (JXq x l)),(426,Cb (JYs x l)),(427,Ci (JaE x l)),(428,Cb (JX6 x l)),(429,Ci (JVm x l)),(430,Ci (JXD x l)),(431,Ci (JXs x l)),(432,Ci (JZc x l)),(433,Ci (JaB x l)),(434,Cb (JaY x l)),(435,Ci (Jal x y)),(436,Ci (JVk x y)),(437,Ci (JW5 x y)),(438,Ci (JaX x y)),(439,Ci (JVc x y)),(440,Ci (JYv x y)),(441,Ci (JVa x y)),(442,Ci (JW6 x y)),(443,Ci (JZX x y)),(444,Ci (JXx x y)),(445,Ci (JWA x y)),(446,Ci (JZK x y)),(447,Ci (JVT x y)),(448,Cb (JXO x y)),(449,Ci (JVy x y)),(450,Cb (JXA x y)),(451,Ci (JVP x y)),(452,Ci (JX3 x y)),(453,Ci (JWC x y)),(454,Ci (JYV x y)),(455,Ci (JXE x y)),(456,Cb (JWF x y)),(457,Ci (JIP x a0)),(458,Ci (JIP x a1)),(459,Cb (JaW x tr)),(411,SC.wh 409),(460,Cb (JY6 x op)),(52,Cb cl),(53,Cb en),(54,Cb mo),(55,Ci la0),(56,Ci la1),(57,Ci la2),(58,SC.wh 2),(59,Ci er)]),(409,Obj.row false 40 22 (RowC.lst 412 JSv (JJp x C))),(2,Obj.row false 40 22 (RowC.lst 61 JSv O))]
theorem Jjd (x l y:List GC) (a0 a1:Int) (tr op cl en mo:Bool) (la0 la1 la2 er:Int) (C O:LL):Runs (Js (JB JPd) Zh 48) (JF5.args (Jc JOG [.v x,.v l,.v y,.i a0,.i a1,.b tr,.b op,.b cl,.b en,.b mo,.i la0,.i la1,.i la2,.i er])) (JF5.memo (Jc JOG [.v x,.v l,.v y,.i a0,.i a1,.b tr,.b op,.b cl,.b en,.b mo,.i la0,.i la1,.i la2,.i er]) [C,O]) JF5.n (SV.one (Ci (JNq x))) ((Jrc x l y a0 a1 tr op cl en mo la0 la1 la2 er C O)) :=
  Runs.of1 (ps := []) (by kernel_rfl) (by simp)
def JRw:List Gm → Qr → Option CRes
  | [.v x,.v l,.v y,.i a0,.i a1,.b tr,.b op,.b cl,.b en,.b mo,.i la0,.i la1,.i la2,.i er],[C,O] => some ⟨SV.one (Ci (JNq x)),
 (Jrc x l y a0 a1 tr op cl en mo la0 la1 la2 er C O),[],[],461⟩
  | _,_ => none
theorem JtD:Qk Tryz.prog 48 (Z9 JOG JF5 JRw) := by
  refine Qd (JD JLg 48) fun ps ls r hr hn _ => ?_
  unfold JRw at hr
  split at hr
  · cases hr; exact ⟨_,Jjd _ _ _ _ _ _ _ _ _ _ _ _ _ _ _ _,fun _ => rfl⟩
  · cases hr
def Jd9:List (Nat × JW) := (48,Z9 JOG JF5 JRw) :: JPd
theorem JTC:Known Tryz.prog (JB Jd9) Zh := J7 JLg JtD
def JGP:Tpl := ⟨[.one (.ptr 0 0),.agg pI],Y3,62⟩
def JNe:List GK := [.v Jy,.v Jy,.v Jy,.i,.i,.b,.b,.b,.b,.b,.i,.i,.i,.i]
section
variable (x l:List GC) (C O:LL) (a1 a0:Int) (y:List GC) (q0:Nat)
def JO2:Int:= Qo (J3 (xi l 8) (xi x 2) (xi x 3) (xi x 4)) (J4 (xi l 8) (xi x 2) (xi x 3) (xi x 4)) (J3 (xi l 8) (xi x 5) (xi x 6) (xi x 7)) (J4 (xi l 8) (xi x 5) (xi x 6) (xi x 7)) (bif xi x 0 == 3 then J3 (xi l 8) (xi x 9) (xi x 10) (xi x 11) else 0) (bif xi x 0 == 3 then J4 (xi l 8) (xi x 9) (xi x 10) (xi x 11) else 0) (bif xi x 0 == 3 then xi x 12 else 0) (IntKind.i64.wrap (xi l 16 * xi l 17))
def JOt:Int:= bif JO2 x l != 0 then JO2 x l else 0
def Zo:Int:= bif Qo (J3 (xi l 8) (xi x 2) (xi x 3) (xi x 4)) (J4 (xi l 8) (xi x 2) (xi x 3) (xi x 4)) (J3 (xi l 8) (xi x 5) (xi x 6) (xi x 7)) (J4 (xi l 8) (xi x 5) (xi x 6) (xi x 7)) (bif xi x 0 == 3 then J3 (xi l 8) (xi x 9) (xi x 10) (xi x 11) else 0) (bif xi x 0 == 3 then J4 (xi l 8) (xi x 9) (xi x 10) (xi x 11) else 0) (bif xi x 0 == 3 then xi x 12 else 0) (IntKind.i64.wrap (xi l 16 * xi l 17)) != 0 then xi y q0 else xi x q0
def JVJ:Int:= Zo x l y 0
def JZ4:Int:= Zo x l y 1
def JXG:Int:= Zo x l y 2
def JYu:Int:= Zo x l y 3
def JVs:Int:= Zo x l y 4
def JXR:Int:= Zo x l y 5
def JW8:Int:= Zo x l y 6
def JZz:Int:= Zo x l y 7
def JaK:Int:= Zo x l y 8
def JWX:Int:= Zo x l y 9
def JYy:Int:= Zo x l y 10
def JZa:Int:= Zo x l y 11
def JZH:Int:= Zo x l y 12
def JNU:Bool:= bif Qo (J3 (xi l 8) (xi x 2) (xi x 3) (xi x 4)) (J4 (xi l 8) (xi x 2) (xi x 3) (xi x 4)) (J3 (xi l 8) (xi x 5) (xi x 6) (xi x 7)) (J4 (xi l 8) (xi x 5) (xi x 6) (xi x 7)) (bif xi x 0 == 3 then J3 (xi l 8) (xi x 9) (xi x 10) (xi x 11) else 0) (bif xi x 0 == 3 then J4 (xi l 8) (xi x 9) (xi x 10) (xi x 11) else 0) (bif xi x 0 == 3 then xi x 12 else 0) (IntKind.i64.wrap (xi l 16 * xi l 17)) != 0 then xb y q0 else xb x q0
def JY8:Bool:= JNU x l y 13
def Jag:Int:= Zo x l y 14
def Jaf:Bool:= JNU x l y 15
def JYM:Int:= Zo x l y 16
def Ja9:Int:= Zo x l y 17
def JZi:Int:= Zo x l y 18
def JVx:Int:= Zo x l y 19
def JZR:Int:= Zo x l y 20
def JZo:Bool:= JNU x l y 21
def YD:Int:= bif xi x 0 == 3 then J3 (xi l 8) (xi x 9) (xi x 10) (xi x 11) else 0
def YJ:Int:= bif xi x 0 == 3 then J4 (xi l 8) (xi x 9) (xi x 10) (xi x 11) else 0
def Y8:Int:= bif xi x 0 == 3 then xi x 12 else 0
def JYG:Int:= bif Qo (J3 (xi l 8) (xi x 2) (xi x 3) (xi x 4)) (J4 (xi l 8) (xi x 2) (xi x 3) (xi x 4)) (J3 (xi l 8) (xi x 5) (xi x 6) (xi x 7)) (J4 (xi l 8) (xi x 5) (xi x 6) (xi x 7)) (YD x l) (YJ x l) (Y8 x) (IntKind.i64.wrap (xi l 16 * xi l 17)) != 0 then a0 else XN (J3 (xi l 8) (xi x 2) (xi x 3) (xi x 4)) (J4 (xi l 8) (xi x 2) (xi x 3) (xi x 4)) (J3 (xi l 8) (xi x 5) (xi x 6) (xi x 7)) (J4 (xi l 8) (xi x 5) (xi x 6) (xi x 7)) (YD x l) (YJ x l) (Y8 x) (IntKind.i64.wrap (xi l 16 * xi l 17))
def JYt:Int:= bif Qo (J3 (xi l 8) (xi x 2) (xi x 3) (xi x 4)) (J4 (xi l 8) (xi x 2) (xi x 3) (xi x 4)) (J3 (xi l 8) (xi x 5) (xi x 6) (xi x 7)) (J4 (xi l 8) (xi x 5) (xi x 6) (xi x 7)) (YD x l) (YJ x l) (Y8 x) (IntKind.i64.wrap (xi l 16 * xi l 17)) != 0 then a1 else XP (J3 (xi l 8) (xi x 2) (xi x 3) (xi x 4)) (J4 (xi l 8) (xi x 2) (xi x 3) (xi x 4)) (J3 (xi l 8) (xi x 5) (xi x 6) (xi x 7)) (J4 (xi l 8) (xi x 5) (xi x 6) (xi x 7)) (YD x l) (YJ x l) (Y8 x) (IntKind.i64.wrap (xi l 16 * xi l 17))
def JOp:Int:= XN (J3 (xi l 8) (xi x 2) (xi x 3) (xi x 4)) (J4 (xi l 8) (xi x 2) (xi x 3) (xi x 4)) (J3 (xi l 8) (xi x 5) (xi x 6) (xi x 7)) (J4 (xi l 8) (xi x 5) (xi x 6) (xi x 7)) (YD x l) (YJ x l) (Y8 x) (IntKind.i64.wrap (xi l 16 * xi l 17))
def JPI:Int:= XP (J3 (xi l 8) (xi x 2) (xi x 3) (xi x 4)) (J4 (xi l 8) (xi x 2) (xi x 3) (xi x 4)) (J3 (xi l 8) (xi x 5) (xi x 6) (xi x 7)) (J4 (xi l 8) (xi x 5) (xi x 6) (xi x 7)) (YD x l) (YJ x l) (Y8 x) (IntKind.i64.wrap (xi l 16 * xi l 17))
def JGB:LL:= bif Qo (J3 (xi l 8) (xi x 2) (xi x 3) (xi x 4)) (J4 (xi l 8) (xi x 2) (xi x 3) (xi x 4)) (J3 (xi l 8) (xi x 5) (xi x 6) (xi x 7)) (J4 (xi l 8) (xi x 5) (xi x 6) (xi x 7)) (YD x l) (YJ x l) (Y8 x) (IntKind.i64.wrap (xi l 16 * xi l 17)) != 0 then O else QY (J2 l) (JOp x l) (JPI x l) C (Zu (J2 l) (JOp x l) (JPI x l) (J9 (xi l 8) (xi l 2) (xi l 3) (xi l 4)) (J9 (xi l 8) (xi l 2) (xi l 3) (xi l 4)) true (J2 l) (J3 (xi l 8) (xi l 2) (xi l 3) (xi l 4)) (J4 (xi l 8) (xi l 2) (xi l 3) (xi l 4)) O)
def JIS:LL:= bif Qo (J3 (xi l 8) (xi x 2) (xi x 3) (xi x 4)) (J4 (xi l 8) (xi x 2) (xi x 3) (xi x 4)) (J3 (xi l 8) (xi x 5) (xi x 6) (xi x 7)) (J4 (xi l 8) (xi x 5) (xi x 6) (xi x 7)) (bif xi x 0 == 3 then J3 (xi l 8) (xi x 9) (xi x 10) (xi x 11) else 0) (bif xi x 0 == 3 then J4 (xi l 8) (xi x 9) (xi x 10) (xi x 11) else 0) (bif xi x 0 == 3 then xi x 12 else 0) (IntKind.i64.wrap (xi l 16 * xi l 17)) != 0 then C else []
def JDy:List Prop:= [(Qo (J3 (xi l 8) (xi x 2) (xi x 3) (xi x 4)) (J4 (xi l 8) (xi x 2) (xi x 3) (xi x 4)) (J3 (xi l 8) (xi x 5) (xi x 6) (xi x 7)) (J4 (xi l 8) (xi x 5) (xi x 6) (xi x 7)) (YD x l) (YJ x l) (Y8 x) (IntKind.i64.wrap (xi l 16 * xi l 17)) != 0) = false → O.length ≤ 1000000 ∧ C.length ≤ 1000 ∧ (Zu (J2 l) (XN (J3 (xi l 8) (xi x 2) (xi x 3) (xi x 4)) (J4 (xi l 8) (xi x 2) (xi x 3) (xi x 4)) (J3 (xi l 8) (xi x 5) (xi x 6) (xi x 7)) (J4 (xi l 8) (xi x 5) (xi x 6) (xi x 7)) (YD x l) (YJ x l) (Y8 x) (IntKind.i64.wrap (xi l 16 * xi l 17))) (XP (J3 (xi l 8) (xi x 2) (xi x 3) (xi x 4)) (J4 (xi l 8) (xi x 2) (xi x 3) (xi x 4)) (J3 (xi l 8) (xi x 5) (xi x 6) (xi x 7)) (J4 (xi l 8) (xi x 5) (xi x 6) (xi x 7)) (YD x l) (YJ x l) (Y8 x) (IntKind.i64.wrap (xi l 16 * xi l 17))) (J9 (xi l 8) (xi l 2) (xi l 3) (xi l 4)) (J9 (xi l 8) (xi l 2) (xi l 3) (xi l 4)) true (J2 l) (J3 (xi l 8) (xi l 2) (xi l 3) (xi l 4)) (J4 (xi l 8) (xi l 2) (xi l 3) (xi l 4)) O).length ≤ 900000]
end
theorem JjX {x:List GC} {l:List GC} {C:LL} {O:LL} (hW:∀ q ∈ ([C.length ≤ 1000,O.length ≤ 800000]:List Prop),q):∀ q ∈ (JDy x l C O),q := by
  simp only [awc,awn,and_true] at hW
  unfold JDy
  simp only [awc,awn,and_true]
  obtain ⟨h1,h2⟩ := hW
  refine fun _ => ⟨by omega,h1,?_⟩
  refine Nat.le_trans (Wg ..).2 (by omega)
def JqQ (l x y:List GC) (a0 a1:Int) (tr op cl en mo:Bool) (la0 la1 la2 er:Int) (C O:LL) := [(0,Obj.blk 66 [(3,Ci (xi l 0)),(4,Ci (xi l 1)),(5,Ci (xi l 2)),(6,Ci (xi l 3)),(7,Ci (xi l 4)),(8,Ci (xi l 5)),(9,Ci (xi l 6)),(10,Ci (xi l 7)),(11,Ci (xi l 8)),(12,Ci (xi l 9)),(13,Ci (xi l 10)),(14,Ci (xi l 11)),(15,Ci (xi l 12)),(16,Cb (xb l 13)),(17,Ci (xi l 14)),(18,Cb (xb l 15)),(19,Ci (xi l 16)),(20,Ci (xi l 17)),(21,Ci (xi l 18)),(22,Ci (xi l 19)),(23,Ci (xi l 20)),(24,Cb (xb l 21)),(12673,Ci (JVJ x l y)),(12674,Ci (JZ4 x l y)),(12675,Ci (JXG x l y)),(12676,Ci (JYu x l y)),(12677,Ci (JVs x l y)),(12678,Ci (JXR x l y)),(12679,Ci (JW8 x l y)),(12680,Ci (JZz x l y)),(12681,Ci (JaK x l y)),(12682,Ci (JWX x l y)),(12683,Ci (JYy x l y)),(12684,Ci (JZa x l y)),(12685,Ci (JZH x l y)),(12686,Cb (JY8 x l y)),(12687,Ci (Jag x l y)),(12688,Cb (Jaf x l y)),(12689,Ci (JYM x l y)),(12690,Ci (Ja9 x l y)),(12691,Ci (JZi x l y)),(12692,Ci (JVx x l y)),(12693,Ci (JZR x l y)),(12694,Cb (JZo x l y)),(12695,Ci (JYG x l a0)),(12696,Ci (JYt x l a1)),(49,Cb tr),(12667,SC.wh 12665),(51,Cb op),(52,Cb cl),(53,Cb en),(54,Cb mo),(55,Ci la0),(56,Ci la1),(57,Ci la2),(12670,SC.wh 12668),(59,Ci er)]),(12668,Obj.row false 40 22 (RowC.lst 12672 JSv (JGB x l C O))),(12665,Obj.row false 40 22 (RowC.lst 12671 JSv (JIS x l C)))]
theorem Jl1 (x l y:List GC) (a0 a1:Int) (tr op cl en mo:Bool) (la0 la1 la2 er:Int) (C O:LL) (hNeeds:∀ pN ∈ (JDy x l C O),pN):Runs (Js (JB Jd9) Zh 74) (JGP.args (Jc JNe [.v x,.v l,.v y,.i a0,.i a1,.b tr,.b op,.b cl,.b en,.b mo,.i la0,.i la1,.i la2,.i er])) (JGP.memo (Jc JNe [.v x,.v l,.v y,.i a0,.i a1,.b tr,.b op,.b cl,.b en,.b mo,.i la0,.i la1,.i la2,.i er]) [C,O]) JGP.n (SV.one (Ci (JOt x l))) ((JqQ l x y a0 a1 tr op cl en mo la0 la1 la2 er C O)) :=
  Runs.of1 (ps := (JDy x l C O)) (by kernel_rfl) hNeeds
def JRr:List Gm → Qr → Option CRes
  | [.v x,.v l,.v y,.i a0,.i a1,.b tr,.b op,.b cl,.b en,.b mo,.i la0,.i la1,.i la2,.i er],[C,O] => some ⟨SV.one (Ci (JOt x l)),
 (JqQ l x y a0 a1 tr op cl en mo la0 la1 la2 er C O),[C.length ≤ 1000,O.length ≤ 800000],[],12697⟩
  | _,_ => none
theorem JsS:Qk Tryz.prog 74 (Z9 JNe JGP JRr) := by
  refine Qd (JD JTC 74) fun ps ls r hr hn _ => ?_
  unfold JRr at hr
  split at hr
  · cases hr; exact ⟨_,Jl1 _ _ _ _ _ _ _ _ _ _ _ _ _ _ _ _ (JjX (by exact hn)),fun _ => rfl⟩
  · cases hr
def Jdv:List (Nat × JW) := (74,Z9 JNe JGP JRr) :: Jd9
theorem JTZ:Known Tryz.prog (JB Jdv) Zh := J7 JTC JsS
def JJw:Tpl := ⟨[.one (.ptr 0 0),.agg pI],Y3,62⟩
def JUc:List GK := [.v Jy,.v Jy,.v Jy,.i,.i,.b,.b,.b,.b,.b,.i,.i,.i,.i]
section
variable (x l y:List GC)
def XA:Int:= bif xi y 0 == 3 then J3 (xi l 8) (xi y 9) (xi y 10) (xi y 11) else 0
def XB:Int:= bif xi y 0 == 3 then J4 (xi l 8) (xi y 9) (xi y 10) (xi y 11) else 0
def Qp:Int:= bif xi y 0 == 3 then xi y 12 else 0
def YW:Bool:= xi y 0 == 3 && xb y 13
def Kj:Int:= bif xi x 0 == 3 then J3 (xi l 8) (xi x 9) (xi x 10) (xi x 11) else 0
def Kg:Int:= bif xi x 0 == 3 then J4 (xi l 8) (xi x 9) (xi x 10) (xi x 11) else 0
def Zg:Int:= JQZ (J3 (xi l 8) (xi y 2) (xi y 3) (xi y 4)) (J4 (xi l 8) (xi y 2) (xi y 3) (xi y 4)) (J3 (xi l 8) (xi y 5) (xi y 6) (xi y 7)) (J4 (xi l 8) (xi y 5) (xi y 6) (xi y 7)) (XA l y) (XB l y) (Qp y) (YW y) (J3 (xi l 8) (xi x 2) (xi x 3) (xi x 4)) (J4 (xi l 8) (xi x 2) (xi x 3) (xi x 4)) (J3 (xi l 8) (xi x 5) (xi x 6) (xi x 7)) (J4 (xi l 8) (xi x 5) (xi x 6) (xi x 7)) (Kj x l) (Kg x l) (Qp x) (YW x) (IntKind.i64.wrap (xi l 16 * xi l 17))
end
def JCn (l y x:List GC) := JN1 (J3 (xi l 8) (xi y 2) (xi y 3) (xi y 4)) (J4 (xi l 8) (xi y 2) (xi y 3) (xi y 4)) (J3 (xi l 8) (xi y 5) (xi y 6) (xi y 7)) (J4 (xi l 8) (xi y 5) (xi y 6) (xi y 7)) (XA l y) (XB l y) (Qp y) (YW y) (J3 (xi l 8) (xi x 2) (xi x 3) (xi x 4)) (J4 (xi l 8) (xi x 2) (xi x 3) (xi x 4)) (J3 (xi l 8) (xi x 5) (xi x 6) (xi x 7)) (J4 (xi l 8) (xi x 5) (xi x 6) (xi x 7)) (Kj x l) (Kg x l) (Qp x) (YW x) (IntKind.i64.wrap (xi l 16 * xi l 17))
def JCy (l y x:List GC) := JMD (J3 (xi l 8) (xi y 2) (xi y 3) (xi y 4)) (J4 (xi l 8) (xi y 2) (xi y 3) (xi y 4)) (J3 (xi l 8) (xi y 5) (xi y 6) (xi y 7)) (J4 (xi l 8) (xi y 5) (xi y 6) (xi y 7)) (XA l y) (XB l y) (Qp y) (YW y) (J3 (xi l 8) (xi x 2) (xi x 3) (xi x 4)) (J4 (xi l 8) (xi x 2) (xi x 3) (xi x 4)) (J3 (xi l 8) (xi x 5) (xi x 6) (xi x 7)) (J4 (xi l 8) (xi x 5) (xi x 6) (xi x 7)) (Kj x l) (Kg x l) (Qp x) (YW x) (IntKind.i64.wrap (xi l 16 * xi l 17))
section
variable (x l y:List GC) (a0 a1:Int) (tr:Bool)
def JKU:Int:= Q8 (JCn l y x) (JCy l y x) true (J2 l) (J2 y) a0 a1 tr
def JGA:Int:= Qo (J3 (xi l 8) (xi y 2) (xi y 3) (xi y 4)) (J4 (xi l 8) (xi y 2) (xi y 3) (xi y 4)) (J3 (xi l 8) (xi y 5) (xi y 6) (xi y 7)) (J4 (xi l 8) (xi y 5) (xi y 6) (xi y 7)) (XA l y) (XB l y) (Qp y) (IntKind.i64.wrap (xi l 16 * xi l 17))
def Z5:Int:= Qo (J3 (xi l 8) (xi x 2) (xi x 3) (xi x 4)) (J4 (xi l 8) (xi x 2) (xi x 3) (xi x 4)) (J3 (xi l 8) (xi x 5) (xi x 6) (xi x 7)) (J4 (xi l 8) (xi x 5) (xi x 6) (xi x 7)) (Kj x l) (Kg x l) (Qp x) (IntKind.i64.wrap (xi l 16 * xi l 17))
end
def JCj (l y:List GC) := Xl (J3 (xi l 8) (xi y 2) (xi y 3) (xi y 4)) (J4 (xi l 8) (xi y 2) (xi y 3) (xi y 4)) (J3 (xi l 8) (xi y 5) (xi y 6) (xi y 7)) (J4 (xi l 8) (xi y 5) (xi y 6) (xi y 7)) (XA l y) (XB l y) (Qp y) (IntKind.i64.wrap (xi l 16 * xi l 17))
def JDD (l y:List GC) := Xk (J3 (xi l 8) (xi y 2) (xi y 3) (xi y 4)) (J4 (xi l 8) (xi y 2) (xi y 3) (xi y 4)) (J3 (xi l 8) (xi y 5) (xi y 6) (xi y 7)) (J4 (xi l 8) (xi y 5) (xi y 6) (xi y 7)) (XA l y) (XB l y) (Qp y) (IntKind.i64.wrap (xi l 16 * xi l 17))
def JFE (l y:List GC) (a0 a1:Int) (tr:Bool):Int := Q8 (JCj l y) (JDD l y) false (J2 l) (J2 y) a0 a1 tr
def W0 (l y x:List GC) := bif IntKind.i64.wrap (xi l 16 * xi l 17) == 0 then 0 else JC4 (Z7 (xi y 0) (xi y 2) (xi y 3) (xi y 4) (xi y 5) (xi y 6) (xi y 7) (xi y 8) (xi y 9) (xi y 10) (xi y 11) (xi y 12) true) (Z8 (xi y 0) (xi y 2) (xi y 3) (xi y 4) (xi y 5) (xi y 6) (xi y 7) (xi y 8) (xi y 9) (xi y 10) (xi y 11) (xi y 12) true) (Z7 (xi x 0) (xi x 2) (xi x 3) (xi x 4) (xi x 5) (xi x 6) (xi x 7) (xi x 8) (xi x 9) (xi x 10) (xi x 11) (xi x 12) false) (Z8 (xi x 0) (xi x 2) (xi x 3) (xi x 4) (xi x 5) (xi x 6) (xi x 7) (xi x 8) (xi x 9) (xi x 10) (xi x 11) (xi x 12) false) (xi l 16)
section
variable (x l y:List GC) (a0 a1:Int) (tr:Bool) (C O:LL) (q0:Nat)
def JLy:Int:= bif (W0 l y x) == 2 then bif Zg x l y == 0 then bif JKU x l y a0 a1 tr != 0 then JKU x l y a0 a1 tr else 0 else bif Zg x l y != 0 then Zg x l y else 0 else bif JGA l y != 0 then JGA l y else bif Z5 x l == 0 then bif JFE l y a0 a1 tr != 0 then JFE l y a0 a1 tr else 0 else bif Z5 x l != 0 then Z5 x l else 0
def XM:Int:= bif (W0 l y x) == 2 then bif Zg x l y == 0 then bif Q8 (JCn l y x) (JCy l y x) true (J2 l) (J2 y) a0 a1 tr != 0 then xi y q0 else xi x q0 else bif Zg x l y != 0 then xi y q0 else xi x q0 else bif Qo (J3 (xi l 8) (xi y 2) (xi y 3) (xi y 4)) (J4 (xi l 8) (xi y 2) (xi y 3) (xi y 4)) (J3 (xi l 8) (xi y 5) (xi y 6) (xi y 7)) (J4 (xi l 8) (xi y 5) (xi y 6) (xi y 7)) (XA l y) (XB l y) (Qp y) (IntKind.i64.wrap (xi l 16 * xi l 17)) != 0 then xi y q0 else bif Z5 x l == 0 then bif Q8 (JCj l y) (JDD l y) false (J2 l) (J2 y) a0 a1 tr != 0 then xi y q0 else xi x q0 else bif Z5 x l != 0 then xi y q0 else xi x q0
def JUY:Int:= XM x l y a0 a1 tr 0
def JUe:Int:= XM x l y a0 a1 tr 1
def JUy:Int:= XM x l y a0 a1 tr 2
def JV7:Int:= XM x l y a0 a1 tr 3
def JUW:Int:= XM x l y a0 a1 tr 4
def JUa:Int:= XM x l y a0 a1 tr 5
def JUm:Int:= XM x l y a0 a1 tr 6
def JUs:Int:= XM x l y a0 a1 tr 7
def JVC:Int:= XM x l y a0 a1 tr 8
def JV0:Int:= XM x l y a0 a1 tr 9
def JUg:Int:= XM x l y a0 a1 tr 10
def JUl:Int:= XM x l y a0 a1 tr 11
def JUP:Int:= XM x l y a0 a1 tr 12
def JNO:Bool:= bif (W0 l y x) == 2 then bif Zg x l y == 0 then bif Q8 (JCn l y x) (JCy l y x) true (J2 l) (J2 y) a0 a1 tr != 0 then xb y q0 else xb x q0 else bif Zg x l y != 0 then xb y q0 else xb x q0 else bif Qo (J3 (xi l 8) (xi y 2) (xi y 3) (xi y 4)) (J4 (xi l 8) (xi y 2) (xi y 3) (xi y 4)) (J3 (xi l 8) (xi y 5) (xi y 6) (xi y 7)) (J4 (xi l 8) (xi y 5) (xi y 6) (xi y 7)) (XA l y) (XB l y) (Qp y) (IntKind.i64.wrap (xi l 16 * xi l 17)) != 0 then xb y q0 else bif Z5 x l == 0 then bif Q8 (JCj l y) (JDD l y) false (J2 l) (J2 y) a0 a1 tr != 0 then xb y q0 else xb x q0 else bif Z5 x l != 0 then xb y q0 else xb x q0
def JV8:Bool:= JNO x l y a0 a1 tr 13
def JUh:Int:= XM x l y a0 a1 tr 14
def JUX:Bool:= JNO x l y a0 a1 tr 15
def JUS:Int:= XM x l y a0 a1 tr 16
def JV2:Int:= XM x l y a0 a1 tr 17
def JVB:Int:= XM x l y a0 a1 tr 18
def JUn:Int:= XM x l y a0 a1 tr 19
def JVE:Int:= XM x l y a0 a1 tr 20
def JVF:Bool:= JNO x l y a0 a1 tr 21
def Xt:Int:= JN1 (J3 (xi l 8) (xi y 2) (xi y 3) (xi y 4)) (J4 (xi l 8) (xi y 2) (xi y 3) (xi y 4)) (J3 (xi l 8) (xi y 5) (xi y 6) (xi y 7)) (J4 (xi l 8) (xi y 5) (xi y 6) (xi y 7)) (XA l y) (XB l y) (Qp y) (YW y) (J3 (xi l 8) (xi x 2) (xi x 3) (xi x 4)) (J4 (xi l 8) (xi x 2) (xi x 3) (xi x 4)) (J3 (xi l 8) (xi x 5) (xi x 6) (xi x 7)) (J4 (xi l 8) (xi x 5) (xi x 6) (xi x 7)) (Kj x l) (Kg x l) (Qp x) (YW x) (IntKind.i64.wrap (xi l 16 * xi l 17))
def Xr:Int:= JMD (J3 (xi l 8) (xi y 2) (xi y 3) (xi y 4)) (J4 (xi l 8) (xi y 2) (xi y 3) (xi y 4)) (J3 (xi l 8) (xi y 5) (xi y 6) (xi y 7)) (J4 (xi l 8) (xi y 5) (xi y 6) (xi y 7)) (XA l y) (XB l y) (Qp y) (YW y) (J3 (xi l 8) (xi x 2) (xi x 3) (xi x 4)) (J4 (xi l 8) (xi x 2) (xi x 3) (xi x 4)) (J3 (xi l 8) (xi x 5) (xi x 6) (xi x 7)) (J4 (xi l 8) (xi x 5) (xi x 6) (xi x 7)) (Kj x l) (Kg x l) (Qp x) (YW x) (IntKind.i64.wrap (xi l 16 * xi l 17))
def Zs:Int:= Xl (J3 (xi l 8) (xi y 2) (xi y 3) (xi y 4)) (J4 (xi l 8) (xi y 2) (xi y 3) (xi y 4)) (J3 (xi l 8) (xi y 5) (xi y 6) (xi y 7)) (J4 (xi l 8) (xi y 5) (xi y 6) (xi y 7)) (XA l y) (XB l y) (Qp y) (IntKind.i64.wrap (xi l 16 * xi l 17))
def Zq:Int:= Xk (J3 (xi l 8) (xi y 2) (xi y 3) (xi y 4)) (J4 (xi l 8) (xi y 2) (xi y 3) (xi y 4)) (J3 (xi l 8) (xi y 5) (xi y 6) (xi y 7)) (J4 (xi l 8) (xi y 5) (xi y 6) (xi y 7)) (XA l y) (XB l y) (Qp y) (IntKind.i64.wrap (xi l 16 * xi l 17))
def JFM:Int:= XN (J3 (xi l 8) (xi x 2) (xi x 3) (xi x 4)) (J4 (xi l 8) (xi x 2) (xi x 3) (xi x 4)) (J3 (xi l 8) (xi x 5) (xi x 6) (xi x 7)) (J4 (xi l 8) (xi x 5) (xi x 6) (xi x 7)) (Kj x l) (Kg x l) (Qp x) (IntKind.i64.wrap (xi l 16 * xi l 17))
def JUj:Int:= bif (W0 l y x) == 2 then bif Zg x l y == 0 then bif Q8 (Xt x l y) (Xr x l y) true (J2 l) (J2 y) a0 a1 tr != 0 then KV (Xt x l y) (Xr x l y) true (J2 l) (J2 y) a0 a1 tr else KV (Xt x l y) (Xr x l y) true (J2 l) (J2 y) a0 a1 tr else bif Zg x l y != 0 then a0 else a0 else bif Qo (J3 (xi l 8) (xi y 2) (xi y 3) (xi y 4)) (J4 (xi l 8) (xi y 2) (xi y 3) (xi y 4)) (J3 (xi l 8) (xi y 5) (xi y 6) (xi y 7)) (J4 (xi l 8) (xi y 5) (xi y 6) (xi y 7)) (XA l y) (XB l y) (Qp y) (IntKind.i64.wrap (xi l 16 * xi l 17)) != 0 then a0 else bif Z5 x l == 0 then bif Q8 (Zs l y) (Zq l y) false (J2 l) (J2 y) a0 a1 tr != 0 then KV (Zs l y) (Zq l y) false (J2 l) (J2 y) a0 a1 tr else JFM x l else bif Z5 x l != 0 then a0 else JFM x l
def JGR:Int:= XP (J3 (xi l 8) (xi x 2) (xi x 3) (xi x 4)) (J4 (xi l 8) (xi x 2) (xi x 3) (xi x 4)) (J3 (xi l 8) (xi x 5) (xi x 6) (xi x 7)) (J4 (xi l 8) (xi x 5) (xi x 6) (xi x 7)) (Kj x l) (Kg x l) (Qp x) (IntKind.i64.wrap (xi l 16 * xi l 17))
def JUv:Int:= bif (W0 l y x) == 2 then bif Zg x l y == 0 then bif Q8 (Xt x l y) (Xr x l y) true (J2 l) (J2 y) a0 a1 tr != 0 then KW (Xt x l y) (Xr x l y) true (J2 l) (J2 y) a0 a1 tr else KW (Xt x l y) (Xr x l y) true (J2 l) (J2 y) a0 a1 tr else bif Zg x l y != 0 then a1 else a1 else bif Qo (J3 (xi l 8) (xi y 2) (xi y 3) (xi y 4)) (J4 (xi l 8) (xi y 2) (xi y 3) (xi y 4)) (J3 (xi l 8) (xi y 5) (xi y 6) (xi y 7)) (J4 (xi l 8) (xi y 5) (xi y 6) (xi y 7)) (XA l y) (XB l y) (Qp y) (IntKind.i64.wrap (xi l 16 * xi l 17)) != 0 then a1 else bif Z5 x l == 0 then bif Q8 (Zs l y) (Zq l y) false (J2 l) (J2 y) a0 a1 tr != 0 then KW (Zs l y) (Zq l y) false (J2 l) (J2 y) a0 a1 tr else JGR x l else bif Z5 x l != 0 then a1 else JGR x l
def JV9:Bool:= bif (W0 l y x) == 2 then bif Zg x l y == 0 then bif Q8 (JCn l y x) (JCy l y x) true (J2 l) (J2 y) a0 a1 tr != 0 then tr else true else bif Zg x l y != 0 then tr else true else bif Qo (J3 (xi l 8) (xi y 2) (xi y 3) (xi y 4)) (J4 (xi l 8) (xi y 2) (xi y 3) (xi y 4)) (J3 (xi l 8) (xi y 5) (xi y 6) (xi y 7)) (J4 (xi l 8) (xi y 5) (xi y 6) (xi y 7)) (XA l y) (XB l y) (Qp y) (IntKind.i64.wrap (xi l 16 * xi l 17)) != 0 then tr else bif Z5 x l == 0 then Q8 (JCj l y) (JDD l y) false (J2 l) (J2 y) a0 a1 tr != 0 && tr else Z5 x l != 0 && tr
def JEg:LL:= Zt (Xt x l y) (Xr x l y) true (J2 l) (J2 y) a0 a1 tr O
def JDZ:LL:= bif (W0 l y x) == 2 then bif Zg x l y == 0 then bif Q8 (Xt x l y) (Xr x l y) true (J2 l) (J2 y) a0 a1 tr != 0 then JEg x l y a0 a1 tr O else QY (J2 l) (KV (Xt x l y) (Xr x l y) true (J2 l) (J2 y) a0 a1 tr) (KW (Xt x l y) (Xr x l y) true (J2 l) (J2 y) a0 a1 tr) C (JEg x l y a0 a1 tr O) else bif Zg x l y != 0 then O else QY (J2 l) a0 a1 C O else bif Qo (J3 (xi l 8) (xi y 2) (xi y 3) (xi y 4)) (J4 (xi l 8) (xi y 2) (xi y 3) (xi y 4)) (J3 (xi l 8) (xi y 5) (xi y 6) (xi y 7)) (J4 (xi l 8) (xi y 5) (xi y 6) (xi y 7)) (XA l y) (XB l y) (Qp y) (IntKind.i64.wrap (xi l 16 * xi l 17)) != 0 then O else bif Z5 x l == 0 then bif Q8 (Zs l y) (Zq l y) false (J2 l) (J2 y) a0 a1 tr != 0 then Zt (Zs l y) (Zq l y) false (J2 l) (J2 y) a0 a1 tr O else Wl (J2 x) (XN (J3 (xi l 8) (xi x 2) (xi x 3) (xi x 4)) (J4 (xi l 8) (xi x 2) (xi x 3) (xi x 4)) (J3 (xi l 8) (xi x 5) (xi x 6) (xi x 7)) (J4 (xi l 8) (xi x 5) (xi x 6) (xi x 7)) (Kj x l) (Kg x l) (Qp x) (IntKind.i64.wrap (xi l 16 * xi l 17))) (XP (J3 (xi l 8) (xi x 2) (xi x 3) (xi x 4)) (J4 (xi l 8) (xi x 2) (xi x 3) (xi x 4)) (J3 (xi l 8) (xi x 5) (xi x 6) (xi x 7)) (J4 (xi l 8) (xi x 5) (xi x 6) (xi x 7)) (Kj x l) (Kg x l) (Qp x) (IntKind.i64.wrap (xi l 16 * xi l 17))) ((W0 l y x) == 1) (J2 l) (KV (Zs l y) (Zq l y) false (J2 l) (J2 y) a0 a1 tr) (KW (Zs l y) (Zq l y) false (J2 l) (J2 y) a0 a1 tr) (QY (J2 l) (KV (Zs l y) (Zq l y) false (J2 l) (J2 y) a0 a1 tr) (KW (Zs l y) (Zq l y) false (J2 l) (J2 y) a0 a1 tr) C (Zt (Zs l y) (Zq l y) false (J2 l) (J2 y) a0 a1 tr O)) else bif Z5 x l != 0 then O else Wl (J2 x) (XN (J3 (xi l 8) (xi x 2) (xi x 3) (xi x 4)) (J4 (xi l 8) (xi x 2) (xi x 3) (xi x 4)) (J3 (xi l 8) (xi x 5) (xi x 6) (xi x 7)) (J4 (xi l 8) (xi x 5) (xi x 6) (xi x 7)) (Kj x l) (Kg x l) (Qp x) (IntKind.i64.wrap (xi l 16 * xi l 17))) (XP (J3 (xi l 8) (xi x 2) (xi x 3) (xi x 4)) (J4 (xi l 8) (xi x 2) (xi x 3) (xi x 4)) (J3 (xi l 8) (xi x 5) (xi x 6) (xi x 7)) (J4 (xi l 8) (xi x 5) (xi x 6) (xi x 7)) (Kj x l) (Kg x l) (Qp x) (IntKind.i64.wrap (xi l 16 * xi l 17))) ((W0 l y x) == 1) (J2 l) a0 a1 (QY (J2 l) a0 a1 C O)
def JKh:LL:= bif (W0 l y x) == 2 then bif Zg x l y == 0 then bif Q8 (JCn l y x) (JCy l y x) true (J2 l) (J2 y) a0 a1 tr != 0 then C else [] else bif Zg x l y != 0 then C else [] else bif Qo (J3 (xi l 8) (xi y 2) (xi y 3) (xi y 4)) (J4 (xi l 8) (xi y 2) (xi y 3) (xi y 4)) (J3 (xi l 8) (xi y 5) (xi y 6) (xi y 7)) (J4 (xi l 8) (xi y 5) (xi y 6) (xi y 7)) (XA l y) (XB l y) (Qp y) (IntKind.i64.wrap (xi l 16 * xi l 17)) != 0 then C else bif Z5 x l == 0 then bif Q8 (JCj l y) (JDD l y) false (J2 l) (J2 y) a0 a1 tr != 0 then C else [] else bif Z5 x l != 0 then C else []
def JGv:List Prop:= [((W0 l y x) == 2) = true → ((Zg x l y == 0) = true → O.length ≤ 1000000) ∧ ((Zg x l y == 0) = true → (Q8 (Xt x l y) (Xr x l y) true (J2 l) (J2 y) a0 a1 tr != 0) = false → C.length ≤ 1000 ∧ (Zt (Xt x l y) (Xr x l y) true (J2 l) (J2 y) a0 a1 tr O).length ≤ 900000) ∧ ((Zg x l y == 0) = false → (Zg x l y != 0) = false → C.length ≤ 1000 ∧ O.length ≤ 900000),((W0 l y x) == 2) = false → (Qo (J3 (xi l 8) (xi y 2) (xi y 3) (xi y 4)) (J4 (xi l 8) (xi y 2) (xi y 3) (xi y 4)) (J3 (xi l 8) (xi y 5) (xi y 6) (xi y 7)) (J4 (xi l 8) (xi y 5) (xi y 6) (xi y 7)) (XA l y) (XB l y) (Qp y) (IntKind.i64.wrap (xi l 16 * xi l 17)) != 0) = false → ((Z5 x l == 0) = true → O.length ≤ 1000000) ∧ ((Z5 x l == 0) = true → (Q8 (Zs l y) (Zq l y) false (J2 l) (J2 y) a0 a1 tr != 0) = false → C.length ≤ 1000 ∧ (Zt (Zs l y) (Zq l y) false (J2 l) (J2 y) a0 a1 tr O).length ≤ 900000 ∧ (QY (J2 l) (KV (Zs l y) (Zq l y) false (J2 l) (J2 y) a0 a1 tr) (KW (Zs l y) (Zq l y) false (J2 l) (J2 y) a0 a1 tr) C (Zt (Zs l y) (Zq l y) false (J2 l) (J2 y) a0 a1 tr O)).length ≤ 1000000) ∧ ((Z5 x l == 0) = false → (Z5 x l != 0) = false → C.length ≤ 1000 ∧ O.length ≤ 900000 ∧ (QY (J2 l) a0 a1 C O).length ≤ 1000000)]
end
theorem Jpk {x:List GC} {l:List GC} {y:List GC} {a0:Int} {a1:Int} {tr:Bool} {C:LL} {O:LL} (hW:∀ q ∈ ([C.length ≤ 1000,O.length ≤ 800000]:List Prop),q):∀ q ∈ (JGv x l y a0 a1 tr C O),q := by
  simp only [awc,awn,and_true] at hW
  unfold JGv
  simp only [awc,awn,and_true]
  obtain ⟨h1,h2⟩ := hW
  have s := fun u w tm => (Yw u w tm (J2 l) (J2 y) a0 a1 tr O).2
  have r := fun a0 a1 O => zC (J2 l) a0 a1 C O
  refine ⟨fun _ => ⟨fun _ => by omega,fun _ _ => ⟨h1,Nat.le_trans (s ..) (by omega)⟩,fun _ _ => ⟨h1,by omega⟩⟩,fun _ _ => ⟨fun _ => by omega,fun _ _ => ⟨h1,Nat.le_trans (s ..) (by omega),Nat.le_trans (r ..) (Nat.le_trans (Nat.add_le_add_right (s ..) _) (by omega))⟩,fun _ _ => ⟨h1,by omega,Nat.le_trans (r ..) (by omega)⟩⟩⟩
def JvP (l x y:List GC) (a0 a1:Int) (tr op cl en mo:Bool) (la0 la1 la2 er:Int) (C O:LL) := [(0,Obj.blk 66 [(3,Ci (xi l 0)),(4,Ci (xi l 1)),(5,Ci (xi l 2)),(6,Ci (xi l 3)),(7,Ci (xi l 4)),(8,Ci (xi l 5)),(9,Ci (xi l 6)),(10,Ci (xi l 7)),(11,Ci (xi l 8)),(12,Ci (xi l 9)),(13,Ci (xi l 10)),(14,Ci (xi l 11)),(15,Ci (xi l 12)),(16,Cb (xb l 13)),(17,Ci (xi l 14)),(18,Cb (xb l 15)),(19,Ci (xi l 16)),(20,Ci (xi l 17)),(21,Ci (xi l 18)),(22,Ci (xi l 19)),(23,Ci (xi l 20)),(24,Cb (xb l 21)),(66287,Ci (JUY x l y a0 a1 tr)),(66288,Ci (JUe x l y a0 a1 tr)),(66289,Ci (JUy x l y a0 a1 tr)),(66290,Ci (JV7 x l y a0 a1 tr)),(66291,Ci (JUW x l y a0 a1 tr)),(66292,Ci (JUa x l y a0 a1 tr)),(66293,Ci (JUm x l y a0 a1 tr)),(66294,Ci (JUs x l y a0 a1 tr)),(66295,Ci (JVC x l y a0 a1 tr)),(66296,Ci (JV0 x l y a0 a1 tr)),(66297,Ci (JUg x l y a0 a1 tr)),(66298,Ci (JUl x l y a0 a1 tr)),(66299,Ci (JUP x l y a0 a1 tr)),(66300,Cb (JV8 x l y a0 a1 tr)),(66301,Ci (JUh x l y a0 a1 tr)),(66302,Cb (JUX x l y a0 a1 tr)),(66303,Ci (JUS x l y a0 a1 tr)),(66304,Ci (JV2 x l y a0 a1 tr)),(66305,Ci (JVB x l y a0 a1 tr)),(66306,Ci (JUn x l y a0 a1 tr)),(66307,Ci (JVE x l y a0 a1 tr)),(66308,Cb (JVF x l y a0 a1 tr)),(66309,Ci (JUj x l y a0 a1 tr)),(66310,Ci (JUv x l y a0 a1 tr)),(66311,Cb (JV9 x l y a0 a1 tr)),(66281,SC.wh 66279),(51,Cb op),(52,Cb cl),(53,Cb en),(54,Cb mo),(55,Ci la0),(56,Ci la1),(57,Ci la2),(66284,SC.wh 66282),(59,Ci er)]),(66282,Obj.row false 40 22 (RowC.lst 66286 JSv (JDZ x l y a0 a1 tr C O))),(66279,Obj.row false 40 22 (RowC.lst 66285 JSv (JKh x l y a0 a1 tr C)))]
theorem JpP (x l y:List GC) (a0 a1:Int) (tr op cl en mo:Bool) (la0 la1 la2 er:Int) (C O:LL) (hNeeds:∀ pN ∈ (JGv x l y a0 a1 tr C O),pN):Runs (Js (JB Jdv) Zh 75) (JJw.args (Jc JUc [.v x,.v l,.v y,.i a0,.i a1,.b tr,.b op,.b cl,.b en,.b mo,.i la0,.i la1,.i la2,.i er])) (JJw.memo (Jc JUc [.v x,.v l,.v y,.i a0,.i a1,.b tr,.b op,.b cl,.b en,.b mo,.i la0,.i la1,.i la2,.i er]) [C,O]) JJw.n (SV.one (Ci (JLy x l y a0 a1 tr))) ((JvP l x y a0 a1 tr op cl en mo la0 la1 la2 er C O)) :=
  Runs.of1 (ps := (JGv x l y a0 a1 tr C O)) (by kernel_rfl) hNeeds
def JWx:List Gm → Qr → Option CRes
  | [.v x,.v l,.v y,.i a0,.i a1,.b tr,.b op,.b cl,.b en,.b mo,.i la0,.i la1,.i la2,.i er],[C,O] => some ⟨SV.one (Ci (JLy x l y a0 a1 tr)),
 (JvP l x y a0 a1 tr op cl en mo la0 la1 la2 er C O),[C.length ≤ 1000,O.length ≤ 800000],[],66312⟩
  | _,_ => none
theorem JuL:Qk Tryz.prog 75 (Z9 JUc JJw JWx) := by
  refine Qd (JD JTZ 75) fun ps ls r hr hn _ => ?_
  unfold JWx at hr
  split at hr
  · cases hr; exact ⟨_,JpP _ _ _ _ _ _ _ _ _ _ _ _ _ _ _ _ (Jpk (by exact hn)),fun _ => rfl⟩
  · cases hr
def Jis:List (Nat × JW) := (75,Z9 JUc JJw JWx) :: Jdv
theorem JVd:Known Tryz.prog (JB Jis) Zh := J7 JTZ JuL
def JDE:Tpl := ⟨[.one (.ptr 0 0),.agg pI],Y3,62⟩
def JKV:List GK := [.v Jy,.v Jy,.v Jy,.i,.i,.b,.b,.b,.b,.b,.i,.i,.i,.i]
section
variable (l y:List GC)
def jf:Int:= bif xi y 0 == 3 then J3 (xi l 8) (xi y 9) (xi y 10) (xi y 11) else 0
def jj:Int:= bif xi y 0 == 3 then J4 (xi l 8) (xi y 9) (xi y 10) (xi y 11) else 0
def jX:Int:= bif xi y 0 == 3 then xi y 12 else 0
def QS:Int:= Qo (J3 (xi l 8) (xi y 2) (xi y 3) (xi y 4)) (J4 (xi l 8) (xi y 2) (xi y 3) (xi y 4)) (J3 (xi l 8) (xi y 5) (xi y 6) (xi y 7)) (J4 (xi l 8) (xi y 5) (xi y 6) (xi y 7)) (jf l y) (jj l y) (jX y) (IntKind.i64.wrap (xi l 16 * xi l 17))
end
def jN (l y:List GC) := Xl (J3 (xi l 8) (xi y 2) (xi y 3) (xi y 4)) (J4 (xi l 8) (xi y 2) (xi y 3) (xi y 4)) (J3 (xi l 8) (xi y 5) (xi y 6) (xi y 7)) (J4 (xi l 8) (xi y 5) (xi y 6) (xi y 7)) (jf l y) (jj l y) (jX y) (IntKind.i64.wrap (xi l 16 * xi l 17))
def jO (l y:List GC) := Xk (J3 (xi l 8) (xi y 2) (xi y 3) (xi y 4)) (J4 (xi l 8) (xi y 2) (xi y 3) (xi y 4)) (J3 (xi l 8) (xi y 5) (xi y 6) (xi y 7)) (J4 (xi l 8) (xi y 5) (xi y 6) (xi y 7)) (jf l y) (jj l y) (jX y) (IntKind.i64.wrap (xi l 16 * xi l 17))
section
variable (x l y:List GC) (a0 a1:Int) (tr:Bool) (C O:LL) (op:Bool) (q0:Nat)
def JKj:Int:= Q8 (jN l y) (jO l y) false (J2 l) (J2 y) a0 a1 tr
def JJ6:Int:= bif !JX (J2 x) (xi l 8) (xi l 17) || xi y 0 == 0 then 14 else bif QS l y == 0 then bif JKj l y a0 a1 tr != 0 then JKj l y a0 a1 tr else 0 else bif QS l y != 0 then QS l y else 0
def ZD:Int:= bif !JX (J2 x) (xi l 8) (xi l 17) || xi y 0 == 0 then xi l q0 else bif QS l y == 0 then bif Q8 (jN l y) (jO l y) false (J2 l) (J2 y) a0 a1 tr != 0 then xi l q0 else 0 else bif QS l y != 0 then xi l q0 else 0
def JZq:Int:= ZD x l y a0 a1 tr 0
def JWU:Int:= ZD x l y a0 a1 tr 1
def JY9:Int:= ZD x l y a0 a1 tr 2
def JZZ:Int:= ZD x l y a0 a1 tr 3
def JaQ:Int:= ZD x l y a0 a1 tr 4
def JYN:Int:= ZD x l y a0 a1 tr 5
def JWr:Int:= ZD x l y a0 a1 tr 6
def JZM:Int:= ZD x l y a0 a1 tr 7
def JYq:Int:= ZD x l y a0 a1 tr 8
def JRl:Int:= ZD x l y a0 a1 tr 9
def JRc:Int:= ZD x l y a0 a1 tr 10
def JRb:Int:= ZD x l y a0 a1 tr 11
def JR1:Int:= ZD x l y a0 a1 tr 12
def JKI:Bool:= bif !JX (J2 x) (xi l 8) (xi l 17) || xi y 0 == 0 then xb l q0 else bif QS l y == 0 then Q8 (jN l y) (jO l y) false (J2 l) (J2 y) a0 a1 tr != 0 && xb l q0 else QS l y != 0 && xb l q0
def JPb:Bool:= JKI x l y a0 a1 tr 13
def JQT:Int:= ZD x l y a0 a1 tr 14
def JR0:Bool:= JKI x l y a0 a1 tr 15
def JSH:Int:= ZD x l y a0 a1 tr 16
def JRY:Int:= ZD x l y a0 a1 tr 17
def JS4:Int:= ZD x l y a0 a1 tr 18
def JRp:Int:= ZD x l y a0 a1 tr 19
def JSR:Int:= ZD x l y a0 a1 tr 20
def JSQ:Bool:= JKI x l y a0 a1 tr 21
def ZE:Int:= bif !JX (J2 x) (xi l 8) (xi l 17) || xi y 0 == 0 then xi y q0 else bif QS l y == 0 then bif Q8 (jN l y) (jO l y) false (J2 l) (J2 y) a0 a1 tr != 0 then xi y q0 else 0 else bif QS l y != 0 then xi y q0 else 0
def JPS:Int:= ZE x l y a0 a1 tr 0
def JQl:Int:= ZE x l y a0 a1 tr 1
def JQ7:Int:= ZE x l y a0 a1 tr 2
def JSA:Int:= ZE x l y a0 a1 tr 3
def JPO:Int:= ZE x l y a0 a1 tr 4
def JR5:Int:= ZE x l y a0 a1 tr 5
def JQa:Int:= ZE x l y a0 a1 tr 6
def JRB:Int:= ZE x l y a0 a1 tr 7
def JRq:Int:= ZE x l y a0 a1 tr 8
def JPl:Int:= ZE x l y a0 a1 tr 9
def JSY:Int:= ZE x l y a0 a1 tr 10
def JPV:Int:= ZE x l y a0 a1 tr 11
def JQM:Int:= ZE x l y a0 a1 tr 12
def JKS:Bool:= bif !JX (J2 x) (xi l 8) (xi l 17) || xi y 0 == 0 then xb y q0 else bif QS l y == 0 then Q8 (jN l y) (jO l y) false (J2 l) (J2 y) a0 a1 tr != 0 && xb y q0 else QS l y != 0 && xb y q0
def JQ4:Bool:= JKS x l y a0 a1 tr 13
def JQP:Int:= ZE x l y a0 a1 tr 14
def JPi:Bool:= JKS x l y a0 a1 tr 15
def JRV:Int:= ZE x l y a0 a1 tr 16
def JSM:Int:= ZE x l y a0 a1 tr 17
def JRU:Int:= ZE x l y a0 a1 tr 18
def JQG:Int:= ZE x l y a0 a1 tr 19
def JS9:Int:= ZE x l y a0 a1 tr 20
def JQC:Bool:= JKS x l y a0 a1 tr 21
def ZX:Int:= Xl (J3 (xi l 8) (xi y 2) (xi y 3) (xi y 4)) (J4 (xi l 8) (xi y 2) (xi y 3) (xi y 4)) (J3 (xi l 8) (xi y 5) (xi y 6) (xi y 7)) (J4 (xi l 8) (xi y 5) (xi y 6) (xi y 7)) (jf l y) (jj l y) (jX y) (IntKind.i64.wrap (xi l 16 * xi l 17))
def ZW:Int:= Xk (J3 (xi l 8) (xi y 2) (xi y 3) (xi y 4)) (J4 (xi l 8) (xi y 2) (xi y 3) (xi y 4)) (J3 (xi l 8) (xi y 5) (xi y 6) (xi y 7)) (J4 (xi l 8) (xi y 5) (xi y 6) (xi y 7)) (jf l y) (jj l y) (jX y) (IntKind.i64.wrap (xi l 16 * xi l 17))
def JR8:Int:= bif !JX (J2 x) (xi l 8) (xi l 17) || xi y 0 == 0 then a0 else bif QS l y == 0 then bif Q8 (ZX l y) (ZW l y) false (J2 l) (J2 y) a0 a1 tr != 0 then KV (ZX l y) (ZW l y) false (J2 l) (J2 y) a0 a1 tr else 0 else bif QS l y != 0 then a0 else 0
def JQp:Int:= bif !JX (J2 x) (xi l 8) (xi l 17) || xi y 0 == 0 then a1 else bif QS l y == 0 then bif Q8 (ZX l y) (ZW l y) false (J2 l) (J2 y) a0 a1 tr != 0 then KW (ZX l y) (ZW l y) false (J2 l) (J2 y) a0 a1 tr else 0 else bif QS l y != 0 then a1 else 0
def JS3:Bool:= bif !JX (J2 x) (xi l 8) (xi l 17) || xi y 0 == 0 then tr else bif QS l y == 0 then Q8 (jN l y) (jO l y) false (J2 l) (J2 y) a0 a1 tr != 0 && tr else QS l y != 0 && tr
def JPu:Bool:= bif !JX (J2 x) (xi l 8) (xi l 17) || xi y 0 == 0 then op else bif QS l y == 0 then Q8 (jN l y) (jO l y) false (J2 l) (J2 y) a0 a1 tr != 0 && op else QS l y != 0 && op
def JCE:LL:= bif !JX (J2 x) (xi l 8) (xi l 17) || xi y 0 == 0 then O else bif QS l y == 0 then bif Q8 (ZX l y) (ZW l y) false (J2 l) (J2 y) a0 a1 tr != 0 then Zt (ZX l y) (ZW l y) false (J2 l) (J2 y) a0 a1 tr O else Zu (J2 x) (J3 (xi l 8) (xi x 5) (xi x 6) (xi x 7)) (J4 (xi l 8) (xi x 5) (xi x 6) (xi x 7)) (J9 (xi l 8) (xi x 5) (xi x 6) (xi x 7)) (J9 (xi l 8) (xi x 5) (xi x 6) (xi x 7)) true (J2 l) (KV (ZX l y) (ZW l y) false (J2 l) (J2 y) a0 a1 tr) (KW (ZX l y) (ZW l y) false (J2 l) (J2 y) a0 a1 tr) (QY (J2 l) (KV (ZX l y) (ZW l y) false (J2 l) (J2 y) a0 a1 tr) (KW (ZX l y) (ZW l y) false (J2 l) (J2 y) a0 a1 tr) C (Zt (ZX l y) (ZW l y) false (J2 l) (J2 y) a0 a1 tr O)) else bif QS l y != 0 then O else Zu (J2 x) (J3 (xi l 8) (xi x 5) (xi x 6) (xi x 7)) (J4 (xi l 8) (xi x 5) (xi x 6) (xi x 7)) (J9 (xi l 8) (xi x 5) (xi x 6) (xi x 7)) (J9 (xi l 8) (xi x 5) (xi x 6) (xi x 7)) true (J2 l) a0 a1 (QY (J2 l) a0 a1 C O)
def JGN:LL:= bif !JX (J2 x) (xi l 8) (xi l 17) || xi y 0 == 0 then C else bif QS l y == 0 then bif Q8 (jN l y) (jO l y) false (J2 l) (J2 y) a0 a1 tr != 0 then C else [] else bif QS l y != 0 then C else []
def JBp:List Prop:= [(!JX (J2 x) (xi l 8) (xi l 17) || xi y 0 == 0) = false → ((QS l y == 0) = true → O.length ≤ 1000000) ∧ ((QS l y == 0) = true → (Q8 (ZX l y) (ZW l y) false (J2 l) (J2 y) a0 a1 tr != 0) = false → C.length ≤ 1000 ∧ (Zt (ZX l y) (ZW l y) false (J2 l) (J2 y) a0 a1 tr O).length ≤ 900000 ∧ (QY (J2 l) (KV (ZX l y) (ZW l y) false (J2 l) (J2 y) a0 a1 tr) (KW (ZX l y) (ZW l y) false (J2 l) (J2 y) a0 a1 tr) C (Zt (ZX l y) (ZW l y) false (J2 l) (J2 y) a0 a1 tr O)).length ≤ 1000000) ∧ ((QS l y == 0) = false → (QS l y != 0) = false → C.length ≤ 1000 ∧ O.length ≤ 900000 ∧ (QY (J2 l) a0 a1 C O).length ≤ 1000000)]
end
theorem JhZ {x:List GC} {l:List GC} {y:List GC} {a0:Int} {a1:Int} {tr:Bool} {C:LL} {O:LL} (hW:∀ q ∈ ([C.length ≤ 1000,O.length ≤ 800000]:List Prop),q):∀ q ∈ (JBp x l y a0 a1 tr C O),q := by
  simp only [awc,awn,and_true] at hW
  unfold JBp
  simp only [awc,awn,and_true]
  obtain ⟨h1,h2⟩ := hW
  have s := fun u w tm => (Yw u w tm (J2 l) (J2 y) a0 a1 tr O).2
  have r := fun a0 a1 O => zC (J2 l) a0 a1 C O
  exact fun _ => ⟨fun _ => by omega,fun _ _ => ⟨h1,Nat.le_trans (s ..) (by omega),Nat.le_trans (r ..) (Nat.le_trans (Nat.add_le_add_right (s ..) _) (by omega))⟩,fun _ _ => ⟨h1,by omega,Nat.le_trans (r ..) (by omega)⟩⟩
def JvL (x l y:List GC) (a0 a1:Int) (tr op cl en mo:Bool) (la0 la1 la2 er:Int) (C O:LL) := [(0,Obj.blk 66 [(19948,Ci (JZq x l y a0 a1 tr)),(19949,Ci (JWU x l y a0 a1 tr)),(19950,Ci (JY9 x l y a0 a1 tr)),(19951,Ci (JZZ x l y a0 a1 tr)),(19952,Ci (JaQ x l y a0 a1 tr)),(19953,Ci (JYN x l y a0 a1 tr)),(19954,Ci (JWr x l y a0 a1 tr)),(19955,Ci (JZM x l y a0 a1 tr)),(19956,Ci (JYq x l y a0 a1 tr)),(19957,Ci (JRl x l y a0 a1 tr)),(19958,Ci (JRc x l y a0 a1 tr)),(19959,Ci (JRb x l y a0 a1 tr)),(19960,Ci (JR1 x l y a0 a1 tr)),(19961,Cb (JPb x l y a0 a1 tr)),(19962,Ci (JQT x l y a0 a1 tr)),(19963,Cb (JR0 x l y a0 a1 tr)),(19964,Ci (JSH x l y a0 a1 tr)),(19965,Ci (JRY x l y a0 a1 tr)),(19966,Ci (JS4 x l y a0 a1 tr)),(19967,Ci (JRp x l y a0 a1 tr)),(19968,Ci (JSR x l y a0 a1 tr)),(19969,Cb (JSQ x l y a0 a1 tr)),(19970,Ci (JPS x l y a0 a1 tr)),(19971,Ci (JQl x l y a0 a1 tr)),(19972,Ci (JQ7 x l y a0 a1 tr)),(19973,Ci (JSA x l y a0 a1 tr)),(19974,Ci (JPO x l y a0 a1 tr)),(19975,Ci (JR5 x l y a0 a1 tr)),(19976,Ci (JQa x l y a0 a1 tr)),(19977,Ci (JRB x l y a0 a1 tr)),(19978,Ci (JRq x l y a0 a1 tr)),(19979,Ci (JPl x l y a0 a1 tr)),(19980,Ci (JSY x l y a0 a1 tr)),(19981,Ci (JPV x l y a0 a1 tr)),(19982,Ci (JQM x l y a0 a1 tr)),(19983,Cb (JQ4 x l y a0 a1 tr)),(19984,Ci (JQP x l y a0 a1 tr)),(19985,Cb (JPi x l y a0 a1 tr)),(19986,Ci (JRV x l y a0 a1 tr)),(19987,Ci (JSM x l y a0 a1 tr)),(19988,Ci (JRU x l y a0 a1 tr)),(19989,Ci (JQG x l y a0 a1 tr)),(19990,Ci (JS9 x l y a0 a1 tr)),(19991,Cb (JQC x l y a0 a1 tr)),(19992,Ci (JR8 x l y a0 a1 tr)),(19993,Ci (JQp x l y a0 a1 tr)),(19994,Cb (JS3 x l y a0 a1 tr)),(19942,SC.wh 19940),(19995,Cb (JPu x l y a0 a1 tr op)),(52,Cb cl),(53,Cb en),(54,Cb mo),(55,Ci la0),(56,Ci la1),(57,Ci la2),(19945,SC.wh 19943),(59,Ci er)]),(19943,Obj.row false 40 22 (RowC.lst 19947 JSv (JCE x l y a0 a1 tr C O))),(19940,Obj.row false 40 22 (RowC.lst 19946 JSv (JGN x l y a0 a1 tr C)))]
theorem JgJ (x l y:List GC) (a0 a1:Int) (tr op cl en mo:Bool) (la0 la1 la2 er:Int) (C O:LL) (hNeeds:∀ pN ∈ (JBp x l y a0 a1 tr C O),pN):Runs (Js (JB Jis) Zh 49) (JDE.args (Jc JKV [.v x,.v l,.v y,.i a0,.i a1,.b tr,.b op,.b cl,.b en,.b mo,.i la0,.i la1,.i la2,.i er])) (JDE.memo (Jc JKV [.v x,.v l,.v y,.i a0,.i a1,.b tr,.b op,.b cl,.b en,.b mo,.i la0,.i la1,.i la2,.i er]) [C,O]) JDE.n (SV.one (Ci (JJ6 x l y a0 a1 tr))) ((JvL x l y a0 a1 tr op cl en mo la0 la1 la2 er C O)) :=
  Runs.of1 (ps := (JBp x l y a0 a1 tr C O)) (by kernel_rfl) hNeeds
def JLu:List Gm → Qr → Option CRes
  | [.v x,.v l,.v y,.i a0,.i a1,.b tr,.b op,.b cl,.b en,.b mo,.i la0,.i la1,.i la2,.i er],[C,O] => some ⟨SV.one (Ci (JJ6 x l y a0 a1 tr)),
 (JvL x l y a0 a1 tr op cl en mo la0 la1 la2 er C O),[C.length ≤ 1000,O.length ≤ 800000],[],19996⟩
  | _,_ => none
theorem Joc:Qk Tryz.prog 49 (Z9 JKV JDE JLu) := by
  refine Qd (JD JVd 49) fun ps ls r hr hn _ => ?_
  unfold JLu at hr
  split at hr
  · cases hr; exact ⟨_,JgJ _ _ _ _ _ _ _ _ _ _ _ _ _ _ _ _ (JhZ (by exact hn)),fun _ => rfl⟩
  · cases hr
def JVf:List (Nat × JW) := (49,Z9 JKV JDE JLu) :: Jis
theorem JNV:Known Tryz.prog (JB JVf) Zh := J7 JVd Joc
theorem chS {l y:List GC} {a0 a1 u w:Int} {tm tr:Bool} {C O:LL}:(Zt u w tm l y a0 a1 tr O).length ≤ O.length + C.length + 3 := by have := (Yw u w tm l y a0 a1 tr O).2; omega
theorem chO {C O:LL}:O.length ≤ O.length + C.length + 3 := by omega
theorem chR {l:List GC} {a0 a1:Int} {C O A:LL} (h:A.length ≤ O.length + 1):(QY l a0 a1 C A).length ≤ O.length + C.length + 3 := by have := zC l a0 a1 C A; omega
theorem chJ {it l l':List GC} {u w a0 a1 b0 b1:Int} {ou:Bool} {C O A:LL} (h:A.length ≤ O.length + 1):(Wl it u w ou l' b0 b1 (QY l a0 a1 C A)).length ≤ O.length + C.length + 3 := by
  have := zC l a0 a1 C A
  have := (Jhg it u w ou l' b0 b1 (QY l a0 a1 C A)).2
  omega
theorem chL {it l l':List GC} {u w lo hi a0 a1 b0 b1:Int} {al:Bool} {C O A:LL} (h:A.length ≤ O.length + 1):(Zu it u w lo hi al l' b0 b1 (QY l a0 a1 C A)).length ≤ O.length + C.length + 3 := by
  have := zC l a0 a1 C A
  have := (Wg it u w lo hi al l' b0 b1 (QY l a0 a1 C A)).2
  omega
theorem JdK (x l:List GC) (C O:LL):(JGB x l C O).length ≤ O.length + C.length + 3 := by
  unfold JGB
  repeat' first | exact chO | exact chR (Wg ..).2 | refine Wz ?_ ?_
theorem Jgt (x l y:List GC) (a0 a1:Int) (tr:Bool) (C O:LL):(JDZ x l y a0 a1 tr C O).length ≤ O.length + C.length + 3 := by
  unfold JDZ
  repeat' first | exact chO | exact chS | exact chR (Nat.le_succ _) | exact chR (Yw ..).2 | exact chJ (Nat.le_succ _) | exact chJ (Yw ..).2 | refine Wz ?_ ?_
theorem Jaz (x l y:List GC) (a0 a1:Int) (tr:Bool) (C O:LL):(JCE x l y a0 a1 tr C O).length ≤ O.length + C.length + 3 := by
  unfold JCE
  repeat' first | exact chO | exact chS | exact chL (Nat.le_succ _) | exact chL (Yw ..).2 | refine Wz ?_ ?_
def JEo:Tpl := ⟨[.one (.ptr 0 0),.agg pI],Y3,62⟩
def JOf:List GK := [.v Jy,.v Jy,.v Jy,.i,.i,.b,.b,.b,.b,.b,.i,.i,.i,.i]
def Kp (x l:List GC) := xb x 13 || !(J3 (xi l 8) (xi x 2) (xi x 3) (xi x 4) == J3 (xi l 8) (xi x 5) (xi x 6) (xi x 7) && J4 (xi l 8) (xi x 2) (xi x 3) (xi x 4) == J4 (xi l 8) (xi x 5) (xi x 6) (xi x 7))
section
variable (x l y:List GC) (q0:Nat) (q1 q2 a0 a1:Int) (tr:Bool) (C:LL)
def jG:Int:= bif xi x 0 == 1 || xi x 0 == 11 || xi x 0 == 14 then 13 else bif J5 (xi x 0) && (xi x 8 != xi l 8 || xi x 16 != xi l 16 || xi x 17 != xi l 17) then 13 else bif !J5 (xi x 0) || !(Kp x l) then bif Int.ofNat C.length == 8 then 10 else 0 else bif xi y 0 == 0 then JOt (J2 x) (J2 l) else JLy (J2 x) (J2 l) (J2 y) a0 a1 tr
def ZF:Int:= bif xi x 0 == 1 || xi x 0 == 11 || xi x 0 == 14 then xi y q0 else bif J5 (xi x 0) && (xi x 8 != xi l 8 || xi x 16 != xi l 16 || xi x 17 != xi l 17) then xi y q0 else bif !J5 (xi x 0) || !(Kp x l) then xi y q0 else bif xi y 0 == 0 then q1 else q2
def JEx:Int:= ZF x l y 0 (JVJ (J2 x) (J2 l) (J2 y)) (JUY (J2 x) (J2 l) (J2 y) a0 a1 tr)
def JG8:Int:= ZF x l y 1 (JZ4 (J2 x) (J2 l) (J2 y)) (JUe (J2 x) (J2 l) (J2 y) a0 a1 tr)
def JG9:Int:= ZF x l y 2 (JXG (J2 x) (J2 l) (J2 y)) (JUy (J2 x) (J2 l) (J2 y) a0 a1 tr)
def JGF:Int:= ZF x l y 3 (JYu (J2 x) (J2 l) (J2 y)) (JV7 (J2 x) (J2 l) (J2 y) a0 a1 tr)
def JEz:Int:= ZF x l y 4 (JVs (J2 x) (J2 l) (J2 y)) (JUW (J2 x) (J2 l) (J2 y) a0 a1 tr)
def JFw:Int:= ZF x l y 5 (JXR (J2 x) (J2 l) (J2 y)) (JUa (J2 x) (J2 l) (J2 y) a0 a1 tr)
def JGV:Int:= ZF x l y 6 (JW8 (J2 x) (J2 l) (J2 y)) (JUm (J2 x) (J2 l) (J2 y) a0 a1 tr)
def JEt:Int:= ZF x l y 7 (JZz (J2 x) (J2 l) (J2 y)) (JUs (J2 x) (J2 l) (J2 y) a0 a1 tr)
def JGU:Int:= ZF x l y 8 (JaK (J2 x) (J2 l) (J2 y)) (JVC (J2 x) (J2 l) (J2 y) a0 a1 tr)
def JF1:Int:= ZF x l y 9 (JWX (J2 x) (J2 l) (J2 y)) (JV0 (J2 x) (J2 l) (J2 y) a0 a1 tr)
def JFT:Int:= ZF x l y 10 (JYy (J2 x) (J2 l) (J2 y)) (JUg (J2 x) (J2 l) (J2 y) a0 a1 tr)
def JFY:Int:= ZF x l y 11 (JZa (J2 x) (J2 l) (J2 y)) (JUl (J2 x) (J2 l) (J2 y) a0 a1 tr)
def JF0:Int:= ZF x l y 12 (JZH (J2 x) (J2 l) (J2 y)) (JUP (J2 x) (J2 l) (J2 y) a0 a1 tr)
end
section
variable (x l y:List GC) (a0 a1:Int) (tr:Bool) (C O:LL) (q0:Nat) (q1 q2:Bool)
def JCa:Bool:= bif xi x 0 == 1 || xi x 0 == 11 || xi x 0 == 14 then xb y q0 else bif J5 (xi x 0) && (xi x 8 != xi l 8 || xi x 16 != xi l 16 || xi x 17 != xi l 17) then xb y q0 else bif !J5 (xi x 0) || !(Kp x l) then xb y q0 else bif xi y 0 == 0 then q1 else q2
def JFF:Bool:= JCa x l y 13 (JY8 (J2 x) (J2 l) (J2 y)) (JV8 (J2 x) (J2 l) (J2 y) a0 a1 tr)
def JFC:Int:= ZF x l y 14 (Jag (J2 x) (J2 l) (J2 y)) (JUh (J2 x) (J2 l) (J2 y) a0 a1 tr)
def JFK:Bool:= JCa x l y 15 (Jaf (J2 x) (J2 l) (J2 y)) (JUX (J2 x) (J2 l) (J2 y) a0 a1 tr)
def JEl:Int:= ZF x l y 16 (JYM (J2 x) (J2 l) (J2 y)) (JUS (J2 x) (J2 l) (J2 y) a0 a1 tr)
def JEq:Int:= ZF x l y 17 (Ja9 (J2 x) (J2 l) (J2 y)) (JV2 (J2 x) (J2 l) (J2 y) a0 a1 tr)
def JEn:Int:= ZF x l y 18 (JZi (J2 x) (J2 l) (J2 y)) (JVB (J2 x) (J2 l) (J2 y) a0 a1 tr)
def JFX:Int:= ZF x l y 19 (JVx (J2 x) (J2 l) (J2 y)) (JUn (J2 x) (J2 l) (J2 y) a0 a1 tr)
def JGT:Int:= ZF x l y 20 (JZR (J2 x) (J2 l) (J2 y)) (JVE (J2 x) (J2 l) (J2 y) a0 a1 tr)
def JFR:Bool:= JCa x l y 21 (JZo (J2 x) (J2 l) (J2 y)) (JVF (J2 x) (J2 l) (J2 y) a0 a1 tr)
def JFG:Int:= bif xi x 0 == 1 || xi x 0 == 11 || xi x 0 == 14 then a0 else bif J5 (xi x 0) && (xi x 8 != xi l 8 || xi x 16 != xi l 16 || xi x 17 != xi l 17) then a0 else bif !J5 (xi x 0) || !(Kp x l) then a0 else bif xi y 0 == 0 then JYG (J2 x) (J2 l) a0 else JUj (J2 x) (J2 l) (J2 y) a0 a1 tr
def JGS:Int:= bif xi x 0 == 1 || xi x 0 == 11 || xi x 0 == 14 then a1 else bif J5 (xi x 0) && (xi x 8 != xi l 8 || xi x 16 != xi l 16 || xi x 17 != xi l 17) then a1 else bif !J5 (xi x 0) || !(Kp x l) then a1 else bif xi y 0 == 0 then JYt (J2 x) (J2 l) a1 else JUv (J2 x) (J2 l) (J2 y) a0 a1 tr
def JF4:Bool:= bif xi x 0 == 1 || xi x 0 == 11 || xi x 0 == 14 then tr else bif J5 (xi x 0) && (xi x 8 != xi l 8 || xi x 16 != xi l 16 || xi x 17 != xi l 17) then tr else bif !J5 (xi x 0) || !(Kp x l) then tr else bif xi y 0 == 0 then tr else JV9 (J2 x) (J2 l) (J2 y) a0 a1 tr
def YG:LL:= bif xi x 0 == 1 || xi x 0 == 11 || xi x 0 == 14 then O else bif J5 (xi x 0) && (xi x 8 != xi l 8 || xi x 16 != xi l 16 || xi x 17 != xi l 17) then O else bif !J5 (xi x 0) || !(Kp x l) then O else bif xi y 0 == 0 then JGB (J2 x) (J2 l) C O else JDZ (J2 x) (J2 l) (J2 y) a0 a1 tr C O
def zU:LL:= bif xi x 0 == 1 || xi x 0 == 11 || xi x 0 == 14 then C else bif J5 (xi x 0) && (xi x 8 != xi l 8 || xi x 16 != xi l 16 || xi x 17 != xi l 17) then C else bif !J5 (xi x 0) || !(Kp x l) then bif Int.ofNat C.length == 8 then C else C ++ [JI2 x] else bif xi y 0 == 0 then JIS (J2 x) (J2 l) C else JKh (J2 x) (J2 l) (J2 y) a0 a1 tr C
def W7:Prop:= (xi x 0 == 1 || xi x 0 == 11 || xi x 0 == 14) = false
def WB:Prop:= (J5 (xi x 0) && (xi x 8 != xi l 8 || xi x 16 != xi l 16 || xi x 17 != xi l 17)) = false
def WD:Prop:= (!J5 (xi x 0) || !(Kp x l)) = false
def W6:Prop:= C.length ≤ 1000 ∧ O.length ≤ 800000
def JDc:List Prop:= [W7 x → WB x l → ((!J5 (xi x 0) || !(Kp x l)) = true → (Int.ofNat C.length == 8) = false → (C.length + 1) * 176 ≤ 140737488355328 ∧ C.length + 1 ≤ 9223372036854775807) ∧ (WD x l → (xi y 0 == 0) = true → W6 C O),W7 x → WB x l → WD x l → (xi y 0 == 0) = false → W6 C O]
end
theorem JlM {x:List GC} {l:List GC} {y:List GC} {C:LL} {O:LL} (hW:∀ q ∈ ([C.length ≤ 1000,O.length ≤ 800000]:List Prop),q):∀ q ∈ (JDc x l y C O),q := by
  simp only [awc,awn,and_true] at hW
  unfold JDc
  simp only [awc,awn,and_true]
  obtain ⟨h1,h2⟩ := hW
  exact ⟨fun _ _ => ⟨fun _ _ => ⟨by omega,by omega⟩,fun _ _ => ⟨h1,h2⟩⟩,fun _ _ _ _ => ⟨h1,h2⟩⟩
def JA9 := jH
def JsY (l x y:List GC) (a0 a1:Int) (tr op cl en mo:Bool) (la0 la1 la2 er:Int) (C O:LL) := [(0,Obj.blk 66 [(3,Ci (xi l 0)),(4,Ci (xi l 1)),(5,Ci (xi l 2)),(6,Ci (xi l 3)),(7,Ci (xi l 4)),(8,Ci (xi l 5)),(9,Ci (xi l 6)),(10,Ci (xi l 7)),(11,Ci (xi l 8)),(12,Ci (xi l 9)),(13,Ci (xi l 10)),(14,Ci (xi l 11)),(15,Ci (xi l 12)),(16,Cb (xb l 13)),(17,Ci (xi l 14)),(18,Cb (xb l 15)),(19,Ci (xi l 16)),(20,Ci (xi l 17)),(21,Ci (xi l 18)),(22,Ci (xi l 19)),(23,Ci (xi l 20)),(24,Cb (xb l 21)),(79778,Ci (JEx x l y a0 a1 tr)),(79779,Ci (JG8 x l y a0 a1 tr)),(79780,Ci (JG9 x l y a0 a1 tr)),(79781,Ci (JGF x l y a0 a1 tr)),(79782,Ci (JEz x l y a0 a1 tr)),(79783,Ci (JFw x l y a0 a1 tr)),(79784,Ci (JGV x l y a0 a1 tr)),(79785,Ci (JEt x l y a0 a1 tr)),(79786,Ci (JGU x l y a0 a1 tr)),(79787,Ci (JF1 x l y a0 a1 tr)),(79788,Ci (JFT x l y a0 a1 tr)),(79789,Ci (JFY x l y a0 a1 tr)),(79790,Ci (JF0 x l y a0 a1 tr)),(79791,Cb (JFF x l y a0 a1 tr)),(79792,Ci (JFC x l y a0 a1 tr)),(79793,Cb (JFK x l y a0 a1 tr)),(79794,Ci (JEl x l y a0 a1 tr)),(79795,Ci (JEq x l y a0 a1 tr)),(79796,Ci (JEn x l y a0 a1 tr)),(79797,Ci (JFX x l y a0 a1 tr)),(79798,Ci (JGT x l y a0 a1 tr)),(79799,Cb (JFR x l y a0 a1 tr)),(79800,Ci (JFG x l y a0 a1 tr)),(79801,Ci (JGS x l y a0 a1 tr)),(79802,Cb (JF4 x l y a0 a1 tr)),(79772,SC.wh 79770),(51,Cb op),(52,Cb cl),(53,Cb en),(54,Cb mo),(55,Ci la0),(56,Ci la1),(57,Ci la2),(79775,SC.wh 79773),(59,Ci er)]),(79773,Obj.row false 40 22 (RowC.lst 79777 JA9 (YG x l y a0 a1 tr C O))),(79770,Obj.row false 40 22 (RowC.lst 79776 JA9 (zU x l y a0 a1 tr C)))]
theorem Jjj (x l y:List GC) (a0 a1:Int) (tr op cl en mo:Bool) (la0 la1 la2 er:Int) (C O:LL) (hNeeds:∀ pN ∈ (JDc x l y C O),pN):Runs (Js (JB JVf) Zh 50) (JEo.args (Jc JOf [.v x,.v l,.v y,.i a0,.i a1,.b tr,.b op,.b cl,.b en,.b mo,.i la0,.i la1,.i la2,.i er])) (JEo.memo (Jc JOf [.v x,.v l,.v y,.i a0,.i a1,.b tr,.b op,.b cl,.b en,.b mo,.i la0,.i la1,.i la2,.i er]) [C,O]) JEo.n (SV.one (Ci (jG x l y a0 a1 tr C))) ((JsY l x y a0 a1 tr op cl en mo la0 la1 la2 er C O)) :=
  Runs.of1 (ps := (JDc x l y C O)) (by kernel_rfl) hNeeds
def JQK:List Gm → Qr → Option CRes
  | [.v x,.v l,.v y,.i a0,.i a1,.b tr,.b op,.b cl,.b en,.b mo,.i la0,.i la1,.i la2,.i er],[C,O] => some ⟨SV.one (Ci (jG x l y a0 a1 tr C)),
 (JsY l x y a0 a1 tr op cl en mo la0 la1 la2 er C O),[C.length ≤ 1000,O.length ≤ 800000],[],79803⟩
  | _,_ => none
theorem Jrk:Qk Tryz.prog 50 (Z9 JOf JEo JQK) := by
  refine Qd (JD JNV 50) fun ps ls r hr hn _ => ?_
  unfold JQK at hr
  split at hr
  · cases hr; exact ⟨_,Jjj _ _ _ _ _ _ _ _ _ _ _ _ _ _ _ _ (JlM (by exact hn)),fun _ => rfl⟩
  · cases hr
def Jdn:List (Nat × JW) := (50,Z9 JOf JEo JQK) :: JVf
theorem JTo:Known Tryz.prog (JB Jdn) Zh := J7 JNV Jrk
theorem Jcm (x l y:List GC) (a0 a1:Int) (tr:Bool) (C O:LL):(YG x l y a0 a1 tr C O).length ≤ O.length + C.length + 3 := by
  unfold YG
  repeat' first | exact chO | exact JdK .. | exact Jgt .. | refine Wz ?_ ?_
theorem Jel (x l:List GC) (C:LL):(JIS x l C).length ≤ C.length := by
  unfold JIS
  repeat' first | exact Nat.le_refl _ | exact Nat.zero_le _ | refine Wz ?_ ?_
theorem JiE (x l y:List GC) (a0 a1:Int) (tr:Bool) (C:LL):(JKh x l y a0 a1 tr C).length ≤ C.length := by
  unfold JKh
  repeat' first | exact Nat.le_refl _ | exact Nat.zero_le _ | refine Wz ?_ ?_
theorem chC {C:LL} {r:List Int} (h:C.length ≤ 8):(bif Int.ofNat C.length == 8 then C else C ++ [r]).length ≤ 8 := by
  cases e:(Int.ofNat C.length == 8)
  · have:C.length ≠ 8 := fun h => by rw [h] at e; exact absurd e (by decide)
    simp only [cond_false,List.length_append,List.length_cons,List.length_nil]; omega
  · exact h
theorem JfW (x l y:List GC) (a0 a1:Int) (tr:Bool) (C:LL) (h:C.length ≤ 8):(zU x l y a0 a1 tr C).length ≤ 8 := by
  unfold zU
  repeat' first | exact h | exact Nat.le_trans (Jel ..) h | exact Nat.le_trans (JiE ..) h | exact chC h | refine Wz ?_ ?_
def JJE:Tpl := ⟨[.one (.ptr 0 0),.agg pI],Y3,62⟩
def JUU:List GK := [.v Jy,.v Jy,.v Jy,.i,.i,.b,.b,.b,.b,.b,.i,.i,.i,.i]
section
variable (x l y:List GC) (a0 a1:Int) (tr op cl en mo:Bool) (la0 la1 la2:Int) (q0:Nat) (q1 q2:Int) (C:LL)
def Kr:Int:= bif cl then 13 else bif !Qc (J2 x) || en || J5 (xi x 0) && mo && !(xi x 2 == la0 && (xi x 3 == la1 && xi x 4 == la2)) then 1 else bif !op && J5 (xi x 0) && xi x 16 != 0 then JNq (J2 x) else bif !op then 0 else bif J5 (xi x 0) && xi x 16 == 0 then JJ6 (J2 x) (J2 l) (J2 y) a0 a1 tr else jG (J2 x) (J2 l) (J2 y) a0 a1 tr C
def ZV:Int:= bif cl then xi l q0 else bif !Qc (J2 x) || en || J5 (xi x 0) && mo && !(xi x 2 == la0 && (xi x 3 == la1 && xi x 4 == la2)) then xi l q0 else bif !op && J5 (xi x 0) && xi x 16 != 0 then q1 else bif !op then xi l q0 else bif J5 (xi x 0) && xi x 16 == 0 then q2 else xi l q0
def JHY:Int:= ZV x l op cl en mo la0 la1 la2 0 (JdX (J2 x) (J2 l)) (JZq (J2 x) (J2 l) (J2 y) a0 a1 tr)
def JGg:Int:= ZV x l op cl en mo la0 la1 la2 1 (Jer (J2 x) (J2 l)) (JWU (J2 x) (J2 l) (J2 y) a0 a1 tr)
def JHT:Int:= ZV x l op cl en mo la0 la1 la2 2 (JeK (J2 x) (J2 l)) (JY9 (J2 x) (J2 l) (J2 y) a0 a1 tr)
def JHn:Int:= ZV x l op cl en mo la0 la1 la2 3 (Jfn (J2 x) (J2 l)) (JZZ (J2 x) (J2 l) (J2 y) a0 a1 tr)
def JHx:Int:= ZV x l op cl en mo la0 la1 la2 4 (Jfh (J2 x) (J2 l)) (JaQ (J2 x) (J2 l) (J2 y) a0 a1 tr)
def JHE:Int:= ZV x l op cl en mo la0 la1 la2 5 (Jef (J2 x) (J2 l)) (JYN (J2 x) (J2 l) (J2 y) a0 a1 tr)
def JHM:Int:= ZV x l op cl en mo la0 la1 la2 6 (Jd7 (J2 x) (J2 l)) (JWr (J2 x) (J2 l) (J2 y) a0 a1 tr)
def JHq:Int:= ZV x l op cl en mo la0 la1 la2 7 (Jev (J2 x) (J2 l)) (JZM (J2 x) (J2 l) (J2 y) a0 a1 tr)
def JHH:Int:= ZV x l op cl en mo la0 la1 la2 8 (JdD (J2 x) (J2 l)) (JYq (J2 x) (J2 l) (J2 y) a0 a1 tr)
def JBa:Int:= ZV x l op cl en mo la0 la1 la2 9 (JYX (J2 x) (J2 l)) (JRl (J2 x) (J2 l) (J2 y) a0 a1 tr)
def JAH:Int:= ZV x l op cl en mo la0 la1 la2 10 (JX9 (J2 x) (J2 l)) (JRc (J2 x) (J2 l) (J2 y) a0 a1 tr)
def JBe:Int:= ZV x l op cl en mo la0 la1 la2 11 (JYp (J2 x) (J2 l)) (JRb (J2 x) (J2 l) (J2 y) a0 a1 tr)
def JAj:Int:= ZV x l op cl en mo la0 la1 la2 12 (JXq (J2 x) (J2 l)) (JR1 (J2 x) (J2 l) (J2 y) a0 a1 tr)
end
section
variable (x l y:List GC) (a0 a1:Int) (tr op cl en mo:Bool) (la0 la1 la2:Int) (q0:Nat) (q1 q2:Bool)
def jw:Bool:= bif cl then xb l q0 else bif !Qc (J2 x) || en || J5 (xi x 0) && mo && !(xi x 2 == la0 && (xi x 3 == la1 && xi x 4 == la2)) then xb l q0 else bif !op && J5 (xi x 0) && xi x 16 != 0 then q1 else bif !op then xb l q0 else bif J5 (xi x 0) && xi x 16 == 0 then q2 else xb l q0
def JBb:Bool:= jw x l op cl en mo la0 la1 la2 13 (JYs (J2 x) (J2 l)) (JPb (J2 x) (J2 l) (J2 y) a0 a1 tr)
def JBh:Int:= ZV x l op cl en mo la0 la1 la2 14 (JaE (J2 x) (J2 l)) (JQT (J2 x) (J2 l) (J2 y) a0 a1 tr)
def JC0:Bool:= jw x l op cl en mo la0 la1 la2 15 (JX6 (J2 x) (J2 l)) (JR0 (J2 x) (J2 l) (J2 y) a0 a1 tr)
def JBH:Int:= ZV x l op cl en mo la0 la1 la2 16 (JVm (J2 x) (J2 l)) (JSH (J2 x) (J2 l) (J2 y) a0 a1 tr)
def JBD:Int:= ZV x l op cl en mo la0 la1 la2 17 (JXD (J2 x) (J2 l)) (JRY (J2 x) (J2 l) (J2 y) a0 a1 tr)
def JAk:Int:= ZV x l op cl en mo la0 la1 la2 18 (JXs (J2 x) (J2 l)) (JS4 (J2 x) (J2 l) (J2 y) a0 a1 tr)
def JAV:Int:= ZV x l op cl en mo la0 la1 la2 19 (JZc (J2 x) (J2 l)) (JRp (J2 x) (J2 l) (J2 y) a0 a1 tr)
def JAo:Int:= ZV x l op cl en mo la0 la1 la2 20 (JaB (J2 x) (J2 l)) (JSR (J2 x) (J2 l) (J2 y) a0 a1 tr)
def JAS:Bool:= jw x l op cl en mo la0 la1 la2 21 (JaY (J2 x) (J2 l)) (JSQ (J2 x) (J2 l) (J2 y) a0 a1 tr)
end
section
variable (x l y:List GC) (a0 a1:Int) (tr op cl en mo:Bool) (la0 la1 la2:Int) (q0:Nat) (q1 q2 q3:Int)
def ZU:Int:= bif cl then xi y q0 else bif !Qc (J2 x) || en || J5 (xi x 0) && mo && !(xi x 2 == la0 && (xi x 3 == la1 && xi x 4 == la2)) then xi y q0 else bif !op && J5 (xi x 0) && xi x 16 != 0 then q1 else bif !op then xi y q0 else bif J5 (xi x 0) && xi x 16 == 0 then q2 else q3
def JB6:Int:= ZU x y op cl en mo la0 la1 la2 0 (Jal (J2 x) (J2 y)) (JPS (J2 x) (J2 l) (J2 y) a0 a1 tr) (JEx (J2 x) (J2 l) (J2 y) a0 a1 tr)
def JBV:Int:= ZU x y op cl en mo la0 la1 la2 1 (JVk (J2 x) (J2 y)) (JQl (J2 x) (J2 l) (J2 y) a0 a1 tr) (JG8 (J2 x) (J2 l) (J2 y) a0 a1 tr)
def JAd:Int:= ZU x y op cl en mo la0 la1 la2 2 (JW5 (J2 x) (J2 y)) (JQ7 (J2 x) (J2 l) (J2 y) a0 a1 tr) (JG9 (J2 x) (J2 l) (J2 y) a0 a1 tr)
def JBR:Int:= ZU x y op cl en mo la0 la1 la2 3 (JaX (J2 x) (J2 y)) (JSA (J2 x) (J2 l) (J2 y) a0 a1 tr) (JGF (J2 x) (J2 l) (J2 y) a0 a1 tr)
def JBl:Int:= ZU x y op cl en mo la0 la1 la2 4 (JVc (J2 x) (J2 y)) (JPO (J2 x) (J2 l) (J2 y) a0 a1 tr) (JEz (J2 x) (J2 l) (J2 y) a0 a1 tr)
def JAg:Int:= ZU x y op cl en mo la0 la1 la2 5 (JYv (J2 x) (J2 y)) (JR5 (J2 x) (J2 l) (J2 y) a0 a1 tr) (JFw (J2 x) (J2 l) (J2 y) a0 a1 tr)
def JB0:Int:= ZU x y op cl en mo la0 la1 la2 6 (JVa (J2 x) (J2 y)) (JQa (J2 x) (J2 l) (J2 y) a0 a1 tr) (JGV (J2 x) (J2 l) (J2 y) a0 a1 tr)
def JAb:Int:= ZU x y op cl en mo la0 la1 la2 7 (JW6 (J2 x) (J2 y)) (JRB (J2 x) (J2 l) (J2 y) a0 a1 tr) (JEt (J2 x) (J2 l) (J2 y) a0 a1 tr)
def JBM:Int:= ZU x y op cl en mo la0 la1 la2 8 (JZX (J2 x) (J2 y)) (JRq (J2 x) (J2 l) (J2 y) a0 a1 tr) (JGU (J2 x) (J2 l) (J2 y) a0 a1 tr)
def JBq:Int:= ZU x y op cl en mo la0 la1 la2 9 (JXx (J2 x) (J2 y)) (JPl (J2 x) (J2 l) (J2 y) a0 a1 tr) (JF1 (J2 x) (J2 l) (J2 y) a0 a1 tr)
def JAx:Int:= ZU x y op cl en mo la0 la1 la2 10 (JWA (J2 x) (J2 y)) (JSY (J2 x) (J2 l) (J2 y) a0 a1 tr) (JFT (J2 x) (J2 l) (J2 y) a0 a1 tr)
def JAJ:Int:= ZU x y op cl en mo la0 la1 la2 11 (JZK (J2 x) (J2 y)) (JPV (J2 x) (J2 l) (J2 y) a0 a1 tr) (JFY (J2 x) (J2 l) (J2 y) a0 a1 tr)
def JBC:Int:= ZU x y op cl en mo la0 la1 la2 12 (JVT (J2 x) (J2 y)) (JQM (J2 x) (J2 l) (J2 y) a0 a1 tr) (JF0 (J2 x) (J2 l) (J2 y) a0 a1 tr)
end
section
variable (x l y:List GC) (a0 a1:Int) (tr op cl en mo:Bool) (la0 la1 la2:Int) (C O:LL) (q0:Nat) (q1 q2 q3:Bool)
def jx:Bool:= bif cl then xb y q0 else bif !Qc (J2 x) || en || J5 (xi x 0) && mo && !(xi x 2 == la0 && (xi x 3 == la1 && xi x 4 == la2)) then xb y q0 else bif !op && J5 (xi x 0) && xi x 16 != 0 then q1 else bif !op then xb y q0 else bif J5 (xi x 0) && xi x 16 == 0 then q2 else q3
def JAL:Bool:= jx x y op cl en mo la0 la1 la2 13 (JXO (J2 x) (J2 y)) (JQ4 (J2 x) (J2 l) (J2 y) a0 a1 tr) (JFF (J2 x) (J2 l) (J2 y) a0 a1 tr)
def JBY:Int:= ZU x y op cl en mo la0 la1 la2 14 (JVy (J2 x) (J2 y)) (JQP (J2 x) (J2 l) (J2 y) a0 a1 tr) (JFC (J2 x) (J2 l) (J2 y) a0 a1 tr)
def JAN:Bool:= jx x y op cl en mo la0 la1 la2 15 (JXA (J2 x) (J2 y)) (JPi (J2 x) (J2 l) (J2 y) a0 a1 tr) (JFK (J2 x) (J2 l) (J2 y) a0 a1 tr)
def JB2:Int:= ZU x y op cl en mo la0 la1 la2 16 (JVP (J2 x) (J2 y)) (JRV (J2 x) (J2 l) (J2 y) a0 a1 tr) (JEl (J2 x) (J2 l) (J2 y) a0 a1 tr)
def JAp:Int:= ZU x y op cl en mo la0 la1 la2 17 (JX3 (J2 x) (J2 y)) (JSM (J2 x) (J2 l) (J2 y) a0 a1 tr) (JEq (J2 x) (J2 l) (J2 y) a0 a1 tr)
def JBU:Int:= ZU x y op cl en mo la0 la1 la2 18 (JWC (J2 x) (J2 y)) (JRU (J2 x) (J2 l) (J2 y) a0 a1 tr) (JEn (J2 x) (J2 l) (J2 y) a0 a1 tr)
def JBI:Int:= ZU x y op cl en mo la0 la1 la2 19 (JYV (J2 x) (J2 y)) (JQG (J2 x) (J2 l) (J2 y) a0 a1 tr) (JFX (J2 x) (J2 l) (J2 y) a0 a1 tr)
def JBo:Int:= ZU x y op cl en mo la0 la1 la2 20 (JXE (J2 x) (J2 y)) (JS9 (J2 x) (J2 l) (J2 y) a0 a1 tr) (JGT (J2 x) (J2 l) (J2 y) a0 a1 tr)
def JBj:Bool:= jx x y op cl en mo la0 la1 la2 21 (JWF (J2 x) (J2 y)) (JQC (J2 x) (J2 l) (J2 y) a0 a1 tr) (JFR (J2 x) (J2 l) (J2 y) a0 a1 tr)
def JBn:Int:= bif cl then a0 else bif !Qc (J2 x) || en || J5 (xi x 0) && mo && !(xi x 2 == la0 && (xi x 3 == la1 && xi x 4 == la2)) then a0 else bif !op && J5 (xi x 0) && xi x 16 != 0 then JIP (J2 x) a0 else bif !op then a0 else bif J5 (xi x 0) && xi x 16 == 0 then JR8 (J2 x) (J2 l) (J2 y) a0 a1 tr else JFG (J2 x) (J2 l) (J2 y) a0 a1 tr
def JBA:Int:= bif cl then a1 else bif !Qc (J2 x) || en || J5 (xi x 0) && mo && !(xi x 2 == la0 && (xi x 3 == la1 && xi x 4 == la2)) then a1 else bif !op && J5 (xi x 0) && xi x 16 != 0 then JIP (J2 x) a1 else bif !op then a1 else bif J5 (xi x 0) && xi x 16 == 0 then JQp (J2 x) (J2 l) (J2 y) a0 a1 tr else JGS (J2 x) (J2 l) (J2 y) a0 a1 tr
def JBG:Bool:= bif cl then tr else bif !Qc (J2 x) || en || J5 (xi x 0) && mo && !(xi x 2 == la0 && (xi x 3 == la1 && xi x 4 == la2)) then tr else bif !op && J5 (xi x 0) && xi x 16 != 0 then JaW (J2 x) tr else bif !op then tr else bif J5 (xi x 0) && xi x 16 == 0 then JS3 (J2 x) (J2 l) (J2 y) a0 a1 tr else JF4 (J2 x) (J2 l) (J2 y) a0 a1 tr
def JAm:Bool:= bif cl then op else bif !Qc (J2 x) || en || J5 (xi x 0) && mo && !(xi x 2 == la0 && (xi x 3 == la1 && xi x 4 == la2)) then op else bif !op && J5 (xi x 0) && xi x 16 != 0 then JY6 (J2 x) op else bif !op then op else bif J5 (xi x 0) && xi x 16 == 0 then JPu (J2 x) (J2 l) (J2 y) a0 a1 tr op else op
def JBc:Bool:= bif cl then en else bif !Qc (J2 x) || en || J5 (xi x 0) && mo && !(xi x 2 == la0 && (xi x 3 == la1 && xi x 4 == la2)) then en else xi x 0 == 14
def JAM:Bool:= bif cl then mo else bif !Qc (J2 x) || en || J5 (xi x 0) && mo && !(xi x 2 == la0 && (xi x 3 == la1 && xi x 4 == la2)) then mo else J5 (xi x 0) || mo
def JBS:Int:= bif cl then la0 else bif !Qc (J2 x) || en || J5 (xi x 0) && mo && !(xi x 2 == la0 && (xi x 3 == la1 && xi x 4 == la2)) then la0 else bif J5 (xi x 0) then xi x 5 else la0
def JBB:Int:= bif cl then la1 else bif !Qc (J2 x) || en || J5 (xi x 0) && mo && !(xi x 2 == la0 && (xi x 3 == la1 && xi x 4 == la2)) then la1 else bif J5 (xi x 0) then xi x 6 else la1
def JAQ:Int:= bif cl then la2 else bif !Qc (J2 x) || en || J5 (xi x 0) && mo && !(xi x 2 == la0 && (xi x 3 == la1 && xi x 4 == la2)) then la2 else bif J5 (xi x 0) then xi x 7 else la2
def KL:LL:= bif cl then O else bif !Qc (J2 x) || en || J5 (xi x 0) && mo && !(xi x 2 == la0 && (xi x 3 == la1 && xi x 4 == la2)) then O else bif !op && J5 (xi x 0) && xi x 16 != 0 then O else bif !op then O ++ [JI2 x] else bif J5 (xi x 0) && xi x 16 == 0 then JCE (J2 x) (J2 l) (J2 y) a0 a1 tr C O else YG (J2 x) (J2 l) (J2 y) a0 a1 tr C O
def j0:LL:= bif cl then C else bif !Qc (J2 x) || en || J5 (xi x 0) && mo && !(xi x 2 == la0 && (xi x 3 == la1 && xi x 4 == la2)) then C else bif !op && J5 (xi x 0) && xi x 16 != 0 then JJp (J2 x) C else bif !op then C else bif J5 (xi x 0) && xi x 16 == 0 then JGN (J2 x) (J2 l) (J2 y) a0 a1 tr C else zU (J2 x) (J2 l) (J2 y) a0 a1 tr C
def Kh:Prop:= (!op && J5 (xi x 0) && xi x 16 != 0) = false
def Ke:Prop:= C.length ≤ 1000 ∧ O.length ≤ 800000
def JHO:List Prop:= [cl = false → (!Qc (J2 x) || en || J5 (xi x 0) && mo && !(xi x 2 == la0 && (xi x 3 == la1 && xi x 4 == la2))) = false → (Kh x op → ((!op) = true → (O.length + 1) * 176 ≤ 140737488355328 ∧ O.length + 1 ≤ 9223372036854775807) ∧ ((!op) = false → (J5 (xi x 0) && xi x 16 == 0) = true → Ke C O)) ∧ (Kh x op → (!op) = false → (J5 (xi x 0) && xi x 16 == 0) = false → Ke C O)]
end
theorem Jok {x:List GC} {op:Bool} {cl:Bool} {en:Bool} {mo:Bool} {la0:Int} {la1:Int} {la2:Int} {C:LL} {O:LL} (hW:∀ q ∈ ([C.length ≤ 1000,O.length ≤ 800000]:List Prop),q):∀ q ∈ (JHO x op cl en mo la0 la1 la2 C O),q := by
  simp only [awc,awn,and_true] at hW
  unfold JHO
  simp only [awc,awn,and_true]
  obtain ⟨h1,h2⟩ := hW
  exact fun _ _ => ⟨fun _ => ⟨fun _ => ⟨by omega,by omega⟩,fun _ _ => ⟨h1,h2⟩⟩,fun _ _ _ => ⟨h1,h2⟩⟩
def Ju9 (x l y:List GC) (a0 a1:Int) (tr op cl en mo:Bool) (la0 la1 la2 er:Int) (C O:LL) := [(0,Obj.blk 66 [(102640,Ci (JHY x l y a0 a1 tr op cl en mo la0 la1 la2)),(102641,Ci (JGg x l y a0 a1 tr op cl en mo la0 la1 la2)),(102642,Ci (JHT x l y a0 a1 tr op cl en mo la0 la1 la2)),(102643,Ci (JHn x l y a0 a1 tr op cl en mo la0 la1 la2)),(102644,Ci (JHx x l y a0 a1 tr op cl en mo la0 la1 la2)),(102645,Ci (JHE x l y a0 a1 tr op cl en mo la0 la1 la2)),(102646,Ci (JHM x l y a0 a1 tr op cl en mo la0 la1 la2)),(102647,Ci (JHq x l y a0 a1 tr op cl en mo la0 la1 la2)),(102648,Ci (JHH x l y a0 a1 tr op cl en mo la0 la1 la2)),(102649,Ci (JBa x l y a0 a1 tr op cl en mo la0 la1 la2)),(102650,Ci (JAH x l y a0 a1 tr op cl en mo la0 la1 la2)),(102651,Ci (JBe x l y a0 a1 tr op cl en mo la0 la1 la2)),(102652,Ci (JAj x l y a0 a1 tr op cl en mo la0 la1 la2)),(102653,Cb (JBb x l y a0 a1 tr op cl en mo la0 la1 la2)),(102654,Ci (JBh x l y a0 a1 tr op cl en mo la0 la1 la2)),(102655,Cb (JC0 x l y a0 a1 tr op cl en mo la0 la1 la2)),(102656,Ci (JBH x l y a0 a1 tr op cl en mo la0 la1 la2)),(102657,Ci (JBD x l y a0 a1 tr op cl en mo la0 la1 la2)),(102658,Ci (JAk x l y a0 a1 tr op cl en mo la0 la1 la2)),(102659,Ci (JAV x l y a0 a1 tr op cl en mo la0 la1 la2)),(102660,Ci (JAo x l y a0 a1 tr op cl en mo la0 la1 la2)),(102661,Cb (JAS x l y a0 a1 tr op cl en mo la0 la1 la2)),(102662,Ci (JB6 x l y a0 a1 tr op cl en mo la0 la1 la2)),(102663,Ci (JBV x l y a0 a1 tr op cl en mo la0 la1 la2)),(102664,Ci (JAd x l y a0 a1 tr op cl en mo la0 la1 la2)),(102665,Ci (JBR x l y a0 a1 tr op cl en mo la0 la1 la2)),(102666,Ci (JBl x l y a0 a1 tr op cl en mo la0 la1 la2)),(102667,Ci (JAg x l y a0 a1 tr op cl en mo la0 la1 la2)),(102668,Ci (JB0 x l y a0 a1 tr op cl en mo la0 la1 la2)),(102669,Ci (JAb x l y a0 a1 tr op cl en mo la0 la1 la2)),(102670,Ci (JBM x l y a0 a1 tr op cl en mo la0 la1 la2)),(102671,Ci (JBq x l y a0 a1 tr op cl en mo la0 la1 la2)),(102672,Ci (JAx x l y a0 a1 tr op cl en mo la0 la1 la2)),(102673,Ci (JAJ x l y a0 a1 tr op cl en mo la0 la1 la2)),(102674,Ci (JBC x l y a0 a1 tr op cl en mo la0 la1 la2)),(102675,Cb (JAL x l y a0 a1 tr op cl en mo la0 la1 la2)),(102676,Ci (JBY x l y a0 a1 tr op cl en mo la0 la1 la2)),(102677,Cb (JAN x l y a0 a1 tr op cl en mo la0 la1 la2)),(102678,Ci (JB2 x l y a0 a1 tr op cl en mo la0 la1 la2)),(102679,Ci (JAp x l y a0 a1 tr op cl en mo la0 la1 la2)),(102680,Ci (JBU x l y a0 a1 tr op cl en mo la0 la1 la2)),(102681,Ci (JBI x l y a0 a1 tr op cl en mo la0 la1 la2)),(102682,Ci (JBo x l y a0 a1 tr op cl en mo la0 la1 la2)),(102683,Cb (JBj x l y a0 a1 tr op cl en mo la0 la1 la2)),(102684,Ci (JBn x l y a0 a1 tr op cl en mo la0 la1 la2)),(102685,Ci (JBA x l y a0 a1 tr op cl en mo la0 la1 la2)),(102686,Cb (JBG x l y a0 a1 tr op cl en mo la0 la1 la2)),(102634,SC.wh 102632),(102687,Cb (JAm x l y a0 a1 tr op cl en mo la0 la1 la2)),(52,SC.bool (SB.v cl)),(102688,Cb (JBc x cl en mo la0 la1 la2)),(102689,Cb (JAM x cl en mo la0 la1 la2)),(102690,Ci (JBS x cl en mo la0 la1 la2)),(102691,Ci (JBB x cl en mo la0 la1 la2)),(102692,Ci (JAQ x cl en mo la0 la1 la2)),(102637,SC.wh 102635),(59,Ci er)]),(102635,Obj.row false 40 22 (RowC.lst 102639 JA9 (KL x l y a0 a1 tr op cl en mo la0 la1 la2 C O))),(102632,Obj.row false 40 22 (RowC.lst 102638 JA9 (j0 x l y a0 a1 tr op cl en mo la0 la1 la2 C)))]
theorem Jol (x l y:List GC) (a0 a1:Int) (tr op cl en mo:Bool) (la0 la1 la2 er:Int) (C O:LL) (hNeeds:∀ pN ∈ (JHO x op cl en mo la0 la1 la2 C O),pN):Runs (Js (JB Jdn) Zh 35) (JJE.args (Jc JUU [.v x,.v l,.v y,.i a0,.i a1,.b tr,.b op,.b cl,.b en,.b mo,.i la0,.i la1,.i la2,.i er])) (JJE.memo (Jc JUU [.v x,.v l,.v y,.i a0,.i a1,.b tr,.b op,.b cl,.b en,.b mo,.i la0,.i la1,.i la2,.i er]) [C,O]) JJE.n (SV.one (Ci (Kr x l y a0 a1 tr op cl en mo la0 la1 la2 C))) ((Ju9 x l y a0 a1 tr op cl en mo la0 la1 la2 er C O)) :=
  Runs.of1 (ps := (JHO x op cl en mo la0 la1 la2 C O)) (by kernel_rfl) hNeeds
def JYj:List Gm → Qr → Option CRes
  | [.v x,.v l,.v y,.i a0,.i a1,.b tr,.b op,.b cl,.b en,.b mo,.i la0,.i la1,.i la2,.i er],[C,O] => some ⟨SV.one (Ci (Kr x l y a0 a1 tr op cl en mo la0 la1 la2 C)),
 (Ju9 x l y a0 a1 tr op cl en mo la0 la1 la2 er C O),[C.length ≤ 1000,O.length ≤ 800000],[],102693⟩
  | _,_ => none
theorem JuJ:Qk Tryz.prog 35 (Z9 JUU JJE JYj) := by
  refine Qd (JD JTo 35) fun ps ls r hr hn _ => ?_
  unfold JYj at hr
  split at hr
  · cases hr; exact ⟨_,Jol _ _ _ _ _ _ _ _ _ _ _ _ _ _ _ _ (Jok (by exact hn)),fun _ => rfl⟩
  · cases hr
def Jir:List (Nat × JW) := (35,Z9 JUU JJE JYj) :: Jdn
theorem JYr:Known Tryz.prog (JB Jir) Zh := J7 JTo JuJ
def zA:Tpl := ⟨[.one (.ptr 0 0)],Y3,62⟩
def JGZ:List GK := [.v Jy,.v Jy,.i,.i,.b,.b,.b,.b,.b,.i,.i,.i,.i]
def ZQ (er:Int) (O:LL):LL := bif er != 0 then [] else O
def Jqn (l y:List GC) (a0 a1:Int) (tr op cl en mo:Bool) (la0 la1 la2 er:Int) (O C:LL) := [(0,Obj.blk 66 [(3,Ci (xi l 0)),(4,Ci (xi l 1)),(5,Ci (xi l 2)),(6,Ci (xi l 3)),(7,Ci (xi l 4)),(8,Ci (xi l 5)),(9,Ci (xi l 6)),(10,Ci (xi l 7)),(11,Ci (xi l 8)),(12,Ci (xi l 9)),(13,Ci (xi l 10)),(14,Ci (xi l 11)),(15,Ci (xi l 12)),(16,Cb (xb l 13)),(17,Ci (xi l 14)),(18,Cb (xb l 15)),(19,Ci (xi l 16)),(20,Ci (xi l 17)),(21,Ci (xi l 18)),(22,Ci (xi l 19)),(23,Ci (xi l 20)),(24,Cb (xb l 21)),(25,Ci (xi y 0)),(26,Ci (xi y 1)),(27,Ci (xi y 2)),(28,Ci (xi y 3)),(29,Ci (xi y 4)),(30,Ci (xi y 5)),(31,Ci (xi y 6)),(32,Ci (xi y 7)),(33,Ci (xi y 8)),(34,Ci (xi y 9)),(35,Ci (xi y 10)),(36,Ci (xi y 11)),(37,Ci (xi y 12)),(38,Cb (xb y 13)),(39,Ci (xi y 14)),(40,Cb (xb y 15)),(41,Ci (xi y 16)),(42,Ci (xi y 17)),(43,Ci (xi y 18)),(44,Ci (xi y 19)),(45,Ci (xi y 20)),(46,Cb (xb y 21)),(47,Ci a0),(48,Ci a1),(49,Cb tr),(50,SC.wh 1),(51,Cb op),(52,Cb cl),(53,Cb en),(54,Cb mo),(55,Ci la0),(56,Ci la1),(57,Ci la2),(92,SC.wh 90),(59,Ci er)]),(90,Obj.row false 40 22 (RowC.lit 91 [])),(89,Obj.row false 40 22 (RowC.lst 88 JA9 (ZQ er O))),(1,Obj.row false 40 22 (RowC.lst 60 JA9 C))]
theorem Jed (l y:List GC) (a0 a1:Int) (tr op cl en mo:Bool) (la0 la1 la2 er:Int) (C O:LL):Runs (Js (JB Jir) Zh 36) (zA.args (Jc JGZ [.v l,.v y,.i a0,.i a1,.b tr,.b op,.b cl,.b en,.b mo,.i la0,.i la1,.i la2,.i er])) (zA.memo (Jc JGZ [.v l,.v y,.i a0,.i a1,.b tr,.b op,.b cl,.b en,.b mo,.i la0,.i la1,.i la2,.i er]) [C,O]) zA.n (SV.tup [(false,[SC.wh 89]),(false,[Ci (Jp er)])]) ((Jqn l y a0 a1 tr op cl en mo la0 la1 la2 er O C)) :=
  Runs.of1 (ps := []) (by kernel_rfl) (by simp)
def JJh:List Gm → Qr → Option CRes
  | [.v l,.v y,.i a0,.i a1,.b tr,.b op,.b cl,.b en,.b mo,.i la0,.i la1,.i la2,.i er],[C,O] => some ⟨SV.tup [(false,[SC.wh 89]),(false,[Ci (Jp er)])],
 (Jqn l y a0 a1 tr op cl en mo la0 la1 la2 er O C),[],[],93⟩
  | _,_ => none
theorem JlY:Qk Tryz.prog 36 (Z9 JGZ zA JJh) := by
  refine Qd (JD JYr 36) fun ps ls r hr hn _ => ?_
  unfold JJh at hr
  split at hr
  · cases hr; exact ⟨_,Jed _ _ _ _ _ _ _ _ _ _ _ _ _ _ _,fun _ => rfl⟩
  · cases hr
def JRH:List (Nat × JW) := (36,Z9 JGZ zA JJh) :: Jir
theorem JLC:Known Tryz.prog (JB JRH) Zh := J7 JYr JlY
def JJZ:Tpl := ⟨[.one (.ptr 0 0),.agg pI],Y3,62⟩
def JUx:List GK := [.v Jy,.v Jy,.v Jy,.i,.i,.b,.b,.b,.b,.b,.i,.i,.i,.i]
section
variable (x l y:List GC) (a0 a1:Int) (tr op cl en mo:Bool) (la0 la1 la2 er:Int) (C O:LL)
def Kq:Int:= bif er == 0 then Jp (Kr (J2 x) (J2 l) (J2 y) a0 a1 tr op cl en mo la0 la1 la2 C) else Jp er
def KO:LL:= bif er == 0 then ZQ (Kr (J2 x) (J2 l) (J2 y) a0 a1 tr op cl en mo la0 la1 la2 C) (KL (J2 x) (J2 l) (J2 y) a0 a1 tr op cl en mo la0 la1 la2 C O) else ZQ er O
def JGi:Int:= bif er == 0 then JHY (J2 x) (J2 l) (J2 y) a0 a1 tr op cl en mo la0 la1 la2 else xi l 0
def JHa:Int:= bif er == 0 then JGg (J2 x) (J2 l) (J2 y) a0 a1 tr op cl en mo la0 la1 la2 else xi l 1
def JHl:Int:= bif er == 0 then JHT (J2 x) (J2 l) (J2 y) a0 a1 tr op cl en mo la0 la1 la2 else xi l 2
def JGs:Int:= bif er == 0 then JHn (J2 x) (J2 l) (J2 y) a0 a1 tr op cl en mo la0 la1 la2 else xi l 3
def JGu:Int:= bif er == 0 then JHx (J2 x) (J2 l) (J2 y) a0 a1 tr op cl en mo la0 la1 la2 else xi l 4
def JHu:Int:= bif er == 0 then JHE (J2 x) (J2 l) (J2 y) a0 a1 tr op cl en mo la0 la1 la2 else xi l 5
def JHX:Int:= bif er == 0 then JHM (J2 x) (J2 l) (J2 y) a0 a1 tr op cl en mo la0 la1 la2 else xi l 6
def JH7:Int:= bif er == 0 then JHq (J2 x) (J2 l) (J2 y) a0 a1 tr op cl en mo la0 la1 la2 else xi l 7
def JBL:Int:= bif er == 0 then JHH (J2 x) (J2 l) (J2 y) a0 a1 tr op cl en mo la0 la1 la2 else xi l 8
def JBz:Int:= bif er == 0 then JBa (J2 x) (J2 l) (J2 y) a0 a1 tr op cl en mo la0 la1 la2 else xi l 9
def JAU:Int:= bif er == 0 then JAH (J2 x) (J2 l) (J2 y) a0 a1 tr op cl en mo la0 la1 la2 else xi l 10
def JBP:Int:= bif er == 0 then JBe (J2 x) (J2 l) (J2 y) a0 a1 tr op cl en mo la0 la1 la2 else xi l 11
def JAc:Int:= bif er == 0 then JAj (J2 x) (J2 l) (J2 y) a0 a1 tr op cl en mo la0 la1 la2 else xi l 12
def JBN:Bool:= bif er == 0 then JBb (J2 x) (J2 l) (J2 y) a0 a1 tr op cl en mo la0 la1 la2 else xb l 13
def JAT:Int:= bif er == 0 then JBh (J2 x) (J2 l) (J2 y) a0 a1 tr op cl en mo la0 la1 la2 else xi l 14
def JAf:Bool:= bif er == 0 then JC0 (J2 x) (J2 l) (J2 y) a0 a1 tr op cl en mo la0 la1 la2 else xb l 15
def JBQ:Int:= bif er == 0 then JBH (J2 x) (J2 l) (J2 y) a0 a1 tr op cl en mo la0 la1 la2 else xi l 16
def JBd:Int:= bif er == 0 then JBD (J2 x) (J2 l) (J2 y) a0 a1 tr op cl en mo la0 la1 la2 else xi l 17
def JC1:Int:= bif er == 0 then JAk (J2 x) (J2 l) (J2 y) a0 a1 tr op cl en mo la0 la1 la2 else xi l 18
def JBy:Int:= bif er == 0 then JAV (J2 x) (J2 l) (J2 y) a0 a1 tr op cl en mo la0 la1 la2 else xi l 19
def JBT:Int:= bif er == 0 then JAo (J2 x) (J2 l) (J2 y) a0 a1 tr op cl en mo la0 la1 la2 else xi l 20
def JBF:Bool:= bif er == 0 then JAS (J2 x) (J2 l) (J2 y) a0 a1 tr op cl en mo la0 la1 la2 else xb l 21
def JBO:Int:= bif er == 0 then JB6 (J2 x) (J2 l) (J2 y) a0 a1 tr op cl en mo la0 la1 la2 else xi y 0
def JBv:Int:= bif er == 0 then JBV (J2 x) (J2 l) (J2 y) a0 a1 tr op cl en mo la0 la1 la2 else xi y 1
def JAI:Int:= bif er == 0 then JAd (J2 x) (J2 l) (J2 y) a0 a1 tr op cl en mo la0 la1 la2 else xi y 2
def JAt:Int:= bif er == 0 then JBR (J2 x) (J2 l) (J2 y) a0 a1 tr op cl en mo la0 la1 la2 else xi y 3
def JBJ:Int:= bif er == 0 then JBl (J2 x) (J2 l) (J2 y) a0 a1 tr op cl en mo la0 la1 la2 else xi y 4
def JBK:Int:= bif er == 0 then JAg (J2 x) (J2 l) (J2 y) a0 a1 tr op cl en mo la0 la1 la2 else xi y 5
def JBt:Int:= bif er == 0 then JB0 (J2 x) (J2 l) (J2 y) a0 a1 tr op cl en mo la0 la1 la2 else xi y 6
def JAv:Int:= bif er == 0 then JAb (J2 x) (J2 l) (J2 y) a0 a1 tr op cl en mo la0 la1 la2 else xi y 7
def JB8:Int:= bif er == 0 then JBM (J2 x) (J2 l) (J2 y) a0 a1 tr op cl en mo la0 la1 la2 else xi y 8
def JB4:Int:= bif er == 0 then JBq (J2 x) (J2 l) (J2 y) a0 a1 tr op cl en mo la0 la1 la2 else xi y 9
def JBi:Int:= bif er == 0 then JAx (J2 x) (J2 l) (J2 y) a0 a1 tr op cl en mo la0 la1 la2 else xi y 10
def JAl:Int:= bif er == 0 then JAJ (J2 x) (J2 l) (J2 y) a0 a1 tr op cl en mo la0 la1 la2 else xi y 11
def JAX:Int:= bif er == 0 then JBC (J2 x) (J2 l) (J2 y) a0 a1 tr op cl en mo la0 la1 la2 else xi y 12
def JAn:Bool:= bif er == 0 then JAL (J2 x) (J2 l) (J2 y) a0 a1 tr op cl en mo la0 la1 la2 else xb y 13
def JAW:Int:= bif er == 0 then JBY (J2 x) (J2 l) (J2 y) a0 a1 tr op cl en mo la0 la1 la2 else xi y 14
def JAh:Bool:= bif er == 0 then JAN (J2 x) (J2 l) (J2 y) a0 a1 tr op cl en mo la0 la1 la2 else xb y 15
def JBm:Int:= bif er == 0 then JB2 (J2 x) (J2 l) (J2 y) a0 a1 tr op cl en mo la0 la1 la2 else xi y 16
def JAi:Int:= bif er == 0 then JAp (J2 x) (J2 l) (J2 y) a0 a1 tr op cl en mo la0 la1 la2 else xi y 17
def JBE:Int:= bif er == 0 then JBU (J2 x) (J2 l) (J2 y) a0 a1 tr op cl en mo la0 la1 la2 else xi y 18
def JAy:Int:= bif er == 0 then JBI (J2 x) (J2 l) (J2 y) a0 a1 tr op cl en mo la0 la1 la2 else xi y 19
def JBX:Int:= bif er == 0 then JBo (J2 x) (J2 l) (J2 y) a0 a1 tr op cl en mo la0 la1 la2 else xi y 20
def JAZ:Bool:= bif er == 0 then JBj (J2 x) (J2 l) (J2 y) a0 a1 tr op cl en mo la0 la1 la2 else xb y 21
def JBk:Int:= bif er == 0 then JBn (J2 x) (J2 l) (J2 y) a0 a1 tr op cl en mo la0 la1 la2 else a0
def JAO:Int:= bif er == 0 then JBA (J2 x) (J2 l) (J2 y) a0 a1 tr op cl en mo la0 la1 la2 else a1
def JAY:Bool:= bif er == 0 then JBG (J2 x) (J2 l) (J2 y) a0 a1 tr op cl en mo la0 la1 la2 else tr
def jJ:Bool:= bif er == 0 then JAm (J2 x) (J2 l) (J2 y) a0 a1 tr op cl en mo la0 la1 la2 else op
def JAe:Bool:= bif er == 0 then JBc (J2 x) cl en mo la0 la1 la2 else en
def JBW:Bool:= bif er == 0 then JAM (J2 x) cl en mo la0 la1 la2 else mo
def JAq:Int:= bif er == 0 then JBS (J2 x) cl en mo la0 la1 la2 else la0
def JBs:Int:= bif er == 0 then JBB (J2 x) cl en mo la0 la1 la2 else la1
def JBu:Int:= bif er == 0 then JAQ (J2 x) cl en mo la0 la1 la2 else la2
def Y0:Int:= bif er == 0 then Kr (J2 x) (J2 l) (J2 y) a0 a1 tr op cl en mo la0 la1 la2 C else er
def Yu:LL:= bif er == 0 then j0 (J2 x) (J2 l) (J2 y) a0 a1 tr op cl en mo la0 la1 la2 C else C
def JGz:List Prop:= [(er == 0) = true → C.length ≤ 1000 ∧ O.length ≤ 800000]
end
theorem Jp1 {er:Int} {C:LL} {O:LL} (hW:∀ q ∈ ([C.length ≤ 1000,O.length ≤ 800000]:List Prop),q):∀ q ∈ (JGz er C O),q := by
  simp only [awc,awn,and_true] at hW
  unfold JGz
  simp only [awc,awn,and_true]
  exact fun _ => hW
def Jti (x l y:List GC) (a0 a1:Int) (tr op cl en mo:Bool) (la0 la1 la2 er:Int) (C O:LL) := [(102999,Obj.row false 40 22 (RowC.lst 102998 JA9 (KO x l y a0 a1 tr op cl en mo la0 la1 la2 er C O))),(0,Obj.blk 66 [(103002,Ci (JGi x l y a0 a1 tr op cl en mo la0 la1 la2 er)),(103003,Ci (JHa x l y a0 a1 tr op cl en mo la0 la1 la2 er)),(103004,Ci (JHl x l y a0 a1 tr op cl en mo la0 la1 la2 er)),(103005,Ci (JGs x l y a0 a1 tr op cl en mo la0 la1 la2 er)),(103006,Ci (JGu x l y a0 a1 tr op cl en mo la0 la1 la2 er)),(103007,Ci (JHu x l y a0 a1 tr op cl en mo la0 la1 la2 er)),(103008,Ci (JHX x l y a0 a1 tr op cl en mo la0 la1 la2 er)),(103009,Ci (JH7 x l y a0 a1 tr op cl en mo la0 la1 la2 er)),(103010,Ci (JBL x l y a0 a1 tr op cl en mo la0 la1 la2 er)),(103011,Ci (JBz x l y a0 a1 tr op cl en mo la0 la1 la2 er)),(103012,Ci (JAU x l y a0 a1 tr op cl en mo la0 la1 la2 er)),(103013,Ci (JBP x l y a0 a1 tr op cl en mo la0 la1 la2 er)),(103014,Ci (JAc x l y a0 a1 tr op cl en mo la0 la1 la2 er)),(103015,Cb (JBN x l y a0 a1 tr op cl en mo la0 la1 la2 er)),(103016,Ci (JAT x l y a0 a1 tr op cl en mo la0 la1 la2 er)),(103017,Cb (JAf x l y a0 a1 tr op cl en mo la0 la1 la2 er)),(103018,Ci (JBQ x l y a0 a1 tr op cl en mo la0 la1 la2 er)),(103019,Ci (JBd x l y a0 a1 tr op cl en mo la0 la1 la2 er)),(103020,Ci (JC1 x l y a0 a1 tr op cl en mo la0 la1 la2 er)),(103021,Ci (JBy x l y a0 a1 tr op cl en mo la0 la1 la2 er)),(103022,Ci (JBT x l y a0 a1 tr op cl en mo la0 la1 la2 er)),(103023,Cb (JBF x l y a0 a1 tr op cl en mo la0 la1 la2 er)),(103024,Ci (JBO x l y a0 a1 tr op cl en mo la0 la1 la2 er)),(103025,Ci (JBv x l y a0 a1 tr op cl en mo la0 la1 la2 er)),(103026,Ci (JAI x l y a0 a1 tr op cl en mo la0 la1 la2 er)),(103027,Ci (JAt x l y a0 a1 tr op cl en mo la0 la1 la2 er)),(103028,Ci (JBJ x l y a0 a1 tr op cl en mo la0 la1 la2 er)),(103029,Ci (JBK x l y a0 a1 tr op cl en mo la0 la1 la2 er)),(103030,Ci (JBt x l y a0 a1 tr op cl en mo la0 la1 la2 er)),(103031,Ci (JAv x l y a0 a1 tr op cl en mo la0 la1 la2 er)),(103032,Ci (JB8 x l y a0 a1 tr op cl en mo la0 la1 la2 er)),(103033,Ci (JB4 x l y a0 a1 tr op cl en mo la0 la1 la2 er)),(103034,Ci (JBi x l y a0 a1 tr op cl en mo la0 la1 la2 er)),(103035,Ci (JAl x l y a0 a1 tr op cl en mo la0 la1 la2 er)),(103036,Ci (JAX x l y a0 a1 tr op cl en mo la0 la1 la2 er)),(103037,Cb (JAn x l y a0 a1 tr op cl en mo la0 la1 la2 er)),(103038,Ci (JAW x l y a0 a1 tr op cl en mo la0 la1 la2 er)),(103039,Cb (JAh x l y a0 a1 tr op cl en mo la0 la1 la2 er)),(103040,Ci (JBm x l y a0 a1 tr op cl en mo la0 la1 la2 er)),(103041,Ci (JAi x l y a0 a1 tr op cl en mo la0 la1 la2 er)),(103042,Ci (JBE x l y a0 a1 tr op cl en mo la0 la1 la2 er)),(103043,Ci (JAy x l y a0 a1 tr op cl en mo la0 la1 la2 er)),(103044,Ci (JBX x l y a0 a1 tr op cl en mo la0 la1 la2 er)),(103045,Cb (JAZ x l y a0 a1 tr op cl en mo la0 la1 la2 er)),(103046,Ci (JBk x l y a0 a1 tr op cl en mo la0 la1 la2 er)),(103047,SC.int IntKind.i64 (SI.v (JAO x l y a0 a1 tr op cl en mo la0 la1 la2 er))),(103048,Cb (JAY x l y a0 a1 tr op cl en mo la0 la1 la2 er)),(102994,SC.wh 102992),(103049,Cb (jJ x l y a0 a1 tr op cl en mo la0 la1 la2 er)),(52,Cb cl),(103050,Cb (JAe x cl en mo la0 la1 la2 er)),(103051,Cb (JBW x cl en mo la0 la1 la2 er)),(103052,Ci (JAq x cl en mo la0 la1 la2 er)),(103053,Ci (JBs x cl en mo la0 la1 la2 er)),(103054,Ci (JBu x cl en mo la0 la1 la2 er)),(102997,SC.wh 102995),(103055,Ci (Y0 x l y a0 a1 tr op cl en mo la0 la1 la2 er C))]),(102995,Obj.row false 40 22 (RowC.lit 103001 [])),(102992,Obj.row false 40 22 (RowC.lst 103000 JA9 (Yu x l y a0 a1 tr op cl en mo la0 la1 la2 er C)))]
theorem Jp8 (x l y:List GC) (a0 a1:Int) (tr op cl en mo:Bool) (la0 la1 la2 er:Int) (C O:LL) (hNeeds:∀ pN ∈ (JGz er C O),pN):Runs (Js (JB JRH) Zh 19) (JJZ.args (Jc JUx [.v x,.v l,.v y,.i a0,.i a1,.b tr,.b op,.b cl,.b en,.b mo,.i la0,.i la1,.i la2,.i er])) (JJZ.memo (Jc JUx [.v x,.v l,.v y,.i a0,.i a1,.b tr,.b op,.b cl,.b en,.b mo,.i la0,.i la1,.i la2,.i er]) [C,O]) JJZ.n (SV.tup [(false,[SC.wh 102999]),(false,[Ci (Kq x l y a0 a1 tr op cl en mo la0 la1 la2 er C)])]) ((Jti x l y a0 a1 tr op cl en mo la0 la1 la2 er C O)) :=
  Runs.of1 (ps := (JGz er C O)) (by kernel_rfl) hNeeds
def JZC:List Gm → Qr → Option CRes
  | [.v x,.v l,.v y,.i a0,.i a1,.b tr,.b op,.b cl,.b en,.b mo,.i la0,.i la1,.i la2,.i er],[C,O] => some ⟨SV.tup [(false,[SC.wh 102999]),(false,[Ci (Kq x l y a0 a1 tr op cl en mo la0 la1 la2 er C)])],
 (Jti x l y a0 a1 tr op cl en mo la0 la1 la2 er C O),[C.length ≤ 1000,O.length ≤ 800000],[],103056⟩
  | _,_ => none
theorem JvC:Qk Tryz.prog 19 (Z9 JUx JJZ JZC) := by
  refine Qd (JD JLC 19) fun ps ls r hr hn _ => ?_
  unfold JZC at hr
  split at hr
  · cases hr; exact ⟨_,Jp8 _ _ _ _ _ _ _ _ _ _ _ _ _ _ _ _ (Jp1 (by exact hn)),fun _ => rfl⟩
  · cases hr
def JkA:List (Nat × JW) := (19,Z9 JUx JJZ JZC) :: JRH
theorem JXX:Known Tryz.prog (JB JkA) Zh := J7 JLC JvC
def JFn:Tpl := ⟨[.one (.ptr 0 0)],Y3,62⟩
def JOm:List GK := [.v Jy,.v Jy,.i,.i,.b,.b,.b,.b,.b,.i,.i,.i,.i]
section
variable (op cl:Bool) (er:Int) (O:LL)
def XQ:Int:= Jp (bif er == 0 && (cl || op) then 13 else er)
def K9:Int:= bif er == 0 && (cl || op) then 13 else er
def Xg:LL:= ZQ (bif er == 0 && (cl || op) then 13 else er) O
end
def JsA (l y:List GC) (a0 a1:Int) (tr op en mo:Bool) (la0 la1 la2:Int) (cl:Bool) (er:Int) (O C:LL) := [(0,Obj.blk 66 [(3,Ci (xi l 0)),(4,Ci (xi l 1)),(5,Ci (xi l 2)),(6,Ci (xi l 3)),(7,Ci (xi l 4)),(8,Ci (xi l 5)),(9,Ci (xi l 6)),(10,Ci (xi l 7)),(11,Ci (xi l 8)),(12,Ci (xi l 9)),(13,Ci (xi l 10)),(14,Ci (xi l 11)),(15,Ci (xi l 12)),(16,Cb (xb l 13)),(17,Ci (xi l 14)),(18,Cb (xb l 15)),(19,Ci (xi l 16)),(20,Ci (xi l 17)),(21,Ci (xi l 18)),(22,Ci (xi l 19)),(23,Ci (xi l 20)),(24,Cb (xb l 21)),(25,Ci (xi y 0)),(26,Ci (xi y 1)),(27,Ci (xi y 2)),(28,Ci (xi y 3)),(29,Ci (xi y 4)),(30,Ci (xi y 5)),(31,Ci (xi y 6)),(32,Ci (xi y 7)),(33,Ci (xi y 8)),(34,Ci (xi y 9)),(35,Ci (xi y 10)),(36,Ci (xi y 11)),(37,Ci (xi y 12)),(38,Cb (xb y 13)),(39,Ci (xi y 14)),(40,Cb (xb y 15)),(41,Ci (xi y 16)),(42,Ci (xi y 17)),(43,Ci (xi y 18)),(44,Ci (xi y 19)),(45,Ci (xi y 20)),(46,Cb (xb y 21)),(47,Ci a0),(48,Ci a1),(49,Cb tr),(50,SC.wh 1),(51,Cb op),(90,Cb true),(53,Cb en),(54,Cb mo),(55,Ci la0),(56,Ci la1),(57,Ci la2),(185,SC.wh 183),(86,Ci (K9 op cl er))]),(183,Obj.row false 40 22 (RowC.lit 184 [])),(182,Obj.row false 40 22 (RowC.lst 181 JA9 (Xg op cl er O))),(1,Obj.row false 40 22 (RowC.lst 60 JA9 C))]
theorem Jm8 (l y:List GC) (a0 a1:Int) (tr op cl en mo:Bool) (la0 la1 la2 er:Int) (C O:LL):Runs (Js (JB JkA) Zh 21) (JFn.args (Jc JOm [.v l,.v y,.i a0,.i a1,.b tr,.b op,.b cl,.b en,.b mo,.i la0,.i la1,.i la2,.i er])) (JFn.memo (Jc JOm [.v l,.v y,.i a0,.i a1,.b tr,.b op,.b cl,.b en,.b mo,.i la0,.i la1,.i la2,.i er]) [C,O]) JFn.n (SV.tup [(false,[SC.wh 182]),(false,[Ci (XQ op cl er)])]) ((JsA l y a0 a1 tr op en mo la0 la1 la2 cl er O C)) :=
  Runs.of1 (ps := []) (by kernel_rfl) (by simp)
def JS0:List Gm → Qr → Option CRes
  | [.v l,.v y,.i a0,.i a1,.b tr,.b op,.b cl,.b en,.b mo,.i la0,.i la1,.i la2,.i er],[C,O] => some ⟨SV.tup [(false,[SC.wh 182]),(false,[Ci (XQ op cl er)])],
 (JsA l y a0 a1 tr op en mo la0 la1 la2 cl er O C),[],[],191⟩
  | _,_ => none
theorem Jr2:Qk Tryz.prog 21 (Z9 JOm JFn JS0) := by
  refine Qd (JD JXX 21) fun ps ls r hr hn _ => ?_
  unfold JS0 at hr
  split at hr
  · cases hr; exact ⟨_,Jm8 _ _ _ _ _ _ _ _ _ _ _ _ _ _ _,fun _ => rfl⟩
  · cases hr
def JfF:List (Nat × JW) := (21,Z9 JOm JFn JS0) :: JkA
theorem JTa:Known Tryz.prog (JB JfF) Zh := J7 JXX Jr2
def zk:Tpl := ⟨[.one (.ptr 0 0)],Y3,62⟩
def JGh:List GK := [.v Jy,.v Jy,.i,.i,.b,.b,.b,.b,.b,.i,.i,.i,.i]
def Jl (op:Bool) (er:Int) (C:LL):Int := bif er != 0 || !op then 0 else IntKind.i64.wrap (1 + Int.ofNat C.length)
def Jqg (l y:List GC) (a0 a1:Int) (tr op cl en mo:Bool) (la0 la1 la2 er:Int) (C O:LL) := [(0,Obj.blk 66 [(3,Ci (xi l 0)),(4,Ci (xi l 1)),(5,Ci (xi l 2)),(6,Ci (xi l 3)),(7,Ci (xi l 4)),(8,Ci (xi l 5)),(9,Ci (xi l 6)),(10,Ci (xi l 7)),(11,Ci (xi l 8)),(12,Ci (xi l 9)),(13,Ci (xi l 10)),(14,Ci (xi l 11)),(15,Ci (xi l 12)),(16,Cb (xb l 13)),(17,Ci (xi l 14)),(18,Cb (xb l 15)),(19,Ci (xi l 16)),(20,Ci (xi l 17)),(21,Ci (xi l 18)),(22,Ci (xi l 19)),(23,Ci (xi l 20)),(24,Cb (xb l 21)),(25,Ci (xi y 0)),(26,Ci (xi y 1)),(27,Ci (xi y 2)),(28,Ci (xi y 3)),(29,Ci (xi y 4)),(30,Ci (xi y 5)),(31,Ci (xi y 6)),(32,Ci (xi y 7)),(33,Ci (xi y 8)),(34,Ci (xi y 9)),(35,Ci (xi y 10)),(36,Ci (xi y 11)),(37,Ci (xi y 12)),(38,Cb (xb y 13)),(39,Ci (xi y 14)),(40,Cb (xb y 15)),(41,Ci (xi y 16)),(42,Ci (xi y 17)),(43,Ci (xi y 18)),(44,Ci (xi y 19)),(45,Ci (xi y 20)),(46,Cb (xb y 21)),(47,Ci a0),(48,Ci a1),(49,Cb tr),(50,SC.wh 1),(51,Cb op),(52,Cb cl),(53,Cb en),(54,Cb mo),(55,Ci la0),(56,Ci la1),(57,Ci la2),(58,SC.wh 2),(59,Ci er)]),(1,Obj.row false 40 22 (RowC.lst 60 JA9 C)),(2,Obj.row false 40 22 (RowC.lst 61 JA9 O))]
theorem Je1 (l y:List GC) (a0 a1:Int) (tr op cl en mo:Bool) (la0 la1 la2 er:Int) (C O:LL):Runs (Js (JB JfF) Zh 20) (zk.args (Jc JGh [.v l,.v y,.i a0,.i a1,.b tr,.b op,.b cl,.b en,.b mo,.i la0,.i la1,.i la2,.i er])) (zk.memo (Jc JGh [.v l,.v y,.i a0,.i a1,.b tr,.b op,.b cl,.b en,.b mo,.i la0,.i la1,.i la2,.i er]) [C,O]) zk.n (SV.one (Ci (Jl op er C))) ((Jqg l y a0 a1 tr op cl en mo la0 la1 la2 er C O)) :=
  Runs.of1 (ps := []) (by kernel_rfl) (by simp)
def JJl:List Gm → Qr → Option CRes
  | [.v l,.v y,.i a0,.i a1,.b tr,.b op,.b cl,.b en,.b mo,.i la0,.i la1,.i la2,.i er],[C,O] => some ⟨SV.one (Ci (Jl op er C)),
 (Jqg l y a0 a1 tr op cl en mo la0 la1 la2 er C O),[],[],84⟩
  | _,_ => none
theorem Jii:Qk Tryz.prog 20 (Z9 JGh zk JJl) := by
  refine Qd (JD JTa 20) fun ps ls r hr hn _ => ?_
  unfold JJl at hr
  split at hr
  · cases hr; exact ⟨_,Je1 _ _ _ _ _ _ _ _ _ _ _ _ _ _ _,fun _ => rfl⟩
  · cases hr
def JRe:List (Nat × JW) := (20,Z9 JGh zk JJl) :: JfF
theorem JLY:Known Tryz.prog (JB JRe) Zh := J7 JTa Jii
def JIl:Tpl := ⟨[],[],0⟩
def Jru := [(2,Obj.blk 66 [(3,SC.int IntKind.i64 (SI.c 0)),(4,SC.int IntKind.i64 (SI.c 0)),(5,SC.int IntKind.i64 (SI.c 0)),(6,SC.int IntKind.i64 (SI.c 0)),(7,SC.int IntKind.i64 (SI.c 0)),(8,SC.int IntKind.i64 (SI.c 0)),(9,SC.int IntKind.i64 (SI.c 0)),(10,SC.int IntKind.i64 (SI.c 0)),(11,SC.int IntKind.i64 (SI.c 0)),(12,SC.int IntKind.i64 (SI.c 0)),(13,SC.int IntKind.i64 (SI.c 0)),(14,SC.int IntKind.i64 (SI.c 0)),(15,SC.int IntKind.i64 (SI.c 0)),(16,SC.bool (SB.c false)),(17,SC.int IntKind.i64 (SI.c 0)),(18,SC.bool (SB.c false)),(19,SC.int IntKind.i64 (SI.c 0)),(20,SC.int IntKind.i64 (SI.c 0)),(21,SC.int IntKind.i64 (SI.c 0)),(22,SC.int IntKind.i64 (SI.c 0)),(23,SC.int IntKind.i64 (SI.c 0)),(24,SC.bool (SB.c false)),(25,SC.int IntKind.i64 (SI.c 0)),(26,SC.int IntKind.i64 (SI.c 0)),(27,SC.int IntKind.i64 (SI.c 0)),(28,SC.int IntKind.i64 (SI.c 0)),(29,SC.int IntKind.i64 (SI.c 0)),(30,SC.int IntKind.i64 (SI.c 0)),(31,SC.int IntKind.i64 (SI.c 0)),(32,SC.int IntKind.i64 (SI.c 0)),(33,SC.int IntKind.i64 (SI.c 0)),(34,SC.int IntKind.i64 (SI.c 0)),(35,SC.int IntKind.i64 (SI.c 0)),(36,SC.int IntKind.i64 (SI.c 0)),(37,SC.int IntKind.i64 (SI.c 0)),(38,SC.bool (SB.c false)),(39,SC.int IntKind.i64 (SI.c 0)),(40,SC.bool (SB.c false)),(41,SC.int IntKind.i64 (SI.c 0)),(42,SC.int IntKind.i64 (SI.c 0)),(43,SC.int IntKind.i64 (SI.c 0)),(44,SC.int IntKind.i64 (SI.c 0)),(45,SC.int IntKind.i64 (SI.c 0)),(46,SC.bool (SB.c false)),(47,SC.int IntKind.i64 (SI.c 0)),(48,SC.int IntKind.i64 (SI.c 0)),(49,SC.bool (SB.c false)),(64,SC.wh 62),(51,SC.bool (SB.c false)),(52,SC.bool (SB.c false)),(53,SC.bool (SB.c false)),(54,SC.bool (SB.c false)),(55,SC.int IntKind.i64 (SI.c 0)),(56,SC.int IntKind.i64 (SI.c 0)),(57,SC.int IntKind.i64 (SI.c 0)),(67,SC.wh 65),(59,SC.int IntKind.i64 (SI.c 0))]),(65,Obj.row false 40 22 (RowC.lit 66 [])),(62,Obj.row false 40 22 (RowC.lit 63 []))]
theorem JoP:Runs (Js (JB JRe) Zh 18) (JIl.args []) (JIl.memo [] []) JIl.n (SV.one (SC.ptr 2 0)) (Jru) :=
  Runs.of1 (ps := []) (by kernel_rfl) (by simp)
def JZf:List Pm → Qr → Option CRes
  | [],[] => some ⟨SV.one (SC.ptr 2 0),
 Jru,[],[],68⟩
  | _,_ => none
theorem JvH:Qk Tryz.prog 18 (JS JIl JZf) := by
  refine JH (JD JLY 18) fun ps ls r hr hn _ => ?_
  unfold JZf at hr
  split at hr
  · cases hr; exact ⟨_,JoP,fun _ => rfl⟩
  · cases hr
def Jkc:List (Nat × JW) := (18,JS JIl JZf) :: JRe
theorem JYx:Known Tryz.prog (JB Jkc) Zh := J7 JLY JvH
def JNi:Tpl := ⟨[.agg [.int .i64,.int .i64,.int .i64],.agg [.int .i64,.int .i64,.int .i64]],[],0⟩
theorem Js4 (a b c d e f:Int):Runs (Js (JB Jkc) Zh 26) (JNi.args [.i a,.i b,.i c,.i d,.i e,.i f]) (JNi.memo [.i a,.i b,.i c,.i d,.i e,.i f] []) JNi.n (SV.agg [Ci (JI a d),Ci (JI b e),Ci (JI c f)]) ([]) :=
  Runs.of1 (ps := []) (by kernel_rfl) (by simp)
def Jf4:List Pm → Qr → Option CRes
  | [.i a,.i b,.i c,.i d,.i e,.i f],[] => some ⟨SV.agg [Ci (JI a d),Ci (JI b e),Ci (JI c f)],
 [],[],[],35⟩
  | _,_ => none
theorem Jws:Qk Tryz.prog 26 (JS JNi Jf4) := by
  refine JH (JD JYx 26) fun ps ls r hr hn _ => ?_
  unfold Jf4 at hr
  split at hr
  · cases hr; exact ⟨_,Js4 _ _ _ _ _ _,fun _ => rfl⟩
  · cases hr
def Jtv:List (Nat × JW) := (26,JS JNi Jf4) :: Jkc
theorem Jbs:Known Tryz.prog (JB Jtv) Zh := J7 JYx Jws
def JO3:Tpl := ⟨[.agg [.int .i64,.int .i64,.int .i64],.agg [.int .i64,.int .i64,.int .i64]],[],0⟩
theorem JqP (a b c d e f:Int):Runs (Js (JB Jtv) Zh 27) (JO3.args [.i a,.i b,.i c,.i d,.i e,.i f]) (JO3.memo [.i a,.i b,.i c,.i d,.i e,.i f] []) JO3.n (SV.agg [Ci (J0 a d),Ci (J0 b e),Ci (J0 c f)]) ([]) :=
  Runs.of1 (ps := []) (by kernel_rfl) (by simp)
def Jfi:List Pm → Qr → Option CRes
  | [.i a,.i b,.i c,.i d,.i e,.i f],[] => some ⟨SV.agg [Ci (J0 a d),Ci (J0 b e),Ci (J0 c f)],
 [],[],[],35⟩
  | _,_ => none
theorem JwE:Qk Tryz.prog 27 (JS JO3 Jfi) := by
  refine JH (JD Jbs 27) fun ps ls r hr hn _ => ?_
  unfold Jfi at hr
  split at hr
  · cases hr; exact ⟨_,JqP _ _ _ _ _ _,fun _ => rfl⟩
  · cases hr
def Jqh:List (Nat × JW) := (27,JS JO3 Jfi) :: Jtv
theorem JbL:Known Tryz.prog (JB Jqh) Zh := J7 Jbs JwE
def JFo:Tpl := ⟨[.one (.wh 0)],[(0,.row true 3 1 1 [.int .i64])],2⟩
def JOP (L:LL):Bool := decide (Int.ofNat L.length ≤ 120)
theorem JlK (L:LL):Runs (Js (JB Jqh) Zh 7) (JFo.args []) (JFo.memo [] [L]) JFo.n (SV.one (Cb (JOP L))) ([(0,Obj.row true 3 1 (RowC.lst 1 [CK.int IntKind.i64] L))]) :=
  Runs.of1 (ps := []) (by kernel_rfl) (by simp)
def JRh:List Pm → Qr → Option CRes
  | [],[L] => some ⟨SV.one (Cb (JOP L)),
 [(0,Obj.row true 3 1 (RowC.lst 1 [CK.int IntKind.i64] L))],[],[],7⟩
  | _,_ => none
theorem Jtx:Qk Tryz.prog 7 (JS JFo JRh) := by
  refine JH (JD JbL 7) fun ps ls r hr hn _ => ?_
  unfold JRh at hr
  split at hr
  · cases hr; exact ⟨_,JlK _,fun _ => rfl⟩
  · cases hr
def JfR:List (Nat × JW) := (7,JS JFo JRh) :: Jqh
theorem JTU:Known Tryz.prog (JB JfR) Zh := J7 JbL Jtx
def JOL:Tpl := ⟨[.one (.wh 0)],[(0,.row true 3 1 1 [.int .i64])],2⟩
theorem Jrd (L:LL):Runs (Js (JB JfR) Zh 10) (JOL.args []) (JOL.memo [] [L]) JOL.n (SV.one (SC.ptr 5 0)) ([(5,Obj.blk 57 [(6,SC.wh 0),(7,SC.int IntKind.i64 (SI.c 0))]),(0,Obj.row true 3 1 (RowC.lst 1 [CK.int IntKind.i64] L))]) :=
  Runs.of1 (ps := []) (by kernel_rfl) (by simp)
def JdE:List Pm → Qr → Option CRes
  | [],[L] => some ⟨SV.one (SC.ptr 5 0),
 [(5,Obj.blk 57 [(6,SC.wh 0),(7,SC.int IntKind.i64 (SI.c 0))]),(0,Obj.row true 3 1 (RowC.lst 1 [CK.int IntKind.i64] L))],[],[],10⟩
  | _,_ => none
theorem Jw6:Qk Tryz.prog 10 (JS JOL JdE) := by
  refine JH (JD JTU 10) fun ps ls r hr hn _ => ?_
  unfold JdE at hr
  split at hr
  · cases hr; exact ⟨_,Jrd _,fun _ => rfl⟩
  · cases hr
def Jrp:List (Nat × JW) := (10,JS JOL JdE) :: JfR
theorem Jbw:Known Tryz.prog (JB Jrp) Zh := J7 JTU Jw6
def JJv:Tpl := ⟨[.one (.ptr 0 0),.one (.int .i64)],[(0,.blk 57 [(2,.wh 1),(3,.int .i64)]),(1,.row true 3 1 4 [.int .i64])],5⟩
section
variable (n a:Int) (L:LL)
def Jn:Int:= bif decide (a ≥ Int.ofNat L.length) then 0 else QA ((L.getD (IntKind.i64.wrap (IntKind.i64.wrap (a + 1) - 1)).toNat []).getD 0 0) n
def J1:Int:= bif decide (a ≥ Int.ofNat L.length) then a else IntKind.i64.wrap (a + 1)
def JON:Int:= IntKind.i64.wrap (IntKind.i64.wrap (a + 1) - 1)
def JGe:List Prop:= [decide (a ≥ Int.ofNat L.length) = false → 0 ≤ JON a ∧ (JON a).toNat < L.length ∧ (JON a).toNat < L.length ∧ n ≠ 0]
end
theorem JFQ (a:Int) (L:LL) (h:0 ≤ a) (hl:L.length ≤ 1000000):0 ≤ J1 a L := by
  unfold J1
  cases hd:decide (a ≥ Int.ofNat L.length)
  · have h4:a < (L.length:Int) := by simpa using hd
    rw [cond_false,X7 (by omega) (by omega)]
    omega
  · exact h
theorem JPA (n a:Int) (L:LL) (h:1 ≤ n) (hb:n ≤ 4611686018427387904):0 ≤ Jn n a L ∧ Jn n a L < n := by
  unfold Jn
  cases decide (a ≥ Int.ofNat L.length)
  · exact JnD _ _ h hb
  · simp only [cond_true]; omega
theorem JqF {n:Int} {a:Int} {L:LL} (hW:∀ q ∈ ([0 ≤ a,L.length ≤ 1000000,n ≠ 0]:List Prop),q):∀ q ∈ (JGe n a L),q := by
  simp only [awc,awn,and_true] at hW
  intro q hq
  unfold JGe at hq
  simp only [List.mem_cons,List.not_mem_nil,or_false] at hq
  obtain ⟨h1,h2,h3⟩ := hW
  subst hq
  intro h
  have h4:a < (L.length:Int) := by simpa using h
  have e:JON a = a := by unfold JON; rw [X7 (x := a + 1) (by omega) (by omega),X7 (by omega) (by omega)]; omega
  rw [e]
  exact ⟨h1,by omega,by omega,h3⟩
theorem Jon (n a:Int) (L:LL) (hNeeds:∀ pN ∈ (JGe n a L),pN):Runs (Js (JB Jrp) Zh 23) (JJv.args [.i n,.i a]) (JJv.memo [.i n,.i a] [L]) JJv.n (SV.one (Ci (Jn n a L))) ([(0,Obj.blk 57 [(2,SC.wh 1),(54,Ci (J1 a L))]),(1,Obj.row true 3 1 (RowC.lst 4 [CK.int IntKind.i64] L))]) :=
  Runs.of1 (ps := (JGe n a L)) (by kernel_rfl) hNeeds
def JVL:List Pm → Qr → Option CRes
  | [.i n,.i a],[L] => some ⟨SV.one (Ci (Jn n a L)),
 [(0,Obj.blk 57 [(2,SC.wh 1),(54,Ci (J1 a L))]),(1,Obj.row true 3 1 (RowC.lst 4 [CK.int IntKind.i64] L))],[0 ≤ a,L.length ≤ 1000000,n ≠ 0],[],55⟩
  | _,_ => none
theorem JuO:Qk Tryz.prog 23 (JS JJv JVL) := by
  refine JH (JD Jbw 23) fun ps ls r hr hn _ => ?_
  unfold JVL at hr
  split at hr
  · cases hr; exact ⟨_,Jon _ _ _ (JqF (by exact hn)),fun _ => rfl⟩
  · cases hr
def Jjv:List (Nat × JW) := (23,JS JJv JVL) :: Jrp
theorem JZI:Known Tryz.prog (JB Jjv) Zh := J7 Jbw JuO
def JG5:Tpl := ⟨[.one (.ptr 0 0),.one (.int .i64),.one (.int .i64)],[(0,.blk 57 [(2,.wh 1),(3,.int .i64)]),(1,.row true 3 1 4 [.int .i64])],5⟩
def Jb (n m a:Int) (L:LL):Int := IntKind.i64.wrap (n + Jn (IntKind.i64.wrap (IntKind.i64.wrap (m - n) + 1)) a L)
def JDz (n m a:Int) (L:LL):List Prop := [0 ≤ a,L.length ≤ 1000000,IntKind.i64.wrap (IntKind.i64.wrap (m - n) + 1) ≠ 0]
theorem kt (n m a:Int) (L:LL) (h:n ≤ m) (h1:-1000000 ≤ n) (h2:m ≤ 1000000):n ≤ (Jb n m a L) ∧ (Jb n m a L) ≤ m := by
  have e:IntKind.i64.wrap (IntKind.i64.wrap (m - n) + 1) = m - n + 1 := by rw [X7 (x := m - n) (by omega) (by omega),X7 (by omega) (by omega)]
  have k := JPA (m - n + 1) a L (by omega) (by omega)
  unfold Jb
  rw [e,X7 (by omega) (by omega)]
  omega
theorem Jkl {n:Int} {m:Int} {a:Int} {L:LL} (hW:∀ q ∈ ([0 ≤ a,L.length ≤ 1000000,n ≤ m ∧ -1000000 ≤ n ∧ m ≤ 1000000]:List Prop),q):∀ q ∈ (JDz n m a L),q := by
  simp only [awc,awn,and_true] at hW
  intro q hq
  unfold JDz at hq
  simp only [List.mem_cons,List.not_mem_nil,or_false] at hq
  obtain ⟨h1,h2,h3⟩ := hW
  have e:IntKind.i64.wrap (IntKind.i64.wrap (m - n) + 1) = m - n + 1 := by rw [X7 (x := m - n) (by omega) (by omega),X7 (by omega) (by omega)]
  rcases hq with rfl | rfl | rfl
  · exact h1
  · exact h2
  · rw [e]; omega
theorem Jjw (n m a:Int) (L:LL) (hNeeds:∀ pN ∈ (JDz n m a L),pN):Runs (Js (JB Jjv) Zh 24) (JG5.args [.i n,.i m,.i a]) (JG5.memo [.i n,.i m,.i a] [L]) JG5.n (SV.one (Ci (Jb n m a L))) ([(0,Obj.blk 57 [(2,SC.wh 1),(66,Ci (J1 a L))]),(1,Obj.row true 3 1 (RowC.lst 4 [CK.int IntKind.i64] L))]) :=
  Runs.of1 (ps := (JDz n m a L)) (by kernel_rfl) hNeeds
def JQw:List Pm → Qr → Option CRes
  | [.i n,.i m,.i a],[L] => some ⟨SV.one (Ci (Jb n m a L)),
 [(0,Obj.blk 57 [(2,SC.wh 1),(66,Ci (J1 a L))]),(1,Obj.row true 3 1 (RowC.lst 4 [CK.int IntKind.i64] L))],[0 ≤ a,L.length ≤ 1000000,n ≤ m ∧ -1000000 ≤ n ∧ m ≤ 1000000],[],70⟩
  | _,_ => none
theorem Jt3:Qk Tryz.prog 24 (JS JG5 JQw) := by
  refine JH (JD JZI 24) fun ps ls r hr hn _ => ?_
  unfold JQw at hr
  split at hr
  · cases hr; exact ⟨_,Jjw _ _ _ _ (Jkl (by exact hn)),fun _ => rfl⟩
  · cases hr
def JeX:List (Nat × JW) := (24,JS JG5 JQw) :: Jjv
theorem JTQ:Known Tryz.prog (JB JeX) Zh := J7 JZI Jt3
def JJH:Tpl := ⟨[.one (.ptr 0 0),.one (.int .i64)],[(0,.blk 57 [(2,.wh 1),(3,.int .i64)]),(1,.row true 3 1 4 [.int .i64])],5⟩
section
variable (n a:Int) (L:LL)
def WP:Int:= Jb (IntKind.i64.wrap (0 - n)) n a L
def WW:Int:= Jb (IntKind.i64.wrap (0 - n)) n (J1 a L) L
def ZG:Int:= Jb (IntKind.i64.wrap (0 - n)) n (J1 (J1 a L) L) L
def JHS:List Prop:= [0 ≤ a,L.length ≤ 1000000,IntKind.i64.wrap (0 - n) ≤ n ∧ -1000000 ≤ IntKind.i64.wrap (0 - n) ∧ n ≤ 1000000,0 ≤ J1 a L,L.length ≤ 1000000,IntKind.i64.wrap (0 - n) ≤ n ∧ -1000000 ≤ IntKind.i64.wrap (0 - n) ∧ n ≤ 1000000,0 ≤ J1 (J1 a L) L,L.length ≤ 1000000,IntKind.i64.wrap (0 - n) ≤ n ∧ -1000000 ≤ IntKind.i64.wrap (0 - n) ∧ n ≤ 1000000]
end
theorem Joh {n:Int} {a:Int} {L:LL} (hW:∀ q ∈ ([0 ≤ a,L.length ≤ 1000000,0 ≤ n ∧ n ≤ 1000000]:List Prop),q):∀ q ∈ (JHS n a L),q := by
  simp only [awc,awn,and_true] at hW
  intro q hq
  unfold JHS at hq
  simp only [List.mem_cons,List.not_mem_nil,or_false] at hq
  obtain ⟨h1,h2,h3⟩ := hW
  have nn:∀ x,0 ≤ x → 0 ≤ J1 x L := fun x h => JFQ x L h h2
  have e:IntKind.i64.wrap (0 - n) = 0 - n := X7 (by omega) (by omega)
  rw [e] at hq
  rcases hq with rfl | rfl | rfl | rfl | rfl | rfl | rfl | rfl | rfl
  · exact h1
  · exact h2
  · omega
  · exact nn _ h1
  · exact h2
  · omega
  · exact nn _ (nn _ h1)
  · exact h2
  · omega
theorem Jnj (n a:Int) (L:LL) (hNeeds:∀ pN ∈ (JHS n a L),pN):Runs (Js (JB JeX) Zh 25) (JJH.args [.i n,.i a]) (JJH.memo [.i n,.i a] [L]) JJH.n (SV.agg [Ci (WP n a L),Ci (WW n a L),Ci (ZG n a L)]) ([(0,Obj.blk 57 [(2,SC.wh 1),(234,Ci (J1 (J1 (J1 a L) L) L))]),(1,Obj.row true 3 1 (RowC.lst 4 [CK.int IntKind.i64] L))]) :=
  Runs.of1 (ps := (JHS n a L)) (by kernel_rfl) hNeeds
def JaM:List Pm → Qr → Option CRes
  | [.i n,.i a],[L] => some ⟨SV.agg [Ci (WP n a L),Ci (WW n a L),Ci (ZG n a L)],
 [(0,Obj.blk 57 [(2,SC.wh 1),(234,Ci (J1 (J1 (J1 a L) L) L))]),(1,Obj.row true 3 1 (RowC.lst 4 [CK.int IntKind.i64] L))],[0 ≤ a,L.length ≤ 1000000,0 ≤ n ∧ n ≤ 1000000],[],244⟩
  | _,_ => none
theorem JuT:Qk Tryz.prog 25 (JS JJH JaM) := by
  refine JH (JD JTQ 25) fun ps ls r hr hn _ => ?_
  unfold JaM at hr
  split at hr
  · cases hr; exact ⟨_,Jnj _ _ _ (Joh (by exact hn)),fun _ => rfl⟩
  · cases hr
def JLv:List (Nat × JW) := (25,JS JJH JaM) :: JeX
theorem JZ7:Known Tryz.prog (JB JLv) Zh := J7 JTQ JuT
structure CS where
  k:Nat
  a:Int
  x:Int
  y:Int
  z:Int
  R:LL
section
variable (x y z u v w c d e dir fe sd ra n r i:Int) (L:LL) (s:CS)
def Jx0:Nat × SX.Obj:= (1,.row true 3 1 (.lst 4 [.int .i64] L))
def pU:Int:= bif i.toNat.beq 0 then r else bif i.toNat.beq 1 then 0 else bif i.toNat.beq 2 then IntKind.i64.wrap (0 - r) else 0
def pW:Int:= bif i.toNat.beq 0 then 0 else bif i.toNat.beq 1 then r else bif i.toNat.beq 2 then 0 else IntKind.i64.wrap (0 - r)
def itO:List Int:= [10,0,0,0,0,0,0,0,0,0,0,0,0,0,0,0,0,0,0,n,0,1]
def itL:List Int:= [2,0,x,y,z,u,v,w,17,0,0,0,0,0,fe,0,sd,ra,0,0,0,0]
def itA:List Int:= [3,0,x,y,z,u,v,w,17,c,d,e,dir,0,fe,0,sd,ra,0,0,0,0]
def stO:CS:= ⟨s.k - 1,J1 (J1 s.a L) L,s.x,s.y,s.z,s.R ++ [itO (Jn 4 (J1 s.a L) L)]⟩
end
section
variable (L:LL) (sz sd ra:Int) (s:CS)
def stZ:CS:= ⟨s.k - 1,J1 (J1 s.a L) L,s.x,s.y,IntKind.i64.wrap (s.z + Jb (-50) 50 (J1 s.a L) L),s.R ++ [itL s.x s.y s.z s.x s.y (IntKind.i64.wrap (s.z + Jb (-50) 50 (J1 s.a L) L)) 30000 sd ra]⟩
def aR:Int:= IntKind.i64.wrap (IntKind.i64.wrap (Jb 1 4 (J1 s.a L) L * ra) + 20)
def aI:Int:= Jn 4 (J1 (J1 s.a L) L) L
def aK:Int:= (IntKind.i64.wrap (aI L s + Jb 1 3 (J1 (J1 (J1 s.a L) L) L) L)).tmod 4
def aC:Int:= J0 s.x (pU (aR L ra s) (aI L s))
def aD:Int:= J0 s.y (pW (aR L ra s) (aI L s))
def aX:Int:= JI (aC L ra s) (pU (aR L ra s) (aK L s))
def aY:Int:= JI (aD L ra s) (pW (aR L ra s) (aK L s))
def stA:CS:= ⟨s.k - 1,J1 (J1 (J1 (J1 (J1 s.a L) L) L) L) L,aX L ra s,aY L ra s,JI (J0 s.z 0) 0, s.R ++ [itA s.x s.y s.z (aX L ra s) (aY L ra s) (JI (J0 s.z 0) 0) (aC L ra s) (aD L ra s) (J0 s.z 0) (IntKind.i64.wrap (1 - IntKind.i64.wrap (2 * Jn 2 (J1 (J1 (J1 (J1 s.a L) L) L) L) L))) 60000 sd ra]⟩
def dX:Int:= JI s.x (Jb (IntKind.i64.wrap (0 - sz)) sz (J1 s.a L) L)
def dY:Int:= JI s.y (Jb (IntKind.i64.wrap (0 - sz)) sz (J1 (J1 s.a L) L) L)
end
def JwM (L:LL) (sd ra sz:Int) (s:CS):CS := ⟨s.k - 1,J1 (J1 (J1 s.a L) L) L,dX L sz s,dY L sz s,JI s.z 0,s.R ++ [itL s.x s.y s.z (dX L sz s) (dY L sz s) (JI s.z 0) 60000 sd ra]⟩
def WL (L:LL) (sd ra sz:Int) (s:CS):CS := bif Jn 10 s.a L == 0 then stO L s else bif Jn 10 s.a L == 1 then stZ L sd ra s else bif (bif Jn 10 s.a L == 2 then Jn 10 s.a L == 2 else Jn 10 s.a L == 3) then stA L sd ra s else JwM L sd ra sz s
def JOS (L:LL) (sd ra sz:Int):Nat → CS → CS
  | 0,s => s
  | k + 1,s => JOS L sd ra sz k (WL L sd ra sz s)
def Z4 (L:LL) (sd ra sz:Int):Fam CS CS where
  k := 100
  E s := [(9,ent 1000000000 (.one (I (Int.ofNat s.k)))),(8,ent 1000000001 (.one (.wh 860))),(6,ent 526 (.one (.ptr 522 0))),(5,ent 275 (.one (I sz))),(4,ent 270 (.one (I ra))),(3,ent 137 (.one (I sd))),(0,ent 0 (.one (.ptr 0 0)))]
  M s := [(0,.blk 57 [(2,.wh 1),(1000000002,I s.a)]),Jx0 L,(522,.blk 38 [(1000000003,I s.x),(1000000004,I s.y),(1000000005,I s.z)]),Ku 860 1000000006 s.R]
  out s := .leaf (.exit 0) [(8,ent 855 (.one (.wh 860))),(6,ent 526 (.one (.ptr 522 0))),(5,ent 275 (.one (I sz))),(4,ent 270 (.one (I ra))),(3,ent 137 (.one (I sd))),(0,ent 0 (.one (.ptr 0 0)))] [(0,.blk 57 [(2,.wh 1),(856,I s.a)]),Jx0 L,(522,.blk 38 [(857,I s.x),(858,I s.y),(859,I s.z)]),Ku 860 861 s.R]
  fin s := JOS L sd ra sz s.k s
  next s i := match i with
    | 0 => stO L s
    | 1 => stZ L sd ra s
    | 2 => stA L sd ra s
    | _ => JwM L sd ra sz s
  J s := 0 ≤ s.a ∧ L.length ≤ 1000000 ∧ (0 ≤ sz ∧ sz ≤ 1000000) ∧ s.R.length + s.k ≤ 1000
  μ s := s.k
section
variable (sd:Int) (L:LL) (sz ra:Int) (s:CS)
def Jix:Prop:= decide (Int.ofNat s.k > 0) = true
def JjT:Prop:= (Jn 10 s.a L == 0) = true
def JSI:Prop:= (s.R.length + 1) * 176 ≤ 140737488355328 ∧ s.R.length + 1 ≤ 9223372036854775807
def JPj:Prop:= (Jn 10 s.a L == 0) = false
def Jle:Prop:= (Jn 10 s.a L == 1) = true
def JX2:Prop:= (Jn 10 s.a L == 1) = false
def JPm:Bool:= Jn 10 s.a L == 2
def Jj0:Prop:= (bif JPm L s then JPm L s else Jn 10 s.a L == 3) = true
def Jty:Int:= IntKind.i64.wrap (Jb 1 4 (J1 s.a L) L * ra)
def JRm:Int:= IntKind.i64.wrap (Jty L ra s + 20)
def JKs:List SC:= [SC.int IntKind.i64 (mkI (isC (mkI (isC (SI.v (Jb 1 4 (J1 s.a L) L)) (SI.v ra)) (Jty L ra s)) (SI.c 20)) (JRm L ra s))]
def q8:Int:= IntKind.i64.wrap (0 - JRm L ra s)
def WK:Int:= (IntKind.i64.wrap (Jn 4 (J1 (J1 s.a L) L) L + Jb 1 3 (J1 (J1 (J1 s.a L) L) L) L)).tmod 4
def JdA:Prop:= (bif JPm L s then JPm L s else Jn 10 s.a L == 3) = false
def Jn9:Int:= IntKind.i64.wrap (s.z + Jb (-50) 50 (J1 s.a L) L)
def Je7:List Int:= [0,sd,ra,0,0,0,0]
def JnU:Int:= J0 s.x (bif (Jn 4 (J1 (J1 s.a L) L) L).toNat.beq 0 then JRm L ra s else bif (Jn 4 (J1 (J1 s.a L) L) L).toNat.beq 1 then 0 else bif (Jn 4 (J1 (J1 s.a L) L) L).toNat.beq 2 then q8 L ra s else 0)
def Jmg:Int:= JI (JnU L ra s) (bif (WK L s).toNat.beq 0 then JRm L ra s else bif (WK L s).toNat.beq 1 then 0 else bif (WK L s).toNat.beq 2 then q8 L ra s else 0)
def JnA:Int:= J0 s.y (bif (Jn 4 (J1 (J1 s.a L) L) L).toNat.beq 0 then 0 else bif (Jn 4 (J1 (J1 s.a L) L) L).toNat.beq 1 then JRm L ra s else bif (Jn 4 (J1 (J1 s.a L) L) L).toNat.beq 2 then 0 else q8 L ra s)
def JnF:Int:= JI (JnA L ra s) (bif (WK L s).toNat.beq 0 then 0 else bif (WK L s).toNat.beq 1 then JRm L ra s else bif (WK L s).toNat.beq 2 then 0 else q8 L ra s)
def Jmr:Int:= JI s.x (Jb (IntKind.i64.wrap (0 - sz)) sz (J1 s.a L) L)
def JmZ:Int:= JI s.y (Jb (IntKind.i64.wrap (0 - sz)) sz (J1 (J1 s.a L) L) L)
end
def JQs (L:LL) (sd ra sz:Int) (s:CS):List Prop :=
 [Jix s → 0 ≤ s.a ∧ L.length ≤ 1000000 ∧ Int.ofNat 10 ≠ 0 ∧ (JjT L s → 0 ≤ J1 s.a L ∧ L.length ≤ 1000000 ∧ Int.ofNat 4 ≠ 0 ∧ JSI s) ∧ (JPj L s → (Jle L s → 0 ≤ J1 s.a L ∧ L.length ≤ 1000000 ∧ (-50 ≤ 50 ∧ -1000000 ≤ -50 ∧ Int.ofNat 50 ≤ 1000000) ∧ JSI s) ∧ (JX2 L s → Jj0 L s → 0 ≤ J1 s.a L ∧ L.length ≤ 1000000 ∧ (Int.ofNat 1 ≤ 4 ∧ -1000000 ≤ 1 ∧ Int.ofNat 4 ≤ 1000000) ∧ 0 ≤ J1 (J1 s.a L) L ∧ L.length ≤ 1000000 ∧ Int.ofNat 4 ≠ 0 ∧ 0 ≤ J1 (J1 (J1 s.a L) L) L ∧ L.length ≤ 1000000 ∧ (Int.ofNat 1 ≤ 3 ∧ -1000000 ≤ 1 ∧ Int.ofNat 3 ≤ 1000000) ∧ 0 ≤ Jn 4 (J1 (J1 s.a L) L) L ∧ (Jn 4 (J1 (J1 s.a L) L) L).toNat < 4 ∧ (Jn 4 (J1 (J1 s.a L) L) L).toNat < 4 ∧ (Jn 4 (J1 (J1 s.a L) L) L).toNat < (jd 2 4 (ZY (ZY (ZY (ZY (List.map (fun j => [SC.int IntKind.i64 (SI.c 0),SC.int IntKind.i64 (SI.c 0)][j % 2]?.getD SC.nilp) (List.range 8)) 0 (ZY [SC.int IntKind.i64 (SI.c 0),SC.int IntKind.i64 (SI.c 0)] 0 (JKs L ra s))) 2 (ZY [SC.int IntKind.i64 (SI.c 0),SC.int IntKind.i64 (SI.c 0)] 1 (JKs L ra s))) 4 (ZY [SC.int IntKind.i64 (SI.c 0),SC.int IntKind.i64 (SI.c 0)] 0 [SC.int IntKind.i64 (SI.v (q8 L ra s))])) 6 (ZY [SC.int IntKind.i64 (SI.c 0),SC.int IntKind.i64 (SI.c 0)] 1 [SC.int IntKind.i64 (SI.v (q8 L ra s))]))).length ∧ 0 ≤ Jn 4 (J1 (J1 s.a L) L) L ∧ (Jn 4 (J1 (J1 s.a L) L) L).toNat < 4 ∧ (Jn 4 (J1 (J1 s.a L) L) L).toNat < 4 ∧ (Jn 4 (J1 (J1 s.a L) L) L).toNat < (jd 2 4 (ZY (ZY (ZY (ZY (List.map (fun j => [SC.int IntKind.i64 (SI.c 0),SC.int IntKind.i64 (SI.c 0)][j % 2]?.getD SC.nilp) (List.range 8)) 0 (ZY [SC.int IntKind.i64 (SI.c 0),SC.int IntKind.i64 (SI.c 0)] 0 (JKs L ra s))) 2 (ZY [SC.int IntKind.i64 (SI.c 0),SC.int IntKind.i64 (SI.c 0)] 1 (JKs L ra s))) 4 (ZY [SC.int IntKind.i64 (SI.c 0),SC.int IntKind.i64 (SI.c 0)] 0 [SC.int IntKind.i64 (SI.v (q8 L ra s))])) 6 (ZY [SC.int IntKind.i64 (SI.c 0),SC.int IntKind.i64 (SI.c 0)] 1 [SC.int IntKind.i64 (SI.v (q8 L ra s))]))).length ∧ 0 ≤ WK L s ∧ (WK L s).toNat < 4 ∧ (WK L s).toNat < (jd 2 4 (ZY (ZY (ZY (ZY (List.map (fun j => [SC.int IntKind.i64 (SI.c 0),SC.int IntKind.i64 (SI.c 0)][j % 2]?.getD SC.nilp) (List.range 8)) 0 (ZY [SC.int IntKind.i64 (SI.c 0),SC.int IntKind.i64 (SI.c 0)] 0 (JKs L ra s))) 2 (ZY [SC.int IntKind.i64 (SI.c 0),SC.int IntKind.i64 (SI.c 0)] 1 (JKs L ra s))) 4 (ZY [SC.int IntKind.i64 (SI.c 0),SC.int IntKind.i64 (SI.c 0)] 0 [SC.int IntKind.i64 (SI.v (q8 L ra s))])) 6 (ZY [SC.int IntKind.i64 (SI.c 0),SC.int IntKind.i64 (SI.c 0)] 1 [SC.int IntKind.i64 (SI.v (q8 L ra s))]))).length ∧ 0 ≤ J1 (J1 (J1 (J1 s.a L) L) L) L ∧ L.length ≤ 1000000 ∧ Int.ofNat 2 ≠ 0 ∧ JSI s)) ∧ (JPj L s → JX2 L s → JdA L s → 0 ≤ J1 s.a L ∧ L.length ≤ 1000000 ∧ (IntKind.i64.wrap (0 - sz) ≤ sz ∧ -1000000 ≤ IntKind.i64.wrap (0 - sz) ∧ sz ≤ 1000000) ∧ 0 ≤ J1 (J1 s.a L) L ∧ L.length ≤ 1000000 ∧ (IntKind.i64.wrap (0 - sz) ≤ sz ∧ -1000000 ≤ IntKind.i64.wrap (0 - sz) ∧ sz ≤ 1000000) ∧ JSI s),Jix s → (JjT L s → (0 ≤ ((Z4 L sd ra sz).next s 0).a ∧ L.length ≤ 1000000 ∧ (0 ≤ sz ∧ sz ≤ 1000000) ∧ ((Z4 L sd ra sz).next s 0).R.length + ((Z4 L sd ra sz).next s 0).k ≤ 1000) ∧ (Z4 L sd ra sz).μ ((Z4 L sd ra sz).next s 0) < (Z4 L sd ra sz).μ s ∧ (Z4 L sd ra sz).fin ((Z4 L sd ra sz).next s 0) = (Z4 L sd ra sz).fin s ∧ Int.ofNat ((Z4 L sd ra sz).next s 0).k = IntKind.i64.wrap (Int.ofNat s.k - 1) ∧ ((Z4 L sd ra sz).next s 0).a = J1 (J1 s.a L) L ∧ ((Z4 L sd ra sz).next s 0).x = s.x ∧ ((Z4 L sd ra sz).next s 0).y = s.y ∧ ((Z4 L sd ra sz).next s 0).z = s.z ∧ ((Z4 L sd ra sz).next s 0).R = s.R ++ [[10,0,0,0,0,0,0,0,0,0,0,0,0,0,0,0,0,0,0,Jn 4 (J1 s.a L) L,0,1]]) ∧ (JPj L s → (Jle L s → (0 ≤ ((Z4 L sd ra
 sz).next s 1).a ∧ L.length ≤ 1000000 ∧ (0 ≤ sz ∧ sz ≤ 1000000) ∧ ((Z4 L sd ra sz).next s 1).R.length + ((Z4 L sd ra sz).next s 1).k ≤ 1000) ∧ (Z4 L sd ra sz).μ ((Z4 L sd ra sz).next s 1) < (Z4 L sd ra sz).μ s ∧ (Z4 L sd ra sz).fin ((Z4 L sd ra sz).next s 1) = (Z4 L sd ra sz).fin s ∧ Int.ofNat ((Z4 L sd ra sz).next s 1).k = IntKind.i64.wrap (Int.ofNat s.k - 1) ∧ ((Z4 L sd ra sz).next s 1).a = J1 (J1 s.a L) L ∧ ((Z4 L sd ra sz).next s 1).x = s.x ∧ ((Z4 L sd ra sz).next s 1).y = s.y ∧ ((Z4 L sd ra sz).next s 1).z = Jn9 L s ∧ ((Z4 L sd ra sz).next s 1).R = s.R ++ [2 :: 0 :: s.x :: s.y :: s.z :: s.x :: s.y :: Jn9 L s :: 17 :: 0 :: 0 :: 0 :: 0 :: 0 :: 30000 :: Je7 sd ra]) ∧ (JX2 L s → (Jj0 L s → (0 ≤ ((Z4 L sd ra sz).next s 2).a ∧ L.length ≤ 1000000 ∧ (0 ≤ sz ∧ sz ≤ 1000000) ∧ ((Z4 L sd ra sz).next s 2).R.length + ((Z4 L sd ra sz).next s 2).k ≤ 1000) ∧ (Z4 L sd ra sz).μ ((Z4 L sd ra sz).next s 2) < (Z4 L sd ra sz).μ s ∧ (Z4 L sd ra sz).fin ((Z4 L sd ra sz).next s 2) = (Z4 L sd ra sz).fin s ∧ Int.ofNat ((Z4 L sd ra sz).next s 2).k = IntKind.i64.wrap (Int.ofNat s.k - 1) ∧ ((Z4 L sd ra sz).next s 2).a = J1 (J1 (J1 (J1 (J1 s.a L) L) L) L) L ∧ ((Z4 L sd ra sz).next s 2).x = Jmg L ra s ∧ ((Z4 L sd ra sz).next s 2).y = JnF L ra s ∧ ((Z4 L sd ra sz).next s 2).z = JI (J0 s.z 0) 0 ∧ ((Z4 L sd ra sz).next s 2).R = s.R ++ [3 :: 0 :: s.x :: s.y :: s.z :: Jmg L ra s :: JnF L ra s :: JI (J0 s.z 0) 0 :: 17 :: JnU L ra s :: JnA L ra s :: J0 s.z 0 :: IntKind.i64.wrap (1 - IntKind.i64.wrap (2 * Jn 2 (J1 (J1 (J1 (J1 s.a L) L) L) L) L)) :: 0 :: 60000 :: Je7 sd ra]) ∧ (JdA L s → (0 ≤ ((Z4 L sd ra sz).next s 3).a ∧ L.length ≤ 1000000 ∧ (0 ≤ sz ∧ sz ≤ 1000000) ∧ ((Z4 L sd ra sz).next s 3).R.length + ((Z4 L sd ra sz).next s 3).k ≤ 1000) ∧ (Z4 L sd ra sz).μ ((Z4 L sd ra sz).next s 3) < (Z4 L sd ra sz).μ s ∧ (Z4 L sd ra sz).fin ((Z4 L sd ra sz).next s 3) = (Z4 L sd ra sz).fin s ∧ Int.ofNat ((Z4 L sd ra sz).next s 3).k = IntKind.i64.wrap (Int.ofNat s.k - 1) ∧ ((Z4 L sd ra sz).next s 3).a = J1 (J1 (J1 s.a L) L) L ∧ ((Z4 L sd ra sz).next s 3).x = Jmr L sz s ∧ ((Z4 L sd ra sz).next s 3).y = JmZ L sz s ∧ ((Z4 L sd ra sz).next s 3).z = JI s.z 0 ∧ ((Z4 L sd ra sz).next s 3).R = s.R ++ [2 :: 0 :: s.x :: s.y :: s.z :: Jmr L sz s :: JmZ L sz s :: JI s.z 0 :: 17 :: 0 :: 0 :: 0 :: 0 :: 0 :: 60000 :: Je7 sd ra]))),decide (Int.ofNat s.k > 0) = false → ((Z4 L sd ra sz).fin s).a = s.a ∧ ((Z4 L sd ra sz).fin s).x = s.x ∧ ((Z4 L sd ra sz).fin s).y = s.y ∧ ((Z4 L sd ra sz).fin s).z = s.z ∧ ((Z4 L sd ra sz).fin s).R = s.R]
theorem JoH (L:LL) (sd ra sz:Int) (s:CS) (hNeeds:∀ pN ∈ (JQs L sd ra sz s),pN):Jz (XU (Z4 L sd ra sz) (QU Tryz.prog (JB JLv) Zh 9 0) 854 s) :=
  Jz.of (ps := (JQs L sd ra sz s)) (by kernel_rfl) (by kernel_rfl) hNeeds
theorem Jjm (L:LL) (sd ra sz:Int):Qv (Z4 L sd ra sz) (QU Tryz.prog (JB JLv) Zh 9 0) 854 := by
  intro s hJ
  obtain ⟨h1,h2,h3,h4⟩:0 ≤ s.a ∧ L.length ≤ 1000000 ∧ (0 ≤ sz ∧ sz ≤ 1000000) ∧ s.R.length + s.k ≤ 1000 := hJ
  have nn:∀ x,0 ≤ x → 0 ≤ J1 x L := fun x h => JFQ x L h h2
  have n1 := nn _ h1
  have n2 := nn _ n1
  have n3 := nn _ n2
  have n4 := nn _ n3
  have n5 := nn _ n4
  have ez:IntKind.i64.wrap (0 - sz) = 0 - sz := X7 (by omega) (by omega)
  have e2:JSI s := by unfold JSI; omega
  have ri := JPA 4 (J1 (J1 s.a L) L) L (by omega) (by omega)
  have ri':(Jn 4 (J1 (J1 s.a L) L) L).toNat < 4 := by omega
  have rk := kt 1 3 (J1 (J1 (J1 s.a L) L) L) L (by omega) (by omega) (by omega)
  have rj:0 ≤ WK L s ∧ (WK L s).toNat < 4 := by
    unfold WK
    rw [X7 (by omega) (by omega)]
    have := Int.tmod_lt_of_pos (Jn 4 (J1 (J1 s.a L) L) L + Jb 1 3 (J1 (J1 (J1 s.a L) L) L) L) (b := 4) (by omega)
    have := Int.tmod_nonneg (a := Jn 4 (J1 (J1 s.a L) L) L + Jb 1 3 (J1 (J1 (J1 s.a L) L) L) L) 4 (by omega)
    omega
  have rz:IntKind.i64.wrap (0 - sz) ≤ sz ∧ -1000000 ≤ IntKind.i64.wrap (0 - sz) ∧ sz ≤ 1000000 := by rw [ez]; omega
  refine JoH L sd ra sz s ?_
  unfold JQs
  simp only [awc,awn,and_true]
  refine ⟨fun _ => ⟨h1,h2,by decide,fun _ => ⟨n1,h2,by decide,e2⟩,fun _ => ⟨fun _ => ⟨n1,h2,by decide,e2⟩,fun _ _ => ⟨n1,h2,by decide,n2,h2,by decide,n3,h2,by decide,ri.1,ri',ri',ri',ri.1,ri',ri',ri',rj.1,rj.2,rj.2,n4,h2,by decide,e2⟩⟩,fun _ _ _ => ⟨n1,h2,rz,n2,h2,rz,e2⟩⟩,?_,?_⟩
  · intro h0
    obtain ⟨k,hk⟩:∃ k,s.k = k + 1 := ⟨s.k - 1,by unfold Jix at h0; simp at h0; omega⟩
    have ek:IntKind.i64.wrap (Int.ofNat s.k - 1) = Int.ofNat (s.k - 1) := by rw [X7 (by simp; omega) (by simp; omega)]; simp; omega
    have key:∀ t,t.k = s.k - 1 → t = WL L sd ra sz s → JOS L sd ra sz t.k t = JOS L sd ra sz s.k s := fun t h1 h2 => by rw [h1,h2,hk]; rfl
    have len:∀ x,(s.R ++ [x]).length + (s.k - 1) ≤ 1000 := fun x => by simp; omega
    refine ⟨fun h => ?_,fun h => ⟨fun h' => ?_,fun h' => ⟨fun h'' => ?_,fun h'' => ?_⟩⟩⟩
    · exact ⟨⟨n2,h2,h3,len _⟩,by show s.k - 1 < s.k; omega,key _ rfl (by unfold JjT at h; unfold WL; rw [h]; rfl),ek.symm,rfl,rfl,rfl,rfl,rfl⟩
    · exact ⟨⟨n2,h2,h3,len _⟩,by show s.k - 1 < s.k; omega,key _ rfl (by unfold JPj at h; unfold Jle at h'; unfold WL; rw [h,h']; rfl),ek.symm,rfl,rfl,rfl,rfl,rfl⟩
    · exact ⟨⟨n5,h2,h3,len _⟩,by show s.k - 1 < s.k; omega,key _ rfl (by unfold JPj at h; unfold JX2 at h'; unfold Jj0 JPm at h''; unfold WL; rw [h,h',h'']; rfl),ek.symm,rfl,rfl,rfl,rfl,rfl⟩
    · exact ⟨⟨n3,h2,h3,len _⟩,by show s.k - 1 < s.k; omega,key _ rfl (by unfold JPj at h; unfold JX2 at h'; unfold JdA JPm at h''; unfold WL; rw [h,h',h'']; rfl),ek.symm,rfl,rfl,rfl,rfl,rfl⟩
  · intro h0
    have hk:s.k = 0 := by simp at h0; omega
    have e:JOS L sd ra sz s.k s = s := by rw [hk]; rfl
    show (JOS L sd ra sz s.k s).a = s.a ∧ (JOS L sd ra sz s.k s).x = s.x ∧ (JOS L sd ra sz s.k s).y = s.y ∧ (JOS L sd ra sz s.k s).z = s.z ∧ (JOS L sd ra sz s.k s).R = s.R
    rw [e]
    exact ⟨rfl,rfl,rfl,rfl,rfl⟩
def Jvm:QH := fun env mem m => match SX.JC env 9,SX.JC env 8,SX.JC env 5,SX.JC env 4,SX.JC env 3,SX.JC mem 0,SX.JC mem 1,SX.JC mem 522 with
  | some ⟨_,_,_,.one (.int _ n)⟩,some ⟨_,_,_,.one (.wh rid)⟩,some ⟨_,_,_,.one (.int _ sz)⟩,some ⟨_,_,_,.one (.int _ ra)⟩,some ⟨_,_,_,.one (.int _ sd)⟩,some (.blk _ [_,(_,.int _ a)]),some (.row _ _ _ (.lst _ _ L)),some (.blk _ [(_,.int _ x),(_,.int _ y),(_,.int _ z)]) => (match SX.JC mem rid with
    | some (.row _ _ _ (.lit _ rows)) => (match qD CKi rows with
      | some R => jY (Z4 L sd.val ra.val sz.val) 854 (fun _ _ => some ⟨n.val.toNat,a.val,x.val,y.val,z.val,R⟩) env mem m
      | none => none)
    | _ => none)
  | _,_,_,_,_,_,_,_ => none
def JXS:FuncId → Nat → Option QH := JBZ Zh 9 10 Jvm
theorem JXL:Known Tryz.prog (JB JLv) JXS := by
  refine Qj 0 JZ7 (by kernel_rfl) (Qy fun env mem m x h => ?_)
  unfold Jvm at h
  have hlen:(QZ Tryz.prog 9).length = 1 := by kernel_rfl
  split at h
  · split at h
    · split at h
      · exact ⟨_,XF (Qa Zy JZ7 (by omega)) (Jjm _ _ _ _),h⟩
      · cases h
    · cases h
  · cases h
theorem Jot {L:LL} {sd ra sz:Int} {s:CS} (hl:L.length ≤ 1000000) (h:0 ≤ s.a):0 ≤ (WL L sd ra sz s).a := by
  have nn:∀ x,0 ≤ x → 0 ≤ J1 x L := fun x h => JFQ x L h hl
  unfold WL
  generalize (bif Jn 10 s.a L == 2 then Jn 10 s.a L == 2 else Jn 10 s.a L == 3:Bool) = c
  cases Jn 10 s.a L == 0 <;> cases Jn 10 s.a L == 1 <;> cases c <;> first
    | exact nn _ (nn _ h)
    | exact nn _ (nn _ (nn _ h))
    | exact nn _ (nn _ (nn _ (nn _ (nn _ h))))
theorem Jsf {L:LL} {sd ra sz:Int} (hl:L.length ≤ 1000000):∀ (k:Nat) (s:CS),0 ≤ s.a → 0 ≤ (JOS L sd ra sz k s).a
  | 0,_,h => h
  | k + 1,s,h => Jsf hl k _ (Jot hl h)
theorem JoW (L:LL) (sd ra sz:Int) (s:CS):(WL L sd ra sz s).R.length = s.R.length + 1 := by
  unfold WL
  generalize (bif Jn 10 s.a L == 2 then Jn 10 s.a L == 2 else Jn 10 s.a L == 3:Bool) = c
  cases Jn 10 s.a L == 0 <;> cases Jn 10 s.a L == 1 <;> cases c <;> simp only [cond_true,cond_false,stO,stZ,stA,JwM,List.length_append,List.length_cons,List.length_nil]
theorem Jiw (L:LL) (sd ra sz:Int):∀ (k:Nat) (s:CS),(JOS L sd ra sz k s).R.length = s.R.length + k
  | 0,_ => rfl
  | k + 1,s => by
    have := Jiw L sd ra sz k (WL L sd ra sz s)
    rw [JoW] at this
    show (JOS L sd ra sz k (WL L sd ra sz s)).R.length = _
    omega
section
variable (x y z u v w a:Int) (L:LL)
def cSd:Int:= IntKind.i64.wrap (1 - IntKind.i64.wrap (2 * Jn 2 a L))
def cRa:Int:= bif Jn 4 (J1 (J1 a L) L) L == 0 then Jb 100 2000 (J1 (J1 (J1 a L) L) L) L else Jb 0 40 (J1 a L) L
def cSz:Int:= IntKind.i64.wrap (200 + IntKind.i64.wrap (6 * cRa a L))
def cA:Int:= bif Jn 4 (J1 (J1 a L) L) L == 0 then J1 (J1 (J1 (J1 a L) L) L) L else J1 (J1 (J1 a L) L) L
def cX:Int:= JI (WP 1000 (cA a L) L) (Jb (IntKind.i64.wrap (cRa a L + 1)) (cSz a L) (J1 (J1 (J1 (cA a L) L) L) L) L)
def cY:Int:= JI (WW 1000 (cA a L) L) (Jb (IntKind.i64.wrap (0 - cSz a L)) (cSz a L) (J1 (J1 (J1 (J1 (cA a L) L) L) L) L) L)
def cZ:Int:= JI (ZG 1000 (cA a L) L) 0
def cS:CS:= ⟨(Jb 1 6 (J1 (J1 (J1 (J1 (J1 (cA a L) L) L) L) L) L) L).toNat,J1 (J1 (J1 (J1 (J1 (J1 (cA a L) L) L) L) L) L) L,cX a L,cY a L,cZ a L, [itL (WP 1000 (cA a L) L) (WW 1000 (cA a L) L) (ZG 1000 (cA a L) L) (cX a L) (cY a L) (cZ a L) 60000 (cSd a L) (cRa a L)]⟩
def cT:CS:= JOS L (cSd a L) (cRa a L) (cSz a L) (cS a L).k (cS a L)
def itM:List Int:= [2,0,x,y,z,u,v,w,0,0,0,0,0,0,60000,0,0,0,0,0,0,0]
def Ji:LL:= (cT a L).R ++ [itM (cT a L).x (cT a L).y (cT a L).z (JI (cT a L).x (Jb (IntKind.i64.wrap (0 - cSz a L)) (cSz a L) (cT a L).a L)) (JI (cT a L).y (Jb (IntKind.i64.wrap (cRa a L + 1)) (cSz a L) (J1 (cT a L).a L) L)) (JI (cT a L).z 0)]
def Jvy:Int:= J1 (J1 (cT a L).a L) L
end
theorem JxB (a:Int) (L:LL):1 ≤ (cS a L).k ∧ (cS a L).k ≤ 6 := by
  have h := kt 1 6 (J1 (J1 (J1 (J1 (J1 (cA a L) L) L) L) L) L) L (by omega) (by omega) (by omega)
  unfold cS; dsimp only; omega
theorem JpE (a:Int) (L:LL):3 ≤ (Ji a L).length ∧ (Ji a L).length ≤ 8 := by
  have h := JxB a L
  have k := Jiw L (cSd a L) (cRa a L) (cSz a L) (cS a L).k (cS a L)
  have e:(cS a L).R.length = 1 := rfl
  unfold Ji cT
  simp only [List.length_append,List.length_cons,List.length_nil]
  omega
theorem Jmf (a:Int) (L:LL):0 ≤ cRa a L ∧ cRa a L ≤ 2000 := by
  have h1 := kt 0 40 (J1 a L) L (by omega) (by omega) (by omega)
  have h2 := kt 100 2000 (J1 (J1 (J1 a L) L) L) L (by omega) (by omega) (by omega)
  unfold cRa
  cases Jn 4 (J1 (J1 a L) L) L == 0
  · rw [cond_false]; omega
  · rw [cond_true]; omega
theorem JwX (a:Int) (L:LL):cSz a L = 200 + 6 * cRa a L := by
  have := Jmf a L
  unfold cSz
  rw [X7 (x := 6 * cRa a L) (by omega) (by omega),X7 (by omega) (by omega)]
theorem JxL {a:Int} {L:LL} (h:0 ≤ a) (hl:L.length ≤ 1000000):0 ≤ cA a L := by
  have nn:∀ x,0 ≤ x → 0 ≤ J1 x L := fun x h => JFQ x L h hl
  unfold cA
  cases Jn 4 (J1 (J1 a L) L) L == 0
  · exact nn _ (nn _ (nn _ h))
  · exact nn _ (nn _ (nn _ (nn _ h)))
def Kw:Tpl := ⟨[.one (.ptr 0 0)],[(0,.blk 57 [(2,.wh 1),(3,.int .i64)]),(1,.row true 3 1 4 [.int .i64])],5⟩
section
variable (a:Int) (L:LL)
def Zz:Int:= IntKind.i64.wrap (1 - IntKind.i64.wrap (2 * Jn 2 a L))
def Zk:Int:= bif Jn 4 (J1 (J1 a L) L) L == 0 then Jb 100 2000 (J1 (J1 (J1 a L) L) L) L else Jb 0 40 (J1 a L) L
def Zj:Int:= IntKind.i64.wrap (200 + IntKind.i64.wrap (6 * Zk a L))
def JZ:Int:= bif Jn 4 (J1 (J1 a L) L) L == 0 then J1 (J1 (J1 (J1 a L) L) L) L else J1 (J1 (J1 a L) L) L
def Ka:Int:= JI (WP 1000 (JZ a L) L) (Jb (IntKind.i64.wrap (Zk a L + 1)) (Zj a L) (J1 (J1 (J1 (JZ a L) L) L) L) L)
def KY:Int:= JI (WW 1000 (JZ a L) L) (Jb (IntKind.i64.wrap (0 - Zj a L)) (Zj a L) (J1 (J1 (J1 (J1 (JZ a L) L) L) L) L) L)
def JZ6:Int:= ((Z4 L (Zz a L) (Zk a L) (Zj a L)).fin (CS.mk (Jb 1 6 (J1 (J1 (J1 (J1 (J1 (JZ a L) L) L) L) L) L) L).toNat (J1 (J1 (J1 (J1 (J1 (J1 (JZ a L) L) L) L) L) L) L) (Ka a L) (KY a L) (JI (ZG 1000 (JZ a L) L) 0) [[2,0,WP 1000 (JZ a L) L,WW 1000 (JZ a L) L,ZG 1000 (JZ a L) L,Ka a L,KY a L,JI (ZG 1000 (JZ a L) L) 0,17,0,0,0,0,0,60000,0,Zz a L,Zk a L,0,0,0,0]])).x
def JYS:Int:= ((Z4 L (Zz a L) (Zk a L) (Zj a L)).fin (CS.mk (Jb 1 6 (J1 (J1 (J1 (J1 (J1 (JZ a L) L) L) L) L) L) L).toNat (J1 (J1 (J1 (J1 (J1 (J1 (JZ a L) L) L) L) L) L) L) (Ka a L) (KY a L) (JI (ZG 1000 (JZ a L) L) 0) [[2,0,WP 1000 (JZ a L) L,WW 1000 (JZ a L) L,ZG 1000 (JZ a L) L,Ka a L,KY a L,JI (ZG 1000 (JZ a L) L) 0,17,0,0,0,0,0,60000,0,Zz a L,Zk a L,0,0,0,0]])).y
def JZA:Int:= ((Z4 L (Zz a L) (Zk a L) (Zj a L)).fin (CS.mk (Jb 1 6 (J1 (J1 (J1 (J1 (J1 (JZ a L) L) L) L) L) L) L).toNat (J1 (J1 (J1 (J1 (J1 (J1 (JZ a L) L) L) L) L) L) L) (Ka a L) (KY a L) (JI (ZG 1000 (JZ a L) L) 0) [[2,0,WP 1000 (JZ a L) L,WW 1000 (JZ a L) L,ZG 1000 (JZ a L) L,Ka a L,KY a L,JI (ZG 1000 (JZ a L) L) 0,17,0,0,0,0,0,60000,0,Zz a L,Zk a L,0,0,0,0]])).z
def JVZ:Int:= ((Z4 L (Zz a L) (Zk a L) (Zj a L)).fin (CS.mk (Jb 1 6 (J1 (J1 (J1 (J1 (J1 (JZ a L) L) L) L) L) L) L).toNat (J1 (J1 (J1 (J1 (J1 (J1 (JZ a L) L) L) L) L) L) L) (Ka a L) (KY a L) (JI (ZG 1000 (JZ a L) L) 0) [[2,0,WP 1000 (JZ a L) L,WW 1000 (JZ a L) L,ZG 1000 (JZ a L) L,Ka a L,KY a L,JI (ZG 1000 (JZ a L) L) 0,17,0,0,0,0,0,60000,0,Zz a L,Zk a L,0,0,0,0]])).a
def JpH:LL:= ((Z4 L (Zz a L) (Zk a L) (Zj a L)).fin (CS.mk (Jb 1 6 (J1 (J1 (J1 (J1 (J1 (JZ a L) L) L) L) L) L) L).toNat (J1 (J1 (J1 (J1 (J1 (J1 (JZ a L) L) L) L) L) L) L) (Ka a L) (KY a L) (JI (ZG 1000 (JZ a L) L) 0) [[2,0,WP 1000 (JZ a L) L,WW 1000 (JZ a L) L,ZG 1000 (JZ a L) L,Ka a L,KY a L,JI (ZG 1000 (JZ a L) L) 0,17,0,0,0,0,0,60000,0,Zz a L,Zk a L,0,0,0,0]])).R ++ [[2,0,JZ6 a L,JYS a L,JZA a L,JI (JZ6 a L) (Jb (IntKind.i64.wrap (0 - Zj a L)) (Zj a L) (JVZ a L) L),JI (JYS a L) (Jb (IntKind.i64.wrap (Zk a L + 1)) (Zj a L) (J1 (JVZ a L) L) L),JI (JZA a L) 0,0,0,0,0,0,0,60000,0,0,0,0,0,0,0]]
end
def Jof (a:Int) (L:LL):Int :=
 J1 (J1 ((Z4 L (IntKind.i64.wrap (1 - IntKind.i64.wrap (2 * Jn 2 a L))) (Zk a L) (Zj a L)).fin (CS.mk (Jb 1 6 (J1 (J1 (J1 (J1 (J1 (JZ a L) L) L) L) L) L) L).toNat (J1 (J1 (J1 (J1 (J1 (J1 (JZ a L) L) L) L) L) L) L) (JI (WP 1000 (JZ a L) L) (Jb (IntKind.i64.wrap (Zk a L + 1)) (Zj a L) (J1 (J1 (J1 (JZ a L) L) L) L) L)) (JI (WW 1000 (JZ a L) L) (Jb (IntKind.i64.wrap (0 - Zj a L)) (Zj a L) (J1 (J1 (J1 (J1 (JZ a L) L) L) L) L) L)) (JI (ZG 1000 (JZ a L) L) 0) [(fun x => 2 :: x) ((fun x => 0 :: x) ((fun x => WP 1000 (bif Jn 4 (J1 (J1 a L) L) L == 0 then J1 (J1 (J1 (J1 a L) L) L) L else J1 (J1 (J1 a L) L) L) L :: x) ((fun x => WW 1000 (bif Jn 4 (J1 (J1 a L) L) L == 0 then J1 (J1 (J1 (J1 a L) L) L) L else J1 (J1 (J1 a L) L) L) L :: x) ((fun x => ZG 1000 (bif Jn 4 (J1 (J1 a L) L) L == 0 then J1 (J1 (J1 (J1 a L) L) L) L else J1 (J1 (J1 a L) L) L) L :: x) ((fun x => JI (WP 1000 (bif Jn 4 (J1 (J1 a L) L) L == 0 then J1 (J1 (J1 (J1 a L) L) L) L else J1 (J1 (J1 a L) L) L) L) (Jb (IntKind.i64.wrap ((bif Jn 4 (J1 (J1 a L) L) L == 0 then Jb 100 2000 (J1 (J1 (J1 a L) L) L) L else Jb 0 40 (J1 a L) L) + 1)) (IntKind.i64.wrap (200 + IntKind.i64.wrap (6 * bif Jn 4 (J1 (J1 a L) L) L == 0 then Jb 100 2000 (J1 (J1 (J1 a L) L) L) L else Jb 0 40 (J1 a L) L))) (J1 (J1 (J1 (bif Jn 4 (J1 (J1 a L) L) L == 0 then J1 (J1 (J1 (J1 a L) L) L) L else J1 (J1 (J1 a L) L) L) L) L) L) L) :: x) ((fun x => JI (WW 1000 (bif Jn 4 (J1 (J1 a L) L) L == 0 then J1 (J1 (J1 (J1 a L) L) L) L else J1 (J1 (J1 a L) L) L) L) (Jb (IntKind.i64.wrap (0 - IntKind.i64.wrap (200 + IntKind.i64.wrap (6 * bif Jn 4 (J1 (J1 a L) L) L == 0 then Jb 100 2000 (J1 (J1 (J1 a L) L) L) L else Jb 0 40 (J1 a L) L)))) (IntKind.i64.wrap (200 + IntKind.i64.wrap (6 * bif Jn 4 (J1 (J1 a L) L) L == 0 then Jb 100 2000 (J1 (J1 (J1 a L) L) L) L else Jb 0 40 (J1 a L) L))) (J1 (J1 (J1 (J1 (bif Jn 4 (J1 (J1 a L) L) L == 0 then J1 (J1 (J1 (J1 a L) L) L) L else J1 (J1 (J1 a L) L) L) L) L) L) L) L) :: x) ((fun x => JI (ZG 1000 (bif Jn 4 (J1 (J1 a L) L) L == 0 then J1 (J1 (J1 (J1 a L) L) L) L else J1 (J1 (J1 a L) L) L) L) 0 :: x) ((fun x => 17 :: x) ((fun x => 0 :: x) ((fun x => 0 :: x) ((fun x => 0 :: x) ((fun x => 0 :: x) ((fun x => 0 :: x) ((fun x => 60000 :: x) ((fun x => 0 :: x) ((fun x => IntKind.i64.wrap (1 - IntKind.i64.wrap (2 * Jn 2 a L)) :: x) ((fun x => (bif Jn 4 (J1 (J1 a L) L) L == 0 then Jb 100 2000 (J1 (J1 (J1 a L) L) L) L else Jb 0 40 (J1 a L) L) :: x) ((fun x => 0 :: x) ((fun x => 0 :: x) ((fun x => 0 :: x) ((fun x => 0 :: x) [])))))))))))))))))))))])).a L) L
section
variable (a:Int) (L:LL)
def JJb:Bool:= Jn 4 (J1 (J1 a L) L) L == 0
def JV:Int:= bif JJb a L then J1 (J1 (J1 (J1 a L) L) L) L else J1 (J1 (J1 a L) L) L
def K4:Int:= bif JJb a L then Jb 100 2000 (J1 (J1 (J1 a L) L) L) L else Jb 0 40 (J1 a L) L
def Qf:Int:= IntKind.i64.wrap (200 + IntKind.i64.wrap (6 * K4 a L))
def X8:Int:= JI (WP 1000 (JV a L) L) (Jb (IntKind.i64.wrap (K4 a L + 1)) (Qf a L) (J1 (J1 (J1 (JV a L) L) L) L) L)
def X9:Int:= JI (WW 1000 (JV a L) L) (Jb (IntKind.i64.wrap (0 - Qf a L)) (Qf a L) (J1 (J1 (J1 (J1 (JV a L) L) L) L) L) L)
def XT:LL:= [[2,0,WP 1000 (JV a L) L,WW 1000 (JV a L) L,ZG 1000 (JV a L) L,X8 a L,X9 a L,JI (ZG 1000 (JV a L) L) 0,17,0,0,0,0,0,60000,0,Zz a L,K4 a L,0,0,0,0]]
def JSt:Int:= (CS.mk (Jb 1 6 (J1 (J1 (J1 (J1 (J1 (JV a L) L) L) L) L) L) L).toNat (J1 (J1 (J1 (J1 (J1 (J1 (JV a L) L) L) L) L) L) L) (X8 a L) (X9 a L) (JI (ZG 1000 (JV a L) L) 0) (XT a L)).a
def JT6:LL:= (CS.mk (Jb 1 6 (J1 (J1 (J1 (J1 (J1 (JV a L) L) L) L) L) L) L).toNat (J1 (J1 (J1 (J1 (J1 (J1 (JV a L) L) L) L) L) L) L) (X8 a L) (X9 a L) (JI (ZG 1000 (JV a L) L) 0) (XT a L)).R
def JTt:Int:= ((Z4 L (Zz a L) (K4 a L) (Qf a L)).fin (CS.mk (Jb 1 6 (J1 (J1 (J1 (J1 (J1 (JV a L) L) L) L) L) L) L).toNat (J1 (J1 (J1 (J1 (J1 (J1 (JV a L) L) L) L) L) L) L) (X8 a L) (X9 a L) (JI (ZG 1000 (JV a L) L) 0) (XT a L))).a
def W5:List Prop:=
 [0 ≤ a,L.length ≤ 1000000,Int.ofNat 2 ≠ 0,0 ≤ J1 a L,L.length ≤ 1000000,Int.ofNat 0 ≤ 40 ∧ -1000000 ≤ 0 ∧ Int.ofNat 40 ≤ 1000000,0 ≤ J1 (J1 a L) L,L.length ≤ 1000000,Int.ofNat 4 ≠ 0,JJb a L = true → 0 ≤ J1 (J1 (J1 a L) L) L ∧ L.length ≤ 1000000 ∧ Int.ofNat 100 ≤ 2000 ∧ -1000000 ≤ 100 ∧ Int.ofNat 2000 ≤ 1000000,0 ≤ JV a L,L.length ≤ 1000000,Int.ofNat 0 ≤ 1000 ∧ Int.ofNat 1000 ≤ 1000000,0 ≤ J1 (J1 (J1 (JV a L) L) L) L,L.length ≤ 1000000,IntKind.i64.wrap (K4 a L + 1) ≤ Qf a L ∧ -1000000 ≤ IntKind.i64.wrap (K4 a L + 1) ∧ Qf a L ≤ 1000000,0 ≤ J1 (J1 (J1 (J1 (JV a L) L) L) L) L,L.length ≤ 1000000,IntKind.i64.wrap (0 - Qf a L) ≤ Qf a L ∧ -1000000 ≤ IntKind.i64.wrap (0 - Qf a L) ∧ Qf a L ≤ 1000000,0 ≤ J1 (J1 (J1 (J1 (J1 (JV a L) L) L) L) L) L,L.length ≤ 1000000,Int.ofNat 1 ≤ 6 ∧ -1000000 ≤ 1 ∧ Int.ofNat 6 ≤ 1000000,0 ≤ JSt a L ∧ L.length ≤ 1000000 ∧ (0 ≤ Qf a L ∧ Qf a L ≤ 1000000) ∧ (JT6 a L).length + (CS.mk (Jb 1 6 (J1 (J1 (J1 (J1 (J1 (JV a L) L) L) L) L) L) L).toNat (J1 (J1 (J1 (J1 (J1 (J1 (JV a L) L) L) L) L) L) L) (X8 a L) (X9 a L) (JI (ZG 1000 (JV a L) L) 0) (XT a L)).k ≤ 1000,Int.ofNat (CS.mk (Jb 1 6 (J1 (J1 (J1 (J1 (J1 (JV a L) L) L) L) L) L) L).toNat (J1 (J1 (J1 (J1 (J1 (J1 (JV a L) L) L) L) L) L) L) (X8 a L) (X9 a L) (JI (ZG 1000 (JV a L) L) 0) (XT a L)).k = Jb 1 6 (J1 (J1 (J1 (J1 (J1 (JV a L) L) L) L) L) L) L,JSt a L = J1 (J1 (J1 (J1 (J1 (J1 (JV a L) L) L) L) L) L) L,(CS.mk (Jb 1 6 (J1 (J1 (J1 (J1 (J1 (JV a L) L) L) L) L) L) L).toNat (J1 (J1 (J1 (J1 (J1 (J1 (JV a L) L) L) L) L) L) L) (X8 a L) (X9 a L) (JI (ZG 1000 (JV a L) L) 0) (XT a L)).x = X8 a L,(CS.mk (Jb 1 6 (J1 (J1 (J1 (J1 (J1 (JV a L) L) L) L) L) L) L).toNat (J1 (J1 (J1 (J1 (J1 (J1 (JV a L) L) L) L) L) L) L) (X8 a L) (X9 a L) (JI (ZG 1000 (JV a L) L) 0) (XT a L)).y = X9 a L,(CS.mk (Jb 1 6 (J1 (J1 (J1 (J1 (J1 (JV a L) L) L) L) L) L) L).toNat (J1 (J1 (J1 (J1 (J1 (J1 (JV a L) L) L) L) L) L) L) (X8 a L) (X9 a L) (JI (ZG 1000 (JV a L) L) 0) (XT a L)).z = JI (ZG 1000 (JV a L) L) 0,JT6 a L = XT a L,0 ≤ JTt a L,L.length ≤ 1000000,IntKind.i64.wrap (0 - Qf a L) ≤ Qf a L ∧ -1000000 ≤ IntKind.i64.wrap (0 - Qf a L) ∧ Qf a L ≤ 1000000,0 ≤ J1 (JTt a L) L,L.length ≤ 1000000,IntKind.i64.wrap (K4 a L + 1) ≤ Qf a L ∧ -1000000 ≤ IntKind.i64.wrap (K4 a L + 1) ∧ Qf a L ≤ 1000000,(((Z4 L (Zz a L) (K4 a L) (Qf a L)).fin (CS.mk (Jb 1 6 (J1 (J1 (J1 (J1 (J1 (JV a L) L) L) L) L) L) L).toNat (J1 (J1 (J1 (J1 (J1 (J1 (JV a L) L) L) L) L) L) L) (X8 a L) (X9 a L) (JI (ZG 1000 (JV a L) L) 0) (XT a L))).R.length + 1) * 176 ≤ 140737488355328,((Z4 L (Zz a L) (K4 a L) (Qf a L)).fin (CS.mk (Jb 1 6 (J1 (J1 (J1 (J1 (J1 (JV a L) L) L) L) L) L) L).toNat (J1 (J1 (J1 (J1 (J1 (J1 (JV a L) L) L) L) L) L) L) (X8 a L) (X9 a L) (JI (ZG 1000
 (JV a L) L) 0) (XT a L))).R.length + 1 ≤ 9223372036854775807]
end
theorem Jdb {a:Int} {L:LL} (hW:∀ q ∈ ([0 ≤ a,L.length ≤ 1000000]:List Prop),q):∀ q ∈ (W5 a L),q := by
  simp only [awc,awn,and_true] at hW
  unfold W5
  simp only [awc,awn,and_true]
  obtain ⟨h1,h2⟩ := hW
  have nn:∀ x,0 ≤ x → 0 ≤ J1 x L := fun x h => JFQ x L h h2
  have n1 := nn _ h1
  have n2 := nn _ n1
  have n3 := nn _ n2
  have r := Jmf a L
  have z := JwX a L
  have k0:(0:Int) ≤ 40 ∧ (-1000000:Int) ≤ 0 ∧ (40:Int) ≤ 1000000 := by decide
  have m0 := JxL h1 h2
  have m1 := nn _ m0
  have m2 := nn _ m1
  have m3 := nn _ m2
  have m4 := nn _ m3
  have m5 := nn _ m4
  have m6 := nn _ m5
  have w1:IntKind.i64.wrap (cRa a L + 1) = cRa a L + 1 := X7 (by omega) (by omega)
  have w2:IntKind.i64.wrap (0 - cSz a L) = 0 - cSz a L := X7 (by omega) (by omega)
  have p1:IntKind.i64.wrap (cRa a L + 1) ≤ cSz a L ∧ -1000000 ≤ IntKind.i64.wrap (cRa a L + 1) ∧ cSz a L ≤ 1000000 := by rw [w1]; omega
  have p2:IntKind.i64.wrap (0 - cSz a L) ≤ cSz a L ∧ -1000000 ≤ IntKind.i64.wrap (0 - cSz a L) ∧ cSz a L ≤ 1000000 := by rw [w2]; omega
  have p3:0 ≤ cSz a L ∧ cSz a L ≤ 1000000 := by omega
  have kk := JxB a L
  have q1:(cS a L).R.length + (cS a L).k ≤ 1000 := by
    have e:(cS a L).R.length = 1 := rfl
    omega
  have q2:Int.ofNat (cS a L).k = Jb 1 6 (J1 (J1 (J1 (J1 (J1 (cA a L) L) L) L) L) L) L := by
    have h := kt 1 6 (J1 (J1 (J1 (J1 (J1 (cA a L) L) L) L) L) L) L (by omega) (by omega) (by omega)
    exact Int.toNat_of_nonneg (by omega)
  have ta:0 ≤ (cT a L).a := Jsf h2 _ _ m6
  have tr:(cT a L).R.length ≤ 7 := by
    have := Jiw L (cSd a L) (cRa a L) (cSz a L) (cS a L).k (cS a L)
    have e:(cS a L).R.length = 1 := rfl
    unfold cT; omega
  exact ⟨h1,h2,by decide,n1,h2,k0,n2,h2,by decide,fun _ => ⟨n3,h2,by decide⟩,m0,h2,by decide,m3,h2,p1,m4,h2,p2,m5,h2,by decide,⟨m6,h2,p3,q1⟩,q2,rfl,trivial,trivial,trivial,rfl,ta,h2,p2,nn _ ta,h2,p1,(show ((cT a L).R.length + 1) * 176 ≤ 140737488355328 ∧ (cT a L).R.length + 1 ≤ 9223372036854775807 by omega)⟩
def Jk7 (a:Int) (L:LL):Jo := [(1158,Obj.row false 40 22 (RowC.lst 1160 jH (JpH a L))),(0,Obj.blk 57 [(2,SC.wh 1),(1100,Ci (Jof a L))]),(1,Obj.row true 3 1 (RowC.lst 4 [CK.int IntKind.i64] L))]
theorem Jet (a:Int) (L:LL) (hNeeds:∀ pN ∈ (W5 a L),pN):Runs (Js (JB JLv) JXS 9) (Kw.args [.i a]) (Kw.memo [.i a] [L]) Kw.n (SV.one (SC.wh 1158)) (Jk7 a L) :=
  Runs.of1 (ps := (W5 a L)) (by kernel_rfl) hNeeds
def JK1:List Pm → Qr → Option CRes
  | [.i a],[L] => some ⟨SV.one (SC.wh 1158),[(1158,Obj.row false 40 22 (RowC.lst 1160 jH ((Ji a L)))),(0,Obj.blk 57 [(2,SC.wh 1),(1100,Ci ((Jvy a L)))]),(1,Obj.row true 3 1 (RowC.lst 4 [CK.int IntKind.i64] L))],[0 ≤ a,L.length ≤ 1000000],[],1163⟩
  | _,_ => none
theorem Ja0 (a:Int) (L:LL) (hNeeds:∀ pN ∈ (W5 a L),pN):Runs (Js (JB JLv) JXS 9) (Kw.args [.i a]) (Kw.memo [.i a] [L]) Kw.n (SV.one (SC.wh 1158))
    ([(1158,
     Obj.row false 40 22
     (RowC.lst 1160
     [CK.int IntKind.i64,CK.int IntKind.i64,CK.int IntKind.i64,CK.int IntKind.i64,CK.int IntKind.i64,CK.int IntKind.i64,CK.int IntKind.i64,CK.int IntKind.i64,CK.int IntKind.i64,
     CK.int IntKind.i64,CK.int IntKind.i64,CK.int IntKind.i64,CK.int IntKind.i64,CK.bool,CK.int IntKind.i64,CK.bool,CK.int IntKind.i64,CK.int IntKind.i64,CK.int IntKind.i64,
     CK.int IntKind.i64,CK.int IntKind.i64,CK.bool]
     ((Ji a L)))),
    (0,Obj.blk 57 [(2,SC.wh 1),(1100,SC.int IntKind.i64 (SI.v ((Jvy a L))))]),(1,Obj.row true 3 1 (RowC.lst 4 [CK.int IntKind.i64] L))]) :=
  (Jet a L hNeeds).to (by first | rfl | (simp only [])) (by first | rfl | (simp only []))
theorem JlU:Qk Tryz.prog 9 (JS Kw JK1) := by
  refine JH (JD JXL 9) fun ps ls r hr hn _ => ?_
  unfold JK1 at hr
  split at hr
  · cases hr; exact ⟨_,Ja0 _ _ (Jdb (by exact hn)),fun _ => rfl⟩
  · cases hr
def jk:List (Nat × JW) := (9,JS Kw JK1) :: JLv
theorem JLG:Known Tryz.prog (JB jk) JXS := J7 JXL JlU
end
end Go.Proofs.YtmbfbhimdkjkoaaGreat
