/-
  Texts of one claim, laid together. Conditions: none.
-/
import Derived.Test.YtmbfbhimdkjkoaaGreatM9a1b7d0c
import Derived.Test.YtmbfbhimdkjkoaaGreatM53944372
set_option linter.all false
set_option maxRecDepth 1000000
namespace Go.Proofs.YtmbfbhimdkjkoaaGreat
noncomputable section
open Go.SX Go.RowKit
def JFz:Tpl := ⟨[.one (.ptr 0 0),.agg pI],Y5,62⟩
def JP2:List GK := [.v Q5,.v Q5,.v Q5,.i,.i,.b,.b,.b,.b,.b,.i,.i,.i,.i]
def Kp (x l:List GC) := xb x 13 || !(J4 (xi l 8) (xi x 2) (xi x 3) (xi x 4) == J4 (xi l 8) (xi x 5) (xi x 6) (xi x 7) && J5 (xi l 8) (xi x 2) (xi x 3) (xi x 4) == J5 (xi l 8) (xi x 5) (xi x 6) (xi x 7))
section
variable (x l y:List GC) (q0:Nat) (q1 q2 a0 a1:Int) (tr:Bool) (C:LL)
def jJ:Int:= bif xi x 0 == 1 || xi x 0 == 11 || xi x 0 == 14 then 13 else bif J3 (xi x 0) && (xi x 8 != xi l 8 || xi x 16 != xi l 16 || xi x 17 != xi l 17) then 13 else bif !J3 (xi x 0) || !(Kp x l) then bif Int.ofNat C.length == 8 then 10 else 0 else bif xi y 0 == 0 then JOJ (J2 x) (J2 l) else JNV (J2 x) (J2 l) (J2 y) a0 a1 tr
def ZE:Int:= bif xi x 0 == 1 || xi x 0 == 11 || xi x 0 == 14 then xi y q0 else bif J3 (xi x 0) && (xi x 8 != xi l 8 || xi x 16 != xi l 16 || xi x 17 != xi l 17) then xi y q0 else bif !J3 (xi x 0) || !(Kp x l) then xi y q0 else bif xi y 0 == 0 then q1 else q2
def JFp:Int:= ZE x l y 0 (JYJ (J2 x) (J2 l) (J2 y)) (JV4 (J2 x) (J2 l) (J2 y) a0 a1 tr)
def JGE:Int:= ZE x l y 1 (JYF (J2 x) (J2 l) (J2 y)) (JVb (J2 x) (J2 l) (J2 y) a0 a1 tr)
def JGk:Int:= ZE x l y 2 (JZT (J2 x) (J2 l) (J2 y)) (JV1 (J2 x) (J2 l) (J2 y) a0 a1 tr)
def JFQ:Int:= ZE x l y 3 (JXE (J2 x) (J2 l) (J2 y)) (JVX (J2 x) (J2 l) (J2 y) a0 a1 tr)
def JGm:Int:= ZE x l y 4 (JWB (J2 x) (J2 l) (J2 y)) (JVZ (J2 x) (J2 l) (J2 y) a0 a1 tr)
def JGW:Int:= ZE x l y 5 (JXt (J2 x) (J2 l) (J2 y)) (JVE (J2 x) (J2 l) (J2 y) a0 a1 tr)
def JEk:Int:= ZE x l y 6 (JaA (J2 x) (J2 l) (J2 y)) (JUv (J2 x) (J2 l) (J2 y) a0 a1 tr)
def JF8:Int:= ZE x l y 7 (JZA (J2 x) (J2 l) (J2 y)) (JVN (J2 x) (J2 l) (J2 y) a0 a1 tr)
def JGO:Int:= ZE x l y 8 (JWD (J2 x) (J2 l) (J2 y)) (JVF (J2 x) (J2 l) (J2 y) a0 a1 tr)
def JG7:Int:= ZE x l y 9 (JWJ (J2 x) (J2 l) (J2 y)) (JVS (J2 x) (J2 l) (J2 y) a0 a1 tr)
def JFl:Int:= ZE x l y 10 (Jb4 (J2 x) (J2 l) (J2 y)) (JVU (J2 x) (J2 l) (J2 y) a0 a1 tr)
def JGf:Int:= ZE x l y 11 (JVy (J2 x) (J2 l) (J2 y)) (JVc (J2 x) (J2 l) (J2 y) a0 a1 tr)
def JG2:Int:= ZE x l y 12 (JWe (J2 x) (J2 l) (J2 y)) (JUq (J2 x) (J2 l) (J2 y) a0 a1 tr)
end
section
variable (x l y:List GC) (a0 a1:Int) (tr:Bool) (C O:LL) (q0:Nat) (q1 q2:Bool)
def JDA:Bool:= bif xi x 0 == 1 || xi x 0 == 11 || xi x 0 == 14 then xb y q0 else bif J3 (xi x 0) && (xi x 8 != xi l 8 || xi x 16 != xi l 16 || xi x 17 != xi l 17) then xb y q0 else bif !J3 (xi x 0) || !(Kp x l) then xb y q0 else bif xi y 0 == 0 then q1 else q2
def JEt:Bool:= JDA x l y 13 (JW3 (J2 x) (J2 l) (J2 y)) (JVJ (J2 x) (J2 l) (J2 y) a0 a1 tr)
def JG1:Int:= ZE x l y 14 (Jb3 (J2 x) (J2 l) (J2 y)) (JVB (J2 x) (J2 l) (J2 y) a0 a1 tr)
def JFP:Bool:= JDA x l y 15 (JYz (J2 x) (J2 l) (J2 y)) (JVW (J2 x) (J2 l) (J2 y) a0 a1 tr)
def JGB:Int:= ZE x l y 16 (JZI (J2 x) (J2 l) (J2 y)) (JVP (J2 x) (J2 l) (J2 y) a0 a1 tr)
def JG8:Int:= ZE x l y 17 (Ja0 (J2 x) (J2 l) (J2 y)) (JV8 (J2 x) (J2 l) (J2 y) a0 a1 tr)
def JEw:Int:= ZE x l y 18 (JWx (J2 x) (J2 l) (J2 y)) (JV6 (J2 x) (J2 l) (J2 y) a0 a1 tr)
def JGc:Int:= ZE x l y 19 (Ja1 (J2 x) (J2 l) (J2 y)) (JVY (J2 x) (J2 l) (J2 y) a0 a1 tr)
def JFN:Int:= ZE x l y 20 (JYs (J2 x) (J2 l) (J2 y)) (JUr (J2 x) (J2 l) (J2 y) a0 a1 tr)
def JGR:Bool:= JDA x l y 21 (Jan (J2 x) (J2 l) (J2 y)) (JVK (J2 x) (J2 l) (J2 y) a0 a1 tr)
def JGU:Int:= bif xi x 0 == 1 || xi x 0 == 11 || xi x 0 == 14 then a0 else bif J3 (xi x 0) && (xi x 8 != xi l 8 || xi x 16 != xi l 16 || xi x 17 != xi l 17) then a0 else bif !J3 (xi x 0) || !(Kp x l) then a0 else bif xi y 0 == 0 then JZc (J2 x) (J2 l) a0 else JVA (J2 x) (J2 l) (J2 y) a0 a1 tr
def JFh:Int:= bif xi x 0 == 1 || xi x 0 == 11 || xi x 0 == 14 then a1 else bif J3 (xi x 0) && (xi x 8 != xi l 8 || xi x 16 != xi l 16 || xi x 17 != xi l 17) then a1 else bif !J3 (xi x 0) || !(Kp x l) then a1 else bif xi y 0 == 0 then Ja5 (J2 x) (J2 l) a1 else JVM (J2 x) (J2 l) (J2 y) a0 a1 tr
def JGF:Bool:= bif xi x 0 == 1 || xi x 0 == 11 || xi x 0 == 14 then tr else bif J3 (xi x 0) && (xi x 8 != xi l 8 || xi x 16 != xi l 16 || xi x 17 != xi l 17) then tr else bif !J3 (xi x 0) || !(Kp x l) then tr else bif xi y 0 == 0 then tr else JUu (J2 x) (J2 l) (J2 y) a0 a1 tr
def YE:LL:= bif xi x 0 == 1 || xi x 0 == 11 || xi x 0 == 14 then O else bif J3 (xi x 0) && (xi x 8 != xi l 8 || xi x 16 != xi l 16 || xi x 17 != xi l 17) then O else bif !J3 (xi x 0) || !(Kp x l) then O else bif xi y 0 == 0 then JFn (J2 x) (J2 l) C O else JE1 (J2 x) (J2 l) (J2 y) a0 a1 tr C O
def kK:LL:= bif xi x 0 == 1 || xi x 0 == 11 || xi x 0 == 14 then C else bif J3 (xi x 0) && (xi x 8 != xi l 8 || xi x 16 != xi l 16 || xi x 17 != xi l 17) then C else bif !J3 (xi x 0) || !(Kp x l) then bif Int.ofNat C.length == 8 then C else C ++ [JFw x] else bif xi y 0 == 0 then JJp (J2 x) (J2 l) C else JKy (J2 x) (J2 l) (J2 y) a0 a1 tr C
def WI:Prop:= (xi x 0 == 1 || xi x 0 == 11 || xi x 0 == 14) = false
def WA:Prop:= (J3 (xi x 0) && (xi x 8 != xi l 8 || xi x 16 != xi l 16 || xi x 17 != xi l 17)) = false
def W9:Prop:= (!J3 (xi x 0) || !(Kp x l)) = false
def W8:Prop:= C.length ≤ 1000 ∧ O.length ≤ 800000
def JDZ:List Prop:= [WI x → WA x l → ((!J3 (xi x 0) || !(Kp x l)) = true → (Int.ofNat C.length == 8) = false → (C.length + 1) * 176 ≤ 140737488355328 ∧ C.length + 1 ≤ 9223372036854775807) ∧ (W9 x l → (xi y 0 == 0) = true → W8 C O),WI x → WA x l → W9 x l → (xi y 0 == 0) = false → W8 C O]
end
theorem Jmb {x:List GC} {l:List GC} {y:List GC} {C:LL} {O:LL} (hW:∀ q ∈ ([C.length ≤ 1000,O.length ≤ 800000]:List Prop),q):∀ q ∈ (JDZ x l y C O),q := by
  simp only [awc,awn,and_true] at hW
  unfold JDZ
  simp only [awc,awn,and_true]
  obtain ⟨h1,h2⟩ := hW
  exact ⟨fun _ _ => ⟨fun _ _ => ⟨by omega,by omega⟩,fun _ _ => ⟨h1,h2⟩⟩,fun _ _ _ _ => ⟨h1,h2⟩⟩
def JAB := jI
def Ju7 (l x y:List GC) (a0 a1:Int) (tr op cl en mo:Bool) (la0 la1 la2 er:Int) (C O:LL) := [(0,Obj.blk 66 [(3,Ci (xi l 0)),(4,Ci (xi l 1)),(5,Ci (xi l 2)),(6,Ci (xi l 3)),(7,Ci (xi l 4)),(8,Ci (xi l 5)),(9,Ci (xi l 6)),(10,Ci (xi l 7)),(11,Ci (xi l 8)),(12,Ci (xi l 9)),(13,Ci (xi l 10)),(14,Ci (xi l 11)),(15,Ci (xi l 12)),(16,Cb (xb l 13)),(17,Ci (xi l 14)),(18,Cb (xb l 15)),(19,Ci (xi l 16)),(20,Ci (xi l 17)),(21,Ci (xi l 18)),(22,Ci (xi l 19)),(23,Ci (xi l 20)),(24,Cb (xb l 21)),(79778,Ci (JFp x l y a0 a1 tr)),(79779,Ci (JGE x l y a0 a1 tr)),(79780,Ci (JGk x l y a0 a1 tr)),(79781,Ci (JFQ x l y a0 a1 tr)),(79782,Ci (JGm x l y a0 a1 tr)),(79783,Ci (JGW x l y a0 a1 tr)),(79784,Ci (JEk x l y a0 a1 tr)),(79785,Ci (JF8 x l y a0 a1 tr)),(79786,Ci (JGO x l y a0 a1 tr)),(79787,Ci (JG7 x l y a0 a1 tr)),(79788,Ci (JFl x l y a0 a1 tr)),(79789,Ci (JGf x l y a0 a1 tr)),(79790,Ci (JG2 x l y a0 a1 tr)),(79791,Cb (JEt x l y a0 a1 tr)),(79792,Ci (JG1 x l y a0 a1 tr)),(79793,Cb (JFP x l y a0 a1 tr)),(79794,Ci (JGB x l y a0 a1 tr)),(79795,Ci (JG8 x l y a0 a1 tr)),(79796,Ci (JEw x l y a0 a1 tr)),(79797,Ci (JGc x l y a0 a1 tr)),(79798,Ci (JFN x l y a0 a1 tr)),(79799,Cb (JGR x l y a0 a1 tr)),(79800,Ci (JGU x l y a0 a1 tr)),(79801,Ci (JFh x l y a0 a1 tr)),(79802,Cb (JGF x l y a0 a1 tr)),(79772,SC.wh 79770),(51,Cb op),(52,Cb cl),(53,Cb en),(54,Cb mo),(55,Ci la0),(56,Ci la1),(57,Ci la2),(79775,SC.wh 79773),(59,Ci er)]),(79773,Obj.row false 40 22 (RowC.lst 79777 JAB (YE x l y a0 a1 tr C O))),(79770,Obj.row false 40 22 (RowC.lst 79776 JAB (kK x l y a0 a1 tr C)))]
theorem JlK (x l y:List GC) (a0 a1:Int) (tr op cl en mo:Bool) (la0 la1 la2 er:Int) (C O:LL) (hNeeds:∀ pN ∈ (JDZ x l y C O),pN):Runs (Jm (JC JaL) Zh 50) (JFz.args (Je JP2 [.v x,.v l,.v y,.i a0,.i a1,.b tr,.b op,.b cl,.b en,.b mo,.i la0,.i la1,.i la2,.i er])) (JFz.memo (Je JP2 [.v x,.v l,.v y,.i a0,.i a1,.b tr,.b op,.b cl,.b en,.b mo,.i la0,.i la1,.i la2,.i er]) [C,O]) JFz.n (SV.one (Ci (jJ x l y a0 a1 tr C))) ((Ju7 l x y a0 a1 tr op cl en mo la0 la1 la2 er C O)) :=
  Runs.of1 (ps := (JDZ x l y C O)) (by kernel_rfl) hNeeds
def JQQ:List Gm → Qs → Option CRes
  | [.v x,.v l,.v y,.i a0,.i a1,.b tr,.b op,.b cl,.b en,.b mo,.i la0,.i la1,.i la2,.i er],[C,O] => some ⟨SV.one (Ci (jJ x l y a0 a1 tr C)),
 (Ju7 l x y a0 a1 tr op cl en mo la0 la1 la2 er C O),[C.length ≤ 1000,O.length ≤ 800000],[],79803⟩
  | _,_ => none
theorem JsZ:Ql Tryz.prog 50 (Z7 JP2 JFz JQQ) := by
  refine Qg (JE JP4 50) fun ps ls r hr hn _ => ?_
  unfold JQQ at hr
  split at hr
  · cases hr; exact ⟨_,JlK _ _ _ _ _ _ _ _ _ _ _ _ _ _ _ _ (Jmb (by exact hn)),fun _ => rfl⟩
  · cases hr
def Jfv:List (Nat × JY) := (50,Z7 JP2 JFz JQQ) :: JaL
theorem JU8:Known Tryz.prog (JC Jfv) Zh := J7 JP4 JsZ
theorem Jdz (x l y:List GC) (a0 a1:Int) (tr:Bool) (C O:LL):(YE x l y a0 a1 tr C O).length ≤ O.length + C.length + 3 := by
  unfold YE
  repeat' first | exact chO | exact Jdt .. | exact JiI .. | refine jE ?_ ?_
theorem Jfy (x l:List GC) (C:LL):(JJp x l C).length ≤ C.length := by
  unfold JJp
  repeat' first | exact Nat.le_refl _ | exact Nat.zero_le _ | refine jE ?_ ?_
theorem JiD (x l y:List GC) (a0 a1:Int) (tr:Bool) (C:LL):(JKy x l y a0 a1 tr C).length ≤ C.length := by
  unfold JKy
  repeat' first | exact Nat.le_refl _ | exact Nat.zero_le _ | refine jE ?_ ?_
theorem chC {C:LL} {r:List Int} (h:C.length ≤ 8):(bif Int.ofNat C.length == 8 then C else C ++ [r]).length ≤ 8 := by
  cases e:(Int.ofNat C.length == 8)
  · have:C.length ≠ 8 := fun h => by rw [h] at e; exact absurd e (by decide)
    simp only [cond_false,List.length_append,List.length_cons,List.length_nil]; omega
  · exact h
theorem JgE (x l y:List GC) (a0 a1:Int) (tr:Bool) (C:LL) (h:C.length ≤ 8):(kK x l y a0 a1 tr C).length ≤ 8 := by
  unfold kK
  repeat' first | exact h | exact Nat.le_trans (Jfy ..) h | exact Nat.le_trans (JiD ..) h | exact chC h | refine jE ?_ ?_
def JJ4:Tpl := ⟨[.one (.ptr 0 0),.agg pI],Y5,62⟩
def JV3:List GK := [.v Q5,.v Q5,.v Q5,.i,.i,.b,.b,.b,.b,.b,.i,.i,.i,.i]
section
variable (x l y:List GC) (a0 a1:Int) (tr op cl en mo:Bool) (la0 la1 la2:Int) (q0:Nat) (q1 q2:Int) (C:LL)
def Kj:Int:= bif cl then 13 else bif !Qf (J2 x) || en || J3 (xi x 0) && mo && !(xi x 2 == la0 && (xi x 3 == la1 && xi x 4 == la2)) then 1 else bif !op && J3 (xi x 0) && xi x 16 != 0 then JPV (J2 x) else bif !op then 0 else bif J3 (xi x 0) && xi x 16 == 0 then JJv (J2 x) (J2 l) (J2 y) a0 a1 tr else jJ (J2 x) (J2 l) (J2 y) a0 a1 tr C
def ZS:Int:= bif cl then xi l q0 else bif !Qf (J2 x) || en || J3 (xi x 0) && mo && !(xi x 2 == la0 && (xi x 3 == la1 && xi x 4 == la2)) then xi l q0 else bif !op && J3 (xi x 0) && xi x 16 != 0 then q1 else bif !op then xi l q0 else bif J3 (xi x 0) && xi x 16 == 0 then q2 else xi l q0
def JHj:Int:= ZS x l op cl en mo la0 la1 la2 0 (Jfe (J2 x) (J2 l)) (Jao (J2 x) (J2 l) (J2 y) a0 a1 tr)
def JH6:Int:= ZS x l op cl en mo la0 la1 la2 1 (JgA (J2 x) (J2 l)) (JYr (J2 x) (J2 l) (J2 y) a0 a1 tr)
def JHQ:Int:= ZS x l op cl en mo la0 la1 la2 2 (Jew (J2 x) (J2 l)) (Ja3 (J2 x) (J2 l) (J2 y) a0 a1 tr)
def JHs:Int:= ZS x l op cl en mo la0 la1 la2 3 (JfN (J2 x) (J2 l)) (JWh (J2 x) (J2 l) (J2 y) a0 a1 tr)
def JHh:Int:= ZS x l op cl en mo la0 la1 la2 4 (Jdm (J2 x) (J2 l)) (JZ0 (J2 x) (J2 l) (J2 y) a0 a1 tr)
def JHl:Int:= ZS x l op cl en mo la0 la1 la2 5 (JfX (J2 x) (J2 l)) (JYH (J2 x) (J2 l) (J2 y) a0 a1 tr)
def JHw:Int:= ZS x l op cl en mo la0 la1 la2 6 (Jdp (J2 x) (J2 l)) (JYP (J2 x) (J2 l) (J2 y) a0 a1 tr)
def JHC:Int:= ZS x l op cl en mo la0 la1 la2 7 (Jfq (J2 x) (J2 l)) (JYN (J2 x) (J2 l) (J2 y) a0 a1 tr)
def JHc:Int:= ZS x l op cl en mo la0 la1 la2 8 (Jfb (J2 x) (J2 l)) (Jb1 (J2 x) (J2 l) (J2 y) a0 a1 tr)
def JAn:Int:= ZS x l op cl en mo la0 la1 la2 9 (JZX (J2 x) (J2 l)) (JQT (J2 x) (J2 l) (J2 y) a0 a1 tr)
def JAm:Int:= ZS x l op cl en mo la0 la1 la2 10 (Ja8 (J2 x) (J2 l)) (JRH (J2 x) (J2 l) (J2 y) a0 a1 tr)
def JBv:Int:= ZS x l op cl en mo la0 la1 la2 11 (JZj (J2 x) (J2 l)) (JRx (J2 x) (J2 l) (J2 y) a0 a1 tr)
def JC5:Int:= ZS x l op cl en mo la0 la1 la2 12 (JWq (J2 x) (J2 l)) (JSH (J2 x) (J2 l) (J2 y) a0 a1 tr)
end
section
variable (x l y:List GC) (a0 a1:Int) (tr op cl en mo:Bool) (la0 la1 la2:Int) (q0:Nat) (q1 q2:Bool)
def qB:Bool:= bif cl then xb l q0 else bif !Qf (J2 x) || en || J3 (xi x 0) && mo && !(xi x 2 == la0 && (xi x 3 == la1 && xi x 4 == la2)) then xb l q0 else bif !op && J3 (xi x 0) && xi x 16 != 0 then q1 else bif !op then xb l q0 else bif J3 (xi x 0) && xi x 16 == 0 then q2 else xb l q0
def JAv:Bool:= qB x l op cl en mo la0 la1 la2 13 (JXL (J2 x) (J2 l)) (JPt (J2 x) (J2 l) (J2 y) a0 a1 tr)
def JBT:Int:= ZS x l op cl en mo la0 la1 la2 14 (JYV (J2 x) (J2 l)) (JPx (J2 x) (J2 l) (J2 y) a0 a1 tr)
def JBx:Bool:= qB x l op cl en mo la0 la1 la2 15 (JWL (J2 x) (J2 l)) (JRu (J2 x) (J2 l) (J2 y) a0 a1 tr)
def JAJ:Int:= ZS x l op cl en mo la0 la1 la2 16 (JYp (J2 x) (J2 l)) (JS6 (J2 x) (J2 l) (J2 y) a0 a1 tr)
def JAb:Int:= ZS x l op cl en mo la0 la1 la2 17 (JWr (J2 x) (J2 l)) (JS2 (J2 x) (J2 l) (J2 y) a0 a1 tr)
def JAT:Int:= ZS x l op cl en mo la0 la1 la2 18 (JVr (J2 x) (J2 l)) (JQJ (J2 x) (J2 l) (J2 y) a0 a1 tr)
def JAp:Int:= ZS x l op cl en mo la0 la1 la2 19 (JVx (J2 x) (J2 l)) (JSY (J2 x) (J2 l) (J2 y) a0 a1 tr)
def JBh:Int:= ZS x l op cl en mo la0 la1 la2 20 (JVq (J2 x) (J2 l)) (JQa (J2 x) (J2 l) (J2 y) a0 a1 tr)
def JAj:Bool:= qB x l op cl en mo la0 la1 la2 21 (Jay (J2 x) (J2 l)) (JRT (J2 x) (J2 l) (J2 y) a0 a1 tr)
end
section
variable (x l y:List GC) (a0 a1:Int) (tr op cl en mo:Bool) (la0 la1 la2:Int) (q0:Nat) (q1 q2 q3:Int)
def ZU:Int:= bif cl then xi y q0 else bif !Qf (J2 x) || en || J3 (xi x 0) && mo && !(xi x 2 == la0 && (xi x 3 == la1 && xi x 4 == la2)) then xi y q0 else bif !op && J3 (xi x 0) && xi x 16 != 0 then q1 else bif !op then xi y q0 else bif J3 (xi x 0) && xi x 16 == 0 then q2 else q3
def JAQ:Int:= ZU x y op cl en mo la0 la1 la2 0 (JXG (J2 x) (J2 y)) (JR8 (J2 x) (J2 l) (J2 y) a0 a1 tr) (JFp (J2 x) (J2 l) (J2 y) a0 a1 tr)
def JC1:Int:= ZU x y op cl en mo la0 la1 la2 1 (Jb2 (J2 x) (J2 y)) (JSm (J2 x) (J2 l) (J2 y) a0 a1 tr) (JGE (J2 x) (J2 l) (J2 y) a0 a1 tr)
def JAW:Int:= ZU x y op cl en mo la0 la1 la2 2 (JW9 (J2 x) (J2 y)) (JRh (J2 x) (J2 l) (J2 y) a0 a1 tr) (JGk (J2 x) (J2 l) (J2 y) a0 a1 tr)
def JBq:Int:= ZU x y op cl en mo la0 la1 la2 3 (JWH (J2 x) (J2 y)) (JPh (J2 x) (J2 l) (J2 y) a0 a1 tr) (JFQ (J2 x) (J2 l) (J2 y) a0 a1 tr)
def JBY:Int:= ZU x y op cl en mo la0 la1 la2 4 (JXH (J2 x) (J2 y)) (JR5 (J2 x) (J2 l) (J2 y) a0 a1 tr) (JGm (J2 x) (J2 l) (J2 y) a0 a1 tr)
def JAx:Int:= ZU x y op cl en mo la0 la1 la2 5 (JYW (J2 x) (J2 y)) (JQV (J2 x) (J2 l) (J2 y) a0 a1 tr) (JGW (J2 x) (J2 l) (J2 y) a0 a1 tr)
def JAK:Int:= ZU x y op cl en mo la0 la1 la2 6 (JaK (J2 x) (J2 y)) (JSU (J2 x) (J2 l) (J2 y) a0 a1 tr) (JEk (J2 x) (J2 l) (J2 y) a0 a1 tr)
def JAU:Int:= ZU x y op cl en mo la0 la1 la2 7 (JYC (J2 x) (J2 y)) (JRL (J2 x) (J2 l) (J2 y) a0 a1 tr) (JF8 (J2 x) (J2 l) (J2 y) a0 a1 tr)
def JB2:Int:= ZU x y op cl en mo la0 la1 la2 8 (JbB (J2 x) (J2 y)) (JSl (J2 x) (J2 l) (J2 y) a0 a1 tr) (JGO (J2 x) (J2 l) (J2 y) a0 a1 tr)
def JBF:Int:= ZU x y op cl en mo la0 la1 la2 9 (JZU (J2 x) (J2 y)) (JRF (J2 x) (J2 l) (J2 y) a0 a1 tr) (JG7 (J2 x) (J2 l) (J2 y) a0 a1 tr)
def JBs:Int:= ZU x y op cl en mo la0 la1 la2 10 (JZy (J2 x) (J2 y)) (JSh (J2 x) (J2 l) (J2 y) a0 a1 tr) (JFl (J2 x) (J2 l) (J2 y) a0 a1 tr)
def JB7:Int:= ZU x y op cl en mo la0 la1 la2 11 (JWj (J2 x) (J2 y)) (JQI (J2 x) (J2 l) (J2 y) a0 a1 tr) (JGf (J2 x) (J2 l) (J2 y) a0 a1 tr)
def JAN:Int:= ZU x y op cl en mo la0 la1 la2 12 (JZn (J2 x) (J2 y)) (JPj (J2 x) (J2 l) (J2 y) a0 a1 tr) (JG2 (J2 x) (J2 l) (J2 y) a0 a1 tr)
end
section
variable (x l y:List GC) (a0 a1:Int) (tr op cl en mo:Bool) (la0 la1 la2:Int) (C O:LL) (q0:Nat) (q1 q2 q3:Bool)
def jy:Bool:= bif cl then xb y q0 else bif !Qf (J2 x) || en || J3 (xi x 0) && mo && !(xi x 2 == la0 && (xi x 3 == la1 && xi x 4 == la2)) then xb y q0 else bif !op && J3 (xi x 0) && xi x 16 != 0 then q1 else bif !op then xb y q0 else bif J3 (xi x 0) && xi x 16 == 0 then q2 else q3
def JBZ:Bool:= jy x y op cl en mo la0 la1 la2 13 (JVt (J2 x) (J2 y)) (JQ8 (J2 x) (J2 l) (J2 y) a0 a1 tr) (JEt (J2 x) (J2 l) (J2 y) a0 a1 tr)
def JAe:Int:= ZU x y op cl en mo la0 la1 la2 14 (JaD (J2 x) (J2 y)) (JRB (J2 x) (J2 l) (J2 y) a0 a1 tr) (JG1 (J2 x) (J2 l) (J2 y) a0 a1 tr)
def JAS:Bool:= jy x y op cl en mo la0 la1 la2 15 (JXB (J2 x) (J2 y)) (JSW (J2 x) (J2 l) (J2 y) a0 a1 tr) (JFP (J2 x) (J2 l) (J2 y) a0 a1 tr)
def JBL:Int:= ZU x y op cl en mo la0 la1 la2 16 (JY9 (J2 x) (J2 y)) (JSZ (J2 x) (J2 l) (J2 y) a0 a1 tr) (JGB (J2 x) (J2 l) (J2 y) a0 a1 tr)
def JAf:Int:= ZU x y op cl en mo la0 la1 la2 17 (JWy (J2 x) (J2 y)) (JR6 (J2 x) (J2 l) (J2 y) a0 a1 tr) (JG8 (J2 x) (J2 l) (J2 y) a0 a1 tr)
def JBn:Int:= ZU x y op cl en mo la0 la1 la2 18 (JWl (J2 x) (J2 y)) (JQ1 (J2 x) (J2 l) (J2 y) a0 a1 tr) (JEw (J2 x) (J2 l) (J2 y) a0 a1 tr)
def JB0:Int:= ZU x y op cl en mo la0 la1 la2 19 (JVo (J2 x) (J2 y)) (JPs (J2 x) (J2 l) (J2 y) a0 a1 tr) (JGc (J2 x) (J2 l) (J2 y) a0 a1 tr)
def JBK:Int:= ZU x y op cl en mo la0 la1 la2 20 (JXC (J2 x) (J2 y)) (JQ4 (J2 x) (J2 l) (J2 y) a0 a1 tr) (JFN (J2 x) (J2 l) (J2 y) a0 a1 tr)
def JAI:Bool:= jy x y op cl en mo la0 la1 la2 21 (JY3 (J2 x) (J2 y)) (JQw (J2 x) (J2 l) (J2 y) a0 a1 tr) (JGR (J2 x) (J2 l) (J2 y) a0 a1 tr)
def JBA:Int:= bif cl then a0 else bif !Qf (J2 x) || en || J3 (xi x 0) && mo && !(xi x 2 == la0 && (xi x 3 == la1 && xi x 4 == la2)) then a0 else bif !op && J3 (xi x 0) && xi x 16 != 0 then JJb (J2 x) a0 else bif !op then a0 else bif J3 (xi x 0) && xi x 16 == 0 then JPp (J2 x) (J2 l) (J2 y) a0 a1 tr else JGU (J2 x) (J2 l) (J2 y) a0 a1 tr
def JBU:Int:= bif cl then a1 else bif !Qf (J2 x) || en || J3 (xi x 0) && mo && !(xi x 2 == la0 && (xi x 3 == la1 && xi x 4 == la2)) then a1 else bif !op && J3 (xi x 0) && xi x 16 != 0 then JJb (J2 x) a1 else bif !op then a1 else bif J3 (xi x 0) && xi x 16 == 0 then JQ5 (J2 x) (J2 l) (J2 y) a0 a1 tr else JFh (J2 x) (J2 l) (J2 y) a0 a1 tr
def JBC:Bool:= bif cl then tr else bif !Qf (J2 x) || en || J3 (xi x 0) && mo && !(xi x 2 == la0 && (xi x 3 == la1 && xi x 4 == la2)) then tr else bif !op && J3 (xi x 0) && xi x 16 != 0 then JYE (J2 x) tr else bif !op then tr else bif J3 (xi x 0) && xi x 16 == 0 then JRo (J2 x) (J2 l) (J2 y) a0 a1 tr else JGF (J2 x) (J2 l) (J2 y) a0 a1 tr
def JBo:Bool:= bif cl then op else bif !Qf (J2 x) || en || J3 (xi x 0) && mo && !(xi x 2 == la0 && (xi x 3 == la1 && xi x 4 == la2)) then op else bif !op && J3 (xi x 0) && xi x 16 != 0 then JaN (J2 x) op else bif !op then op else bif J3 (xi x 0) && xi x 16 == 0 then JR0 (J2 x) (J2 l) (J2 y) a0 a1 tr op else op
def JAV:Bool:= bif cl then en else bif !Qf (J2 x) || en || J3 (xi x 0) && mo && !(xi x 2 == la0 && (xi x 3 == la1 && xi x 4 == la2)) then en else xi x 0 == 14
def JBu:Bool:= bif cl then mo else bif !Qf (J2 x) || en || J3 (xi x 0) && mo && !(xi x 2 == la0 && (xi x 3 == la1 && xi x 4 == la2)) then mo else J3 (xi x 0) || mo
def JBg:Int:= bif cl then la0 else bif !Qf (J2 x) || en || J3 (xi x 0) && mo && !(xi x 2 == la0 && (xi x 3 == la1 && xi x 4 == la2)) then la0 else bif J3 (xi x 0) then xi x 5 else la0
def JAh:Int:= bif cl then la1 else bif !Qf (J2 x) || en || J3 (xi x 0) && mo && !(xi x 2 == la0 && (xi x 3 == la1 && xi x 4 == la2)) then la1 else bif J3 (xi x 0) then xi x 6 else la1
def JBG:Int:= bif cl then la2 else bif !Qf (J2 x) || en || J3 (xi x 0) && mo && !(xi x 2 == la0 && (xi x 3 == la1 && xi x 4 == la2)) then la2 else bif J3 (xi x 0) then xi x 7 else la2
def KH:LL:= bif cl then O else bif !Qf (J2 x) || en || J3 (xi x 0) && mo && !(xi x 2 == la0 && (xi x 3 == la1 && xi x 4 == la2)) then O else bif !op && J3 (xi x 0) && xi x 16 != 0 then O else bif !op then O ++ [JFw x] else bif J3 (xi x 0) && xi x 16 == 0 then JCK (J2 x) (J2 l) (J2 y) a0 a1 tr C O else YE (J2 x) (J2 l) (J2 y) a0 a1 tr C O
def Wv:LL:= bif cl then C else bif !Qf (J2 x) || en || J3 (xi x 0) && mo && !(xi x 2 == la0 && (xi x 3 == la1 && xi x 4 == la2)) then C else bif !op && J3 (xi x 0) && xi x 16 != 0 then JIu (J2 x) C else bif !op then C else bif J3 (xi x 0) && xi x 16 == 0 then JGK (J2 x) (J2 l) (J2 y) a0 a1 tr C else kK (J2 x) (J2 l) (J2 y) a0 a1 tr C
def Ki:Prop:= (!op && J3 (xi x 0) && xi x 16 != 0) = false
def Kb:Prop:= C.length ≤ 1000 ∧ O.length ≤ 800000
def JHJ:List Prop:= [cl = false → (!Qf (J2 x) || en || J3 (xi x 0) && mo && !(xi x 2 == la0 && (xi x 3 == la1 && xi x 4 == la2))) = false → (Ki x op → ((!op) = true → (O.length + 1) * 176 ≤ 140737488355328 ∧ O.length + 1 ≤ 9223372036854775807) ∧ ((!op) = false → (J3 (xi x 0) && xi x 16 == 0) = true → Kb C O)) ∧ (Ki x op → (!op) = false → (J3 (xi x 0) && xi x 16 == 0) = false → Kb C O)]
end
theorem Jqe {x:List GC} {op:Bool} {cl:Bool} {en:Bool} {mo:Bool} {la0:Int} {la1:Int} {la2:Int} {C:LL} {O:LL} (hW:∀ q ∈ ([C.length ≤ 1000,O.length ≤ 800000]:List Prop),q):∀ q ∈ (JHJ x op cl en mo la0 la1 la2 C O),q := by
  simp only [awc,awn,and_true] at hW
  unfold JHJ
  simp only [awc,awn,and_true]
  obtain ⟨h1,h2⟩ := hW
  exact fun _ _ => ⟨fun _ => ⟨fun _ => ⟨by omega,by omega⟩,fun _ _ => ⟨h1,h2⟩⟩,fun _ _ _ => ⟨h1,h2⟩⟩
def JuC (x l y:List GC) (a0 a1:Int) (tr op cl en mo:Bool) (la0 la1 la2 er:Int) (C O:LL) := [(0,Obj.blk 66 [(102640,Ci (JHj x l y a0 a1 tr op cl en mo la0 la1 la2)),(102641,Ci (JH6 x l y a0 a1 tr op cl en mo la0 la1 la2)),(102642,Ci (JHQ x l y a0 a1 tr op cl en mo la0 la1 la2)),(102643,Ci (JHs x l y a0 a1 tr op cl en mo la0 la1 la2)),(102644,Ci (JHh x l y a0 a1 tr op cl en mo la0 la1 la2)),(102645,Ci (JHl x l y a0 a1 tr op cl en mo la0 la1 la2)),(102646,Ci (JHw x l y a0 a1 tr op cl en mo la0 la1 la2)),(102647,Ci (JHC x l y a0 a1 tr op cl en mo la0 la1 la2)),(102648,Ci (JHc x l y a0 a1 tr op cl en mo la0 la1 la2)),(102649,Ci (JAn x l y a0 a1 tr op cl en mo la0 la1 la2)),(102650,Ci (JAm x l y a0 a1 tr op cl en mo la0 la1 la2)),(102651,Ci (JBv x l y a0 a1 tr op cl en mo la0 la1 la2)),(102652,Ci (JC5 x l y a0 a1 tr op cl en mo la0 la1 la2)),(102653,Cb (JAv x l y a0 a1 tr op cl en mo la0 la1 la2)),(102654,Ci (JBT x l y a0 a1 tr op cl en mo la0 la1 la2)),(102655,Cb (JBx x l y a0 a1 tr op cl en mo la0 la1 la2)),(102656,Ci (JAJ x l y a0 a1 tr op cl en mo la0 la1 la2)),(102657,Ci (JAb x l y a0 a1 tr op cl en mo la0 la1 la2)),(102658,Ci (JAT x l y a0 a1 tr op cl en mo la0 la1 la2)),(102659,Ci (JAp x l y a0 a1 tr op cl en mo la0 la1 la2)),(102660,Ci (JBh x l y a0 a1 tr op cl en mo la0 la1 la2)),(102661,Cb (JAj x l y a0 a1 tr op cl en mo la0 la1 la2)),(102662,Ci (JAQ x l y a0 a1 tr op cl en mo la0 la1 la2)),(102663,Ci (JC1 x l y a0 a1 tr op cl en mo la0 la1 la2)),(102664,Ci (JAW x l y a0 a1 tr op cl en mo la0 la1 la2)),(102665,Ci (JBq x l y a0 a1 tr op cl en mo la0 la1 la2)),(102666,Ci (JBY x l y a0 a1 tr op cl en mo la0 la1 la2)),(102667,Ci (JAx x l y a0 a1 tr op cl en mo la0 la1 la2)),(102668,Ci (JAK x l y a0 a1 tr op cl en mo la0 la1 la2)),(102669,Ci (JAU x l y a0 a1 tr op cl en mo la0 la1 la2)),(102670,Ci (JB2 x l y a0 a1 tr op cl en mo la0 la1 la2)),(102671,Ci (JBF x l y a0 a1 tr op cl en mo la0 la1 la2)),(102672,Ci (JBs x l y a0 a1 tr op cl en mo la0 la1 la2)),(102673,Ci (JB7 x l y a0 a1 tr op cl en mo la0 la1 la2)),(102674,Ci (JAN x l y a0 a1 tr op cl en mo la0 la1 la2)),(102675,Cb (JBZ x l y a0 a1 tr op cl en mo la0 la1 la2)),(102676,Ci (JAe x l y a0 a1 tr op cl en mo la0 la1 la2)),(102677,Cb (JAS x l y a0 a1 tr op cl en mo la0 la1 la2)),(102678,Ci (JBL x l y a0 a1 tr op cl en mo la0 la1 la2)),(102679,Ci (JAf x l y a0 a1 tr op cl en mo la0 la1 la2)),(102680,Ci (JBn x l y a0 a1 tr op cl en mo la0 la1 la2)),(102681,Ci (JB0 x l y a0 a1 tr op cl en mo la0 la1 la2)),(102682,Ci (JBK x l y a0 a1 tr op cl en mo la0 la1 la2)),(102683,Cb (JAI x l y a0 a1 tr op cl en mo la0 la1 la2)),(102684,Ci (JBA x l y a0 a1 tr op cl en mo la0 la1 la2)),(102685,Ci (JBU x l y a0 a1 tr op cl en mo la0 la1 la2)),(102686,Cb (JBC x l y a0 a1 tr op cl en mo la0 la1 la2)),(102634,SC.wh 102632),(102687,Cb (JBo x l y a0 a1 tr op cl en mo la0 la1 la2)),(52,SC.bool (SB.v cl)),(102688,Cb (JAV x cl en mo la0 la1 la2)),(102689,Cb (JBu x cl en mo la0 la1 la2)),(102690,Ci (JBg x cl en mo la0 la1 la2)),(102691,Ci (JAh x cl en mo la0 la1 la2)),(102692,Ci (JBG x cl en mo la0 la1 la2)),(102637,SC.wh 102635),(59,Ci er)]),(102635,Obj.row false 40 22 (RowC.lst 102639 JAB (KH x l y a0 a1 tr op cl en mo la0 la1 la2 C O))),(102632,Obj.row false 40 22 (RowC.lst 102638 JAB (Wv x l y a0 a1 tr op cl en mo la0 la1 la2 C)))]
theorem JoZ (x l y:List GC) (a0 a1:Int) (tr op cl en mo:Bool) (la0 la1 la2 er:Int) (C O:LL) (hNeeds:∀ pN ∈ (JHJ x op cl en mo la0 la1 la2 C O),pN):Runs (Jm (JC Jfv) Zh 35) (JJ4.args (Je JV3 [.v x,.v l,.v y,.i a0,.i a1,.b tr,.b op,.b cl,.b en,.b mo,.i la0,.i la1,.i la2,.i er])) (JJ4.memo (Je JV3 [.v x,.v l,.v y,.i a0,.i a1,.b tr,.b op,.b cl,.b en,.b mo,.i la0,.i la1,.i la2,.i er]) [C,O]) JJ4.n (SV.one (Ci (Kj x l y a0 a1 tr op cl en mo la0 la1 la2 C))) ((JuC x l y a0 a1 tr op cl en mo la0 la1 la2 er C O)) :=
  Runs.of1 (ps := (JHJ x op cl en mo la0 la1 la2 C O)) (by kernel_rfl) hNeeds
def JZd:List Gm → Qs → Option CRes
  | [.v x,.v l,.v y,.i a0,.i a1,.b tr,.b op,.b cl,.b en,.b mo,.i la0,.i la1,.i la2,.i er],[C,O] => some ⟨SV.one (Ci (Kj x l y a0 a1 tr op cl en mo la0 la1 la2 C)),
 (JuC x l y a0 a1 tr op cl en mo la0 la1 la2 er C O),[C.length ≤ 1000,O.length ≤ 800000],[],102693⟩
  | _,_ => none
theorem JvB:Ql Tryz.prog 35 (Z7 JV3 JJ4 JZd) := by
  refine Qg (JE JU8 35) fun ps ls r hr hn _ => ?_
  unfold JZd at hr
  split at hr
  · cases hr; exact ⟨_,JoZ _ _ _ _ _ _ _ _ _ _ _ _ _ _ _ _ (Jqe (by exact hn)),fun _ => rfl⟩
  · cases hr
def JmS:List (Nat × JY) := (35,Z7 JV3 JJ4 JZd) :: Jfv
theorem JVp:Known Tryz.prog (JC JmS) Zh := J7 JU8 JvB
def zi:Tpl := ⟨[.one (.ptr 0 0)],Y5,62⟩
def JI7:List GK := [.v Q5,.v Q5,.i,.i,.b,.b,.b,.b,.b,.i,.i,.i,.i]
def ZO (er:Int) (O:LL):LL := bif er != 0 then [] else O
def JsN (l y:List GC) (a0 a1:Int) (tr op cl en mo:Bool) (la0 la1 la2 er:Int) (O C:LL) := [(0,Obj.blk 66 [(3,Ci (xi l 0)),(4,Ci (xi l 1)),(5,Ci (xi l 2)),(6,Ci (xi l 3)),(7,Ci (xi l 4)),(8,Ci (xi l 5)),(9,Ci (xi l 6)),(10,Ci (xi l 7)),(11,Ci (xi l 8)),(12,Ci (xi l 9)),(13,Ci (xi l 10)),(14,Ci (xi l 11)),(15,Ci (xi l 12)),(16,Cb (xb l 13)),(17,Ci (xi l 14)),(18,Cb (xb l 15)),(19,Ci (xi l 16)),(20,Ci (xi l 17)),(21,Ci (xi l 18)),(22,Ci (xi l 19)),(23,Ci (xi l 20)),(24,Cb (xb l 21)),(25,Ci (xi y 0)),(26,Ci (xi y 1)),(27,Ci (xi y 2)),(28,Ci (xi y 3)),(29,Ci (xi y 4)),(30,Ci (xi y 5)),(31,Ci (xi y 6)),(32,Ci (xi y 7)),(33,Ci (xi y 8)),(34,Ci (xi y 9)),(35,Ci (xi y 10)),(36,Ci (xi y 11)),(37,Ci (xi y 12)),(38,Cb (xb y 13)),(39,Ci (xi y 14)),(40,Cb (xb y 15)),(41,Ci (xi y 16)),(42,Ci (xi y 17)),(43,Ci (xi y 18)),(44,Ci (xi y 19)),(45,Ci (xi y 20)),(46,Cb (xb y 21)),(47,Ci a0),(48,Ci a1),(49,Cb tr),(50,SC.wh 1),(51,Cb op),(52,Cb cl),(53,Cb en),(54,Cb mo),(55,Ci la0),(56,Ci la1),(57,Ci la2),(92,SC.wh 90),(59,Ci er)]),(90,Obj.row false 40 22 (RowC.lit 91 [])),(89,Obj.row false 40 22 (RowC.lst 88 JAB (ZO er O))),(1,Obj.row false 40 22 (RowC.lst 60 JAB C))]
theorem JeE (l y:List GC) (a0 a1:Int) (tr op cl en mo:Bool) (la0 la1 la2 er:Int) (C O:LL):Runs (Jm (JC JmS) Zh 36) (zi.args (Je JI7 [.v l,.v y,.i a0,.i a1,.b tr,.b op,.b cl,.b en,.b mo,.i la0,.i la1,.i la2,.i er])) (zi.memo (Je JI7 [.v l,.v y,.i a0,.i a1,.b tr,.b op,.b cl,.b en,.b mo,.i la0,.i la1,.i la2,.i er]) [C,O]) zi.n (SV.tup [(false,[SC.wh 89]),(false,[Ci (Jo er)])]) ((JsN l y a0 a1 tr op cl en mo la0 la1 la2 er O C)) :=
  Runs.of1 (ps := []) (by kernel_rfl) (by simp)
def JJW:List Gm → Qs → Option CRes
  | [.v l,.v y,.i a0,.i a1,.b tr,.b op,.b cl,.b en,.b mo,.i la0,.i la1,.i la2,.i er],[C,O] => some ⟨SV.tup [(false,[SC.wh 89]),(false,[Ci (Jo er)])],
 (JsN l y a0 a1 tr op cl en mo la0 la1 la2 er O C),[],[],93⟩
  | _,_ => none
theorem Jj3:Ql Tryz.prog 36 (Z7 JI7 zi JJW) := by
  refine Qg (JE JVp 36) fun ps ls r hr hn _ => ?_
  unfold JJW at hr
  split at hr
  · cases hr; exact ⟨_,JeE _ _ _ _ _ _ _ _ _ _ _ _ _ _ _,fun _ => rfl⟩
  · cases hr
def JQh:List (Nat × JY) := (36,Z7 JI7 zi JJW) :: JmS
theorem JLx:Known Tryz.prog (JC JQh) Zh := J7 JVp Jj3
def JKC:Tpl := ⟨[.one (.ptr 0 0),.agg pI],Y5,62⟩
def JV0:List GK := [.v Q5,.v Q5,.v Q5,.i,.i,.b,.b,.b,.b,.b,.i,.i,.i,.i]
section
variable (x l y:List GC) (a0 a1:Int) (tr op cl en mo:Bool) (la0 la1 la2 er:Int) (C O:LL)
def j5:Int:= bif er == 0 then Jo (Kj (J2 x) (J2 l) (J2 y) a0 a1 tr op cl en mo la0 la1 la2 C) else Jo er
def Kl:LL:= bif er == 0 then ZO (Kj (J2 x) (J2 l) (J2 y) a0 a1 tr op cl en mo la0 la1 la2 C) (KH (J2 x) (J2 l) (J2 y) a0 a1 tr op cl en mo la0 la1 la2 C O) else ZO er O
def JIG:Int:= bif er == 0 then JHj (J2 x) (J2 l) (J2 y) a0 a1 tr op cl en mo la0 la1 la2 else xi l 0
def JI0:Int:= bif er == 0 then JH6 (J2 x) (J2 l) (J2 y) a0 a1 tr op cl en mo la0 la1 la2 else xi l 1
def JHY:Int:= bif er == 0 then JHQ (J2 x) (J2 l) (J2 y) a0 a1 tr op cl en mo la0 la1 la2 else xi l 2
def JHN:Int:= bif er == 0 then JHs (J2 x) (J2 l) (J2 y) a0 a1 tr op cl en mo la0 la1 la2 else xi l 3
def JHL:Int:= bif er == 0 then JHh (J2 x) (J2 l) (J2 y) a0 a1 tr op cl en mo la0 la1 la2 else xi l 4
def JHr:Int:= bif er == 0 then JHl (J2 x) (J2 l) (J2 y) a0 a1 tr op cl en mo la0 la1 la2 else xi l 5
def JIC:Int:= bif er == 0 then JHw (J2 x) (J2 l) (J2 y) a0 a1 tr op cl en mo la0 la1 la2 else xi l 6
def JGt:Int:= bif er == 0 then JHC (J2 x) (J2 l) (J2 y) a0 a1 tr op cl en mo la0 la1 la2 else xi l 7
def JBi:Int:= bif er == 0 then JHc (J2 x) (J2 l) (J2 y) a0 a1 tr op cl en mo la0 la1 la2 else xi l 8
def JC2:Int:= bif er == 0 then JAn (J2 x) (J2 l) (J2 y) a0 a1 tr op cl en mo la0 la1 la2 else xi l 9
def JB8:Int:= bif er == 0 then JAm (J2 x) (J2 l) (J2 y) a0 a1 tr op cl en mo la0 la1 la2 else xi l 10
def JB5:Int:= bif er == 0 then JBv (J2 x) (J2 l) (J2 y) a0 a1 tr op cl en mo la0 la1 la2 else xi l 11
def JBc:Int:= bif er == 0 then JC5 (J2 x) (J2 l) (J2 y) a0 a1 tr op cl en mo la0 la1 la2 else xi l 12
def JAM:Bool:= bif er == 0 then JAv (J2 x) (J2 l) (J2 y) a0 a1 tr op cl en mo la0 la1 la2 else xb l 13
def JC4:Int:= bif er == 0 then JBT (J2 x) (J2 l) (J2 y) a0 a1 tr op cl en mo la0 la1 la2 else xi l 14
def JBd:Bool:= bif er == 0 then JBx (J2 x) (J2 l) (J2 y) a0 a1 tr op cl en mo la0 la1 la2 else xb l 15
def JAO:Int:= bif er == 0 then JAJ (J2 x) (J2 l) (J2 y) a0 a1 tr op cl en mo la0 la1 la2 else xi l 16
def JBb:Int:= bif er == 0 then JAb (J2 x) (J2 l) (J2 y) a0 a1 tr op cl en mo la0 la1 la2 else xi l 17
def JC3:Int:= bif er == 0 then JAT (J2 x) (J2 l) (J2 y) a0 a1 tr op cl en mo la0 la1 la2 else xi l 18
def JBf:Int:= bif er == 0 then JAp (J2 x) (J2 l) (J2 y) a0 a1 tr op cl en mo la0 la1 la2 else xi l 19
def JAr:Int:= bif er == 0 then JBh (J2 x) (J2 l) (J2 y) a0 a1 tr op cl en mo la0 la1 la2 else xi l 20
def JBI:Bool:= bif er == 0 then JAj (J2 x) (J2 l) (J2 y) a0 a1 tr op cl en mo la0 la1 la2 else xb l 21
def JAa:Int:= bif er == 0 then JAQ (J2 x) (J2 l) (J2 y) a0 a1 tr op cl en mo la0 la1 la2 else xi y 0
def JB4:Int:= bif er == 0 then JC1 (J2 x) (J2 l) (J2 y) a0 a1 tr op cl en mo la0 la1 la2 else xi y 1
def JBR:Int:= bif er == 0 then JAW (J2 x) (J2 l) (J2 y) a0 a1 tr op cl en mo la0 la1 la2 else xi y 2
def JAR:Int:= bif er == 0 then JBq (J2 x) (J2 l) (J2 y) a0 a1 tr op cl en mo la0 la1 la2 else xi y 3
def JAu:Int:= bif er == 0 then JBY (J2 x) (J2 l) (J2 y) a0 a1 tr op cl en mo la0 la1 la2 else xi y 4
def JBW:Int:= bif er == 0 then JAx (J2 x) (J2 l) (J2 y) a0 a1 tr op cl en mo la0 la1 la2 else xi y 5
def JBX:Int:= bif er == 0 then JAK (J2 x) (J2 l) (J2 y) a0 a1 tr op cl en mo la0 la1 la2 else xi y 6
def JAL:Int:= bif er == 0 then JAU (J2 x) (J2 l) (J2 y) a0 a1 tr op cl en mo la0 la1 la2 else xi y 7
def JAy:Int:= bif er == 0 then JB2 (J2 x) (J2 l) (J2 y) a0 a1 tr op cl en mo la0 la1 la2 else xi y 8
def JBw:Int:= bif er == 0 then JBF (J2 x) (J2 l) (J2 y) a0 a1 tr op cl en mo la0 la1 la2 else xi y 9
def JAZ:Int:= bif er == 0 then JBs (J2 x) (J2 l) (J2 y) a0 a1 tr op cl en mo la0 la1 la2 else xi y 10
def JBt:Int:= bif er == 0 then JB7 (J2 x) (J2 l) (J2 y) a0 a1 tr op cl en mo la0 la1 la2 else xi y 11
def JC7:Int:= bif er == 0 then JAN (J2 x) (J2 l) (J2 y) a0 a1 tr op cl en mo la0 la1 la2 else xi y 12
def JBS:Bool:= bif er == 0 then JBZ (J2 x) (J2 l) (J2 y) a0 a1 tr op cl en mo la0 la1 la2 else xb y 13
def JBr:Int:= bif er == 0 then JAe (J2 x) (J2 l) (J2 y) a0 a1 tr op cl en mo la0 la1 la2 else xi y 14
def JBQ:Bool:= bif er == 0 then JAS (J2 x) (J2 l) (J2 y) a0 a1 tr op cl en mo la0 la1 la2 else xb y 15
def JC6:Int:= bif er == 0 then JBL (J2 x) (J2 l) (J2 y) a0 a1 tr op cl en mo la0 la1 la2 else xi y 16
def JAs:Int:= bif er == 0 then JAf (J2 x) (J2 l) (J2 y) a0 a1 tr op cl en mo la0 la1 la2 else xi y 17
def JAc:Int:= bif er == 0 then JBn (J2 x) (J2 l) (J2 y) a0 a1 tr op cl en mo la0 la1 la2 else xi y 18
def JAq:Int:= bif er == 0 then JB0 (J2 x) (J2 l) (J2 y) a0 a1 tr op cl en mo la0 la1 la2 else xi y 19
def JAP:Int:= bif er == 0 then JBK (J2 x) (J2 l) (J2 y) a0 a1 tr op cl en mo la0 la1 la2 else xi y 20
def JBp:Bool:= bif er == 0 then JAI (J2 x) (J2 l) (J2 y) a0 a1 tr op cl en mo la0 la1 la2 else xb y 21
def JBJ:Int:= bif er == 0 then JBA (J2 x) (J2 l) (J2 y) a0 a1 tr op cl en mo la0 la1 la2 else a0
def JAX:Int:= bif er == 0 then JBU (J2 x) (J2 l) (J2 y) a0 a1 tr op cl en mo la0 la1 la2 else a1
def JBV:Bool:= bif er == 0 then JBC (J2 x) (J2 l) (J2 y) a0 a1 tr op cl en mo la0 la1 la2 else tr
def JAo:Bool:= bif er == 0 then JBo (J2 x) (J2 l) (J2 y) a0 a1 tr op cl en mo la0 la1 la2 else op
def JAw:Bool:= bif er == 0 then JAV (J2 x) cl en mo la0 la1 la2 else en
def JBP:Bool:= bif er == 0 then JBu (J2 x) cl en mo la0 la1 la2 else mo
def JB1:Int:= bif er == 0 then JBg (J2 x) cl en mo la0 la1 la2 else la0
def JAg:Int:= bif er == 0 then JAh (J2 x) cl en mo la0 la1 la2 else la1
def JB9:Int:= bif er == 0 then JBG (J2 x) cl en mo la0 la1 la2 else la2
def Yt:Int:= bif er == 0 then Kj (J2 x) (J2 l) (J2 y) a0 a1 tr op cl en mo la0 la1 la2 C else er
def Wo:LL:= bif er == 0 then Wv (J2 x) (J2 l) (J2 y) a0 a1 tr op cl en mo la0 la1 la2 C else C
def JIH:List Prop:= [(er == 0) = true → C.length ≤ 1000 ∧ O.length ≤ 800000]
end
theorem Jpg {er:Int} {C:LL} {O:LL} (hW:∀ q ∈ ([C.length ≤ 1000,O.length ≤ 800000]:List Prop),q):∀ q ∈ (JIH er C O),q := by
  simp only [awc,awn,and_true] at hW
  unfold JIH
  simp only [awc,awn,and_true]
  exact fun _ => hW
def JsB (x l y:List GC) (a0 a1:Int) (tr op cl en mo:Bool) (la0 la1 la2 er:Int) (C O:LL) := [(102999,Obj.row false 40 22 (RowC.lst 102998 JAB (Kl x l y a0 a1 tr op cl en mo la0 la1 la2 er C O))),(0,Obj.blk 66 [(103002,Ci (JIG x l y a0 a1 tr op cl en mo la0 la1 la2 er)),(103003,Ci (JI0 x l y a0 a1 tr op cl en mo la0 la1 la2 er)),(103004,Ci (JHY x l y a0 a1 tr op cl en mo la0 la1 la2 er)),(103005,Ci (JHN x l y a0 a1 tr op cl en mo la0 la1 la2 er)),(103006,Ci (JHL x l y a0 a1 tr op cl en mo la0 la1 la2 er)),(103007,Ci (JHr x l y a0 a1 tr op cl en mo la0 la1 la2 er)),(103008,Ci (JIC x l y a0 a1 tr op cl en mo la0 la1 la2 er)),(103009,Ci (JGt x l y a0 a1 tr op cl en mo la0 la1 la2 er)),(103010,Ci (JBi x l y a0 a1 tr op cl en mo la0 la1 la2 er)),(103011,Ci (JC2 x l y a0 a1 tr op cl en mo la0 la1 la2 er)),(103012,Ci (JB8 x l y a0 a1 tr op cl en mo la0 la1 la2 er)),(103013,Ci (JB5 x l y a0 a1 tr op cl en mo la0 la1 la2 er)),(103014,Ci (JBc x l y a0 a1 tr op cl en mo la0 la1 la2 er)),(103015,Cb (JAM x l y a0 a1 tr op cl en mo la0 la1 la2 er)),(103016,Ci (JC4 x l y a0 a1 tr op cl en mo la0 la1 la2 er)),(103017,Cb (JBd x l y a0 a1 tr op cl en mo la0 la1 la2 er)),(103018,Ci (JAO x l y a0 a1 tr op cl en mo la0 la1 la2 er)),(103019,Ci (JBb x l y a0 a1 tr op cl en mo la0 la1 la2 er)),(103020,Ci (JC3 x l y a0 a1 tr op cl en mo la0 la1 la2 er)),(103021,Ci (JBf x l y a0 a1 tr op cl en mo la0 la1 la2 er)),(103022,Ci (JAr x l y a0 a1 tr op cl en mo la0 la1 la2 er)),(103023,Cb (JBI x l y a0 a1 tr op cl en mo la0 la1 la2 er)),(103024,Ci (JAa x l y a0 a1 tr op cl en mo la0 la1 la2 er)),(103025,Ci (JB4 x l y a0 a1 tr op cl en mo la0 la1 la2 er)),(103026,Ci (JBR x l y a0 a1 tr op cl en mo la0 la1 la2 er)),(103027,Ci (JAR x l y a0 a1 tr op cl en mo la0 la1 la2 er)),(103028,Ci (JAu x l y a0 a1 tr op cl en mo la0 la1 la2 er)),(103029,Ci (JBW x l y a0 a1 tr op cl en mo la0 la1 la2 er)),(103030,Ci (JBX x l y a0 a1 tr op cl en mo la0 la1 la2 er)),(103031,Ci (JAL x l y a0 a1 tr op cl en mo la0 la1 la2 er)),(103032,Ci (JAy x l y a0 a1 tr op cl en mo la0 la1 la2 er)),(103033,Ci (JBw x l y a0 a1 tr op cl en mo la0 la1 la2 er)),(103034,Ci (JAZ x l y a0 a1 tr op cl en mo la0 la1 la2 er)),(103035,Ci (JBt x l y a0 a1 tr op cl en mo la0 la1 la2 er)),(103036,Ci (JC7 x l y a0 a1 tr op cl en mo la0 la1 la2 er)),(103037,Cb (JBS x l y a0 a1 tr op cl en mo la0 la1 la2 er)),(103038,Ci (JBr x l y a0 a1 tr op cl en mo la0 la1 la2 er)),(103039,Cb (JBQ x l y a0 a1 tr op cl en mo la0 la1 la2 er)),(103040,Ci (JC6 x l y a0 a1 tr op cl en mo la0 la1 la2 er)),(103041,Ci (JAs x l y a0 a1 tr op cl en mo la0 la1 la2 er)),(103042,Ci (JAc x l y a0 a1 tr op cl en mo la0 la1 la2 er)),(103043,Ci (JAq x l y a0 a1 tr op cl en mo la0 la1 la2 er)),(103044,Ci (JAP x l y a0 a1 tr op cl en mo la0 la1 la2 er)),(103045,Cb (JBp x l y a0 a1 tr op cl en mo la0 la1 la2 er)),(103046,Ci (JBJ x l y a0 a1 tr op cl en mo la0 la1 la2 er)),(103047,SC.int IntKind.i64 (SI.v (JAX x l y a0 a1 tr op cl en mo la0 la1 la2 er))),(103048,Cb (JBV x l y a0 a1 tr op cl en mo la0 la1 la2 er)),(102994,SC.wh 102992),(103049,Cb (JAo x l y a0 a1 tr op cl en mo la0 la1 la2 er)),(52,Cb cl),(103050,Cb (JAw x cl en mo la0 la1 la2 er)),(103051,Cb (JBP x cl en mo la0 la1 la2 er)),(103052,Ci (JB1 x cl en mo la0 la1 la2 er)),(103053,Ci (JAg x cl en mo la0 la1 la2 er)),(103054,Ci (JB9 x cl en mo la0 la1 la2 er)),(102997,SC.wh 102995),(103055,Ci (Yt x l y a0 a1 tr op cl en mo la0 la1 la2 er C))]),(102995,Obj.row false 40 22 (RowC.lit 103001 [])),(102992,Obj.row false 40 22 (RowC.lst 103000 JAB (Wo x l y a0 a1 tr op cl en mo la0 la1 la2 er C)))]
theorem JpP (x l y:List GC) (a0 a1:Int) (tr op cl en mo:Bool) (la0 la1 la2 er:Int) (C O:LL) (hNeeds:∀ pN ∈ (JIH er C O),pN):Runs (Jm (JC JQh) Zh 19) (JKC.args (Je JV0 [.v x,.v l,.v y,.i a0,.i a1,.b tr,.b op,.b cl,.b en,.b mo,.i la0,.i la1,.i la2,.i er])) (JKC.memo (Je JV0 [.v x,.v l,.v y,.i a0,.i a1,.b tr,.b op,.b cl,.b en,.b mo,.i la0,.i la1,.i la2,.i er]) [C,O]) JKC.n (SV.tup [(false,[SC.wh 102999]),(false,[Ci (j5 x l y a0 a1 tr op cl en mo la0 la1 la2 er C)])]) ((JsB x l y a0 a1 tr op cl en mo la0 la1 la2 er C O)) :=
  Runs.of1 (ps := (JIH er C O)) (by kernel_rfl) hNeeds
def JWd:List Gm → Qs → Option CRes
  | [.v x,.v l,.v y,.i a0,.i a1,.b tr,.b op,.b cl,.b en,.b mo,.i la0,.i la1,.i la2,.i er],[C,O] => some ⟨SV.tup [(false,[SC.wh 102999]),(false,[Ci (j5 x l y a0 a1 tr op cl en mo la0 la1 la2 er C)])],
 (JsB x l y a0 a1 tr op cl en mo la0 la1 la2 er C O),[C.length ≤ 1000,O.length ≤ 800000],[],103056⟩
  | _,_ => none
theorem Jvp:Ql Tryz.prog 19 (Z7 JV0 JKC JWd) := by
  refine Qg (JE JLx 19) fun ps ls r hr hn _ => ?_
  unfold JWd at hr
  split at hr
  · cases hr; exact ⟨_,JpP _ _ _ _ _ _ _ _ _ _ _ _ _ _ _ _ (Jpg (by exact hn)),fun _ => rfl⟩
  · cases hr
def Jkp:List (Nat × JY) := (19,Z7 JV0 JKC JWd) :: JQh
theorem JXT:Known Tryz.prog (JC Jkp) Zh := J7 JLx Jvp
def JF5:Tpl := ⟨[.one (.ptr 0 0)],Y5,62⟩
def JPJ:List GK := [.v Q5,.v Q5,.i,.i,.b,.b,.b,.b,.b,.i,.i,.i,.i]
section
variable (op cl:Bool) (er:Int) (O:LL)
def JBz:Int:= Jo (bif er == 0 && (cl || op) then 13 else er)
def JOj:Int:= bif er == 0 && (cl || op) then 13 else er
def W4:LL:= ZO (bif er == 0 && (cl || op) then 13 else er) O
end
def Jr2 (l y:List GC) (a0 a1:Int) (tr op en mo:Bool) (la0 la1 la2:Int) (cl:Bool) (er:Int) (O C:LL) := [(0,Obj.blk 66 [(3,Ci (xi l 0)),(4,Ci (xi l 1)),(5,Ci (xi l 2)),(6,Ci (xi l 3)),(7,Ci (xi l 4)),(8,Ci (xi l 5)),(9,Ci (xi l 6)),(10,Ci (xi l 7)),(11,Ci (xi l 8)),(12,Ci (xi l 9)),(13,Ci (xi l 10)),(14,Ci (xi l 11)),(15,Ci (xi l 12)),(16,Cb (xb l 13)),(17,Ci (xi l 14)),(18,Cb (xb l 15)),(19,Ci (xi l 16)),(20,Ci (xi l 17)),(21,Ci (xi l 18)),(22,Ci (xi l 19)),(23,Ci (xi l 20)),(24,Cb (xb l 21)),(25,Ci (xi y 0)),(26,Ci (xi y 1)),(27,Ci (xi y 2)),(28,Ci (xi y 3)),(29,Ci (xi y 4)),(30,Ci (xi y 5)),(31,Ci (xi y 6)),(32,Ci (xi y 7)),(33,Ci (xi y 8)),(34,Ci (xi y 9)),(35,Ci (xi y 10)),(36,Ci (xi y 11)),(37,Ci (xi y 12)),(38,Cb (xb y 13)),(39,Ci (xi y 14)),(40,Cb (xb y 15)),(41,Ci (xi y 16)),(42,Ci (xi y 17)),(43,Ci (xi y 18)),(44,Ci (xi y 19)),(45,Ci (xi y 20)),(46,Cb (xb y 21)),(47,Ci a0),(48,Ci a1),(49,Cb tr),(50,SC.wh 1),(51,Cb op),(90,Cb true),(53,Cb en),(54,Cb mo),(55,Ci la0),(56,Ci la1),(57,Ci la2),(185,SC.wh 183),(86,Ci (JOj op cl er))]),(183,Obj.row false 40 22 (RowC.lit 184 [])),(182,Obj.row false 40 22 (RowC.lst 181 JAB (W4 op cl er O))),(1,Obj.row false 40 22 (RowC.lst 60 JAB C))]
theorem Jmk (l y:List GC) (a0 a1:Int) (tr op cl en mo:Bool) (la0 la1 la2 er:Int) (C O:LL):Runs (Jm (JC Jkp) Zh 21) (JF5.args (Je JPJ [.v l,.v y,.i a0,.i a1,.b tr,.b op,.b cl,.b en,.b mo,.i la0,.i la1,.i la2,.i er])) (JF5.memo (Je JPJ [.v l,.v y,.i a0,.i a1,.b tr,.b op,.b cl,.b en,.b mo,.i la0,.i la1,.i la2,.i er]) [C,O]) JF5.n (SV.tup [(false,[SC.wh 182]),(false,[Ci (JBz op cl er)])]) ((Jr2 l y a0 a1 tr op en mo la0 la1 la2 cl er O C)) :=
  Runs.of1 (ps := []) (by kernel_rfl) (by simp)
def JSt:List Gm → Qs → Option CRes
  | [.v l,.v y,.i a0,.i a1,.b tr,.b op,.b cl,.b en,.b mo,.i la0,.i la1,.i la2,.i er],[C,O] => some ⟨SV.tup [(false,[SC.wh 182]),(false,[Ci (JBz op cl er)])],
 (Jr2 l y a0 a1 tr op en mo la0 la1 la2 cl er O C),[],[],191⟩
  | _,_ => none
theorem JuP:Ql Tryz.prog 21 (Z7 JPJ JF5 JSt) := by
  refine Qg (JE JXT 21) fun ps ls r hr hn _ => ?_
  unfold JSt at hr
  split at hr
  · cases hr; exact ⟨_,Jmk _ _ _ _ _ _ _ _ _ _ _ _ _ _ _,fun _ => rfl⟩
  · cases hr
def JgN:List (Nat × JY) := (21,Z7 JPJ JF5 JSt) :: Jkp
theorem JTw:Known Tryz.prog (JC JgN) Zh := J7 JXT JuP
def qK:Tpl := ⟨[.one (.ptr 0 0)],Y5,62⟩
def JGr:List GK := [.v Q5,.v Q5,.i,.i,.b,.b,.b,.b,.b,.i,.i,.i,.i]
def JKU (op:Bool) (er:Int) (C:LL):Int := bif er != 0 || !op then 0 else IntKind.i64.wrap (1 + Int.ofNat C.length)
def Jtl (l y:List GC) (a0 a1:Int) (tr op cl en mo:Bool) (la0 la1 la2 er:Int) (C O:LL) := [(0,Obj.blk 66 [(3,Ci (xi l 0)),(4,Ci (xi l 1)),(5,Ci (xi l 2)),(6,Ci (xi l 3)),(7,Ci (xi l 4)),(8,Ci (xi l 5)),(9,Ci (xi l 6)),(10,Ci (xi l 7)),(11,Ci (xi l 8)),(12,Ci (xi l 9)),(13,Ci (xi l 10)),(14,Ci (xi l 11)),(15,Ci (xi l 12)),(16,Cb (xb l 13)),(17,Ci (xi l 14)),(18,Cb (xb l 15)),(19,Ci (xi l 16)),(20,Ci (xi l 17)),(21,Ci (xi l 18)),(22,Ci (xi l 19)),(23,Ci (xi l 20)),(24,Cb (xb l 21)),(25,Ci (xi y 0)),(26,Ci (xi y 1)),(27,Ci (xi y 2)),(28,Ci (xi y 3)),(29,Ci (xi y 4)),(30,Ci (xi y 5)),(31,Ci (xi y 6)),(32,Ci (xi y 7)),(33,Ci (xi y 8)),(34,Ci (xi y 9)),(35,Ci (xi y 10)),(36,Ci (xi y 11)),(37,Ci (xi y 12)),(38,Cb (xb y 13)),(39,Ci (xi y 14)),(40,Cb (xb y 15)),(41,Ci (xi y 16)),(42,Ci (xi y 17)),(43,Ci (xi y 18)),(44,Ci (xi y 19)),(45,Ci (xi y 20)),(46,Cb (xb y 21)),(47,Ci a0),(48,Ci a1),(49,Cb tr),(50,SC.wh 1),(51,Cb op),(52,Cb cl),(53,Cb en),(54,Cb mo),(55,Ci la0),(56,Ci la1),(57,Ci la2),(58,SC.wh 2),(59,Ci er)]),(1,Obj.row false 40 22 (RowC.lst 60 JAB C)),(2,Obj.row false 40 22 (RowC.lst 61 JAB O))]
theorem JfL (l y:List GC) (a0 a1:Int) (tr op cl en mo:Bool) (la0 la1 la2 er:Int) (C O:LL):Runs (Jm (JC JgN) Zh 20) (qK.args (Je JGr [.v l,.v y,.i a0,.i a1,.b tr,.b op,.b cl,.b en,.b mo,.i la0,.i la1,.i la2,.i er])) (qK.memo (Je JGr [.v l,.v y,.i a0,.i a1,.b tr,.b op,.b cl,.b en,.b mo,.i la0,.i la1,.i la2,.i er]) [C,O]) qK.n (SV.one (Ci (JKU op er C))) ((Jtl l y a0 a1 tr op cl en mo la0 la1 la2 er C O)) :=
  Runs.of1 (ps := []) (by kernel_rfl) (by simp)
def JJ2:List Gm → Qs → Option CRes
  | [.v l,.v y,.i a0,.i a1,.b tr,.b op,.b cl,.b en,.b mo,.i la0,.i la1,.i la2,.i er],[C,O] => some ⟨SV.one (Ci (JKU op er C)),
 (Jtl l y a0 a1 tr op cl en mo la0 la1 la2 er C O),[],[],84⟩
  | _,_ => none
theorem Jk6:Ql Tryz.prog 20 (Z7 JGr qK JJ2) := by
  refine Qg (JE JTw 20) fun ps ls r hr hn _ => ?_
  unfold JJ2 at hr
  split at hr
  · cases hr; exact ⟨_,JfL _ _ _ _ _ _ _ _ _ _ _ _ _ _ _,fun _ => rfl⟩
  · cases hr
def JRU:List (Nat × JY) := (20,Z7 JGr qK JJ2) :: JgN
theorem JM5:Known Tryz.prog (JC JRU) Zh := J7 JTw Jk6
def JKE:Tpl := ⟨[],[],0⟩
def JrY := [(2,Obj.blk 66 [(3,SC.int IntKind.i64 (SI.c 0)),(4,SC.int IntKind.i64 (SI.c 0)),(5,SC.int IntKind.i64 (SI.c 0)),(6,SC.int IntKind.i64 (SI.c 0)),(7,SC.int IntKind.i64 (SI.c 0)),(8,SC.int IntKind.i64 (SI.c 0)),(9,SC.int IntKind.i64 (SI.c 0)),(10,SC.int IntKind.i64 (SI.c 0)),(11,SC.int IntKind.i64 (SI.c 0)),(12,SC.int IntKind.i64 (SI.c 0)),(13,SC.int IntKind.i64 (SI.c 0)),(14,SC.int IntKind.i64 (SI.c 0)),(15,SC.int IntKind.i64 (SI.c 0)),(16,SC.bool (SB.c false)),(17,SC.int IntKind.i64 (SI.c 0)),(18,SC.bool (SB.c false)),(19,SC.int IntKind.i64 (SI.c 0)),(20,SC.int IntKind.i64 (SI.c 0)),(21,SC.int IntKind.i64 (SI.c 0)),(22,SC.int IntKind.i64 (SI.c 0)),(23,SC.int IntKind.i64 (SI.c 0)),(24,SC.bool (SB.c false)),(25,SC.int IntKind.i64 (SI.c 0)),(26,SC.int IntKind.i64 (SI.c 0)),(27,SC.int IntKind.i64 (SI.c 0)),(28,SC.int IntKind.i64 (SI.c 0)),(29,SC.int IntKind.i64 (SI.c 0)),(30,SC.int IntKind.i64 (SI.c 0)),(31,SC.int IntKind.i64 (SI.c 0)),(32,SC.int IntKind.i64 (SI.c 0)),(33,SC.int IntKind.i64 (SI.c 0)),(34,SC.int IntKind.i64 (SI.c 0)),(35,SC.int IntKind.i64 (SI.c 0)),(36,SC.int IntKind.i64 (SI.c 0)),(37,SC.int IntKind.i64 (SI.c 0)),(38,SC.bool (SB.c false)),(39,SC.int IntKind.i64 (SI.c 0)),(40,SC.bool (SB.c false)),(41,SC.int IntKind.i64 (SI.c 0)),(42,SC.int IntKind.i64 (SI.c 0)),(43,SC.int IntKind.i64 (SI.c 0)),(44,SC.int IntKind.i64 (SI.c 0)),(45,SC.int IntKind.i64 (SI.c 0)),(46,SC.bool (SB.c false)),(47,SC.int IntKind.i64 (SI.c 0)),(48,SC.int IntKind.i64 (SI.c 0)),(49,SC.bool (SB.c false)),(64,SC.wh 62),(51,SC.bool (SB.c false)),(52,SC.bool (SB.c false)),(53,SC.bool (SB.c false)),(54,SC.bool (SB.c false)),(55,SC.int IntKind.i64 (SI.c 0)),(56,SC.int IntKind.i64 (SI.c 0)),(57,SC.int IntKind.i64 (SI.c 0)),(67,SC.wh 65),(59,SC.int IntKind.i64 (SI.c 0))]),(65,Obj.row false 40 22 (RowC.lit 66 [])),(62,Obj.row false 40 22 (RowC.lit 63 []))]
theorem Jpj:Runs (Jm (JC JRU) Zh 18) (JKE.args []) (JKE.memo [] []) JKE.n (SV.one (SC.ptr 2 0)) (JrY) :=
  Runs.of1 (ps := []) (by kernel_rfl) (by simp)
def JXy:List Pm → Qs → Option CRes
  | [],[] => some ⟨SV.one (SC.ptr 2 0),
 JrY,[],[],68⟩
  | _,_ => none
theorem JvA:Ql Tryz.prog 18 (JU JKE JXy) := by
  refine JI (JE JM5 18) fun ps ls r hr hn _ => ?_
  unfold JXy at hr
  split at hr
  · cases hr; exact ⟨_,Jpj,fun _ => rfl⟩
  · cases hr
def Jku:List (Nat × JY) := (18,JU JKE JXy) :: JRU
theorem JWv:Known Tryz.prog (JC Jku) Zh := J7 JM5 JvA
def JOg:Tpl := ⟨[.agg [.int .i64,.int .i64,.int .i64],.agg [.int .i64,.int .i64,.int .i64]],[],0⟩
theorem Jrx (a b c d e f:Int):Runs (Jm (JC Jku) Zh 26) (JOg.args [.i a,.i b,.i c,.i d,.i e,.i f]) (JOg.memo [.i a,.i b,.i c,.i d,.i e,.i f] []) JOg.n (SV.agg [Ci (JG a d),Ci (JG b e),Ci (JG c f)]) ([]) :=
  Runs.of1 (ps := []) (by kernel_rfl) (by simp)
def Jg5:List Pm → Qs → Option CRes
  | [.i a,.i b,.i c,.i d,.i e,.i f],[] => some ⟨SV.agg [Ci (JG a d),Ci (JG b e),Ci (JG c f)],
 [],[],[],35⟩
  | _,_ => none
theorem Jx2:Ql Tryz.prog 26 (JU JOg Jg5) := by
  refine JI (JE JWv 26) fun ps ls r hr hn _ => ?_
  unfold Jg5 at hr
  split at hr
  · cases hr; exact ⟨_,Jrx _ _ _ _ _ _,fun _ => rfl⟩
  · cases hr
def Jup:List (Nat × JY) := (26,JU JOg Jg5) :: Jku
theorem Jce:Known Tryz.prog (JC Jup) Zh := J7 JWv Jx2
def JOE:Tpl := ⟨[.agg [.int .i64,.int .i64,.int .i64],.agg [.int .i64,.int .i64,.int .i64]],[],0⟩
theorem Jug (a b c d e f:Int):Runs (Jm (JC Jup) Zh 27) (JOE.args [.i a,.i b,.i c,.i d,.i e,.i f]) (JOE.memo [.i a,.i b,.i c,.i d,.i e,.i f] []) JOE.n (SV.agg [Ci (J1 a d),Ci (J1 b e),Ci (J1 c f)]) ([]) :=
  Runs.of1 (ps := []) (by kernel_rfl) (by simp)
def JfE:List Pm → Qs → Option CRes
  | [.i a,.i b,.i c,.i d,.i e,.i f],[] => some ⟨SV.agg [Ci (J1 a d),Ci (J1 b e),Ci (J1 c f)],
 [],[],[],35⟩
  | _,_ => none
theorem Jwn:Ql Tryz.prog 27 (JU JOE JfE) := by
  refine JI (JE Jce 27) fun ps ls r hr hn _ => ?_
  unfold JfE at hr
  split at hr
  · cases hr; exact ⟨_,Jug _ _ _ _ _ _,fun _ => rfl⟩
  · cases hr
def Jrs:List (Nat × JY) := (27,JU JOE JfE) :: Jup
theorem Jc4:Known Tryz.prog (JC Jrs) Zh := J7 Jce Jwn
def JEl:Tpl := ⟨[.one (.wh 0)],[(0,.row true 3 1 1 [.int .i64])],2⟩
def JE8 (L:LL):Bool := decide (Int.ofNat L.length ≤ 120)
theorem JkB (L:LL):Runs (Jm (JC Jrs) Zh 7) (JEl.args []) (JEl.memo [] [L]) JEl.n (SV.one (Cb (JE8 L))) ([(0,Obj.row true 3 1 (RowC.lst 1 [CK.int IntKind.i64] L))]) :=
  Runs.of1 (ps := []) (by kernel_rfl) (by simp)
def JRJ:List Pm → Qs → Option CRes
  | [],[L] => some ⟨SV.one (Cb (JE8 L)),
 [(0,Obj.row true 3 1 (RowC.lst 1 [CK.int IntKind.i64] L))],[],[],7⟩
  | _,_ => none
theorem JtU:Ql Tryz.prog 7 (JU JEl JRJ) := by
  refine JI (JE Jc4 7) fun ps ls r hr hn _ => ?_
  unfold JRJ at hr
  split at hr
  · cases hr; exact ⟨_,JkB _,fun _ => rfl⟩
  · cases hr
def JdQ:List (Nat × JY) := (7,JU JEl JRJ) :: Jrs
theorem JTp:Known Tryz.prog (JC JdQ) Zh := J7 Jc4 JtU
def JOK:Tpl := ⟨[.one (.wh 0)],[(0,.row true 3 1 1 [.int .i64])],2⟩
theorem Jur (L:LL):Runs (Jm (JC JdQ) Zh 10) (JOK.args []) (JOK.memo [] [L]) JOK.n (SV.one (SC.ptr 5 0)) ([(5,Obj.blk 57 [(6,SC.wh 0),(7,SC.int IntKind.i64 (SI.c 0))]),(0,Obj.row true 3 1 (RowC.lst 1 [CK.int IntKind.i64] L))]) :=
  Runs.of1 (ps := []) (by kernel_rfl) (by simp)
def Jft:List Pm → Qs → Option CRes
  | [],[L] => some ⟨SV.one (SC.ptr 5 0),
 [(5,Obj.blk 57 [(6,SC.wh 0),(7,SC.int IntKind.i64 (SI.c 0))]),(0,Obj.row true 3 1 (RowC.lst 1 [CK.int IntKind.i64] L))],[],[],10⟩
  | _,_ => none
theorem JxR:Ql Tryz.prog 10 (JU JOK Jft) := by
  refine JI (JE JTp 10) fun ps ls r hr hn _ => ?_
  unfold Jft at hr
  split at hr
  · cases hr; exact ⟨_,Jur _,fun _ => rfl⟩
  · cases hr
def Jtm:List (Nat × JY) := (10,JU JOK Jft) :: JdQ
theorem Jcl:Known Tryz.prog (JC Jtm) Zh := J7 JTp JxR
def JIY:Tpl := ⟨[.one (.ptr 0 0),.one (.int .i64)],[(0,.blk 57 [(2,.wh 1),(3,.int .i64)]),(1,.row true 3 1 4 [.int .i64])],5⟩
section
variable (n a:Int) (L:LL)
def JA:Int:= bif decide (a ≥ Int.ofNat L.length) then 0 else JWb ((L.getD (IntKind.i64.wrap (IntKind.i64.wrap (a + 1) - 1)).toNat []).getD 0 0) n
def J0:Int:= bif decide (a ≥ Int.ofNat L.length) then a else IntKind.i64.wrap (a + 1)
def JOk:Int:= IntKind.i64.wrap (IntKind.i64.wrap (a + 1) - 1)
def JI5:List Prop:= [decide (a ≥ Int.ofNat L.length) = false → 0 ≤ JOk a ∧ (JOk a).toNat < L.length ∧ (JOk a).toNat < L.length ∧ n ≠ 0]
end
theorem KM (a:Int) (L:LL) (h:0 ≤ a) (hl:L.length ≤ 1000000):0 ≤ J0 a L := by
  unfold J0
  cases hd:decide (a ≥ Int.ofNat L.length)
  · have h4:a < (L.length:Int) := by simpa using hd
    rw [cond_false,X6 (by omega) (by omega)]
    omega
  · exact h
theorem Y1 (n a:Int) (L:LL) (h:1 ≤ n) (hb:n ≤ 4611686018427387904):0 ≤ JA n a L ∧ JA n a L < n := by
  unfold JA
  cases decide (a ≥ Int.ofNat L.length)
  · exact Jvh _ _ h hb
  · simp only [cond_true]; omega
theorem JqX {n:Int} {a:Int} {L:LL} (hW:∀ q ∈ ([0 ≤ a,L.length ≤ 1000000,n ≠ 0]:List Prop),q):∀ q ∈ (JI5 n a L),q := by
  simp only [awc,awn,and_true] at hW
  intro q hq
  unfold JI5 at hq
  simp only [List.mem_cons,List.not_mem_nil,or_false] at hq
  obtain ⟨h1,h2,h3⟩ := hW
  subst hq
  intro h
  have h4:a < (L.length:Int) := by simpa using h
  have e:JOk a = a := by unfold JOk; rw [X6 (x := a + 1) (by omega) (by omega),X6 (by omega) (by omega)]; omega
  rw [e]
  exact ⟨h1,by omega,by omega,h3⟩
theorem Joi (n a:Int) (L:LL) (hNeeds:∀ pN ∈ (JI5 n a L),pN):Runs (Jm (JC Jtm) Zh 23) (JIY.args [.i n,.i a]) (JIY.memo [.i n,.i a] [L]) JIY.n (SV.one (Ci (JA n a L))) ([(0,Obj.blk 57 [(2,SC.wh 1),(54,Ci (J0 a L))]),(1,Obj.row true 3 1 (RowC.lst 4 [CK.int IntKind.i64] L))]) :=
  Runs.of1 (ps := (JI5 n a L)) (by kernel_rfl) hNeeds
def JVm:List Pm → Qs → Option CRes
  | [.i n,.i a],[L] => some ⟨SV.one (Ci (JA n a L)),
 [(0,Obj.blk 57 [(2,SC.wh 1),(54,Ci (J0 a L))]),(1,Obj.row true 3 1 (RowC.lst 4 [CK.int IntKind.i64] L))],[0 ≤ a,L.length ≤ 1000000,n ≠ 0],[],55⟩
  | _,_ => none
theorem JvW:Ql Tryz.prog 23 (JU JIY JVm) := by
  refine JI (JE Jcl 23) fun ps ls r hr hn _ => ?_
  unfold JVm at hr
  split at hr
  · cases hr; exact ⟨_,Joi _ _ _ (JqX (by exact hn)),fun _ => rfl⟩
  · cases hr
def Jkn:List (Nat × JY) := (23,JU JIY JVm) :: Jtm
theorem JZi:Known Tryz.prog (JC Jkn) Zh := J7 Jcl JvW
def JGV:Tpl := ⟨[.one (.ptr 0 0),.one (.int .i64),.one (.int .i64)],[(0,.blk 57 [(2,.wh 1),(3,.int .i64)]),(1,.row true 3 1 4 [.int .i64])],5⟩
def JK (n m a:Int) (L:LL):Int := IntKind.i64.wrap (n + JA (IntKind.i64.wrap (IntKind.i64.wrap (m - n) + 1)) a L)
def JDh (n m a:Int) (L:LL):List Prop := [0 ≤ a,L.length ≤ 1000000,IntKind.i64.wrap (IntKind.i64.wrap (m - n) + 1) ≠ 0]
theorem zA (n m a:Int) (L:LL) (h:n ≤ m) (h1:-1000000 ≤ n) (h2:m ≤ 1000000):n ≤ (JK n m a L) ∧ (JK n m a L) ≤ m := by
  have e:IntKind.i64.wrap (IntKind.i64.wrap (m - n) + 1) = m - n + 1 := by rw [X6 (x := m - n) (by omega) (by omega),X6 (by omega) (by omega)]
  have k := Y1 (m - n + 1) a L (by omega) (by omega)
  unfold JK
  rw [e,X6 (by omega) (by omega)]
  omega
theorem JlO {n:Int} {m:Int} {a:Int} {L:LL} (hW:∀ q ∈ ([0 ≤ a,L.length ≤ 1000000,n ≤ m ∧ -1000000 ≤ n ∧ m ≤ 1000000]:List Prop),q):∀ q ∈ (JDh n m a L),q := by
  simp only [awc,awn,and_true] at hW
  intro q hq
  unfold JDh at hq
  simp only [List.mem_cons,List.not_mem_nil,or_false] at hq
  obtain ⟨h1,h2,h3⟩ := hW
  have e:IntKind.i64.wrap (IntKind.i64.wrap (m - n) + 1) = m - n + 1 := by rw [X6 (x := m - n) (by omega) (by omega),X6 (by omega) (by omega)]
  rcases hq with rfl | rfl | rfl
  · exact h1
  · exact h2
  · rw [e]; omega
theorem Jlg (n m a:Int) (L:LL) (hNeeds:∀ pN ∈ (JDh n m a L),pN):Runs (Jm (JC Jkn) Zh 24) (JGV.args [.i n,.i m,.i a]) (JGV.memo [.i n,.i m,.i a] [L]) JGV.n (SV.one (Ci (JK n m a L))) ([(0,Obj.blk 57 [(2,SC.wh 1),(66,Ci (J0 a L))]),(1,Obj.row true 3 1 (RowC.lst 4 [CK.int IntKind.i64] L))]) :=
  Runs.of1 (ps := (JDh n m a L)) (by kernel_rfl) hNeeds
def JR9:List Pm → Qs → Option CRes
  | [.i n,.i m,.i a],[L] => some ⟨SV.one (Ci (JK n m a L)),
 [(0,Obj.blk 57 [(2,SC.wh 1),(66,Ci (J0 a L))]),(1,Obj.row true 3 1 (RowC.lst 4 [CK.int IntKind.i64] L))],[0 ≤ a,L.length ≤ 1000000,n ≤ m ∧ -1000000 ≤ n ∧ m ≤ 1000000],[],70⟩
  | _,_ => none
theorem Js2:Ql Tryz.prog 24 (JU JGV JR9) := by
  refine JI (JE JZi 24) fun ps ls r hr hn _ => ?_
  unfold JR9 at hr
  split at hr
  · cases hr; exact ⟨_,Jlg _ _ _ _ (JlO (by exact hn)),fun _ => rfl⟩
  · cases hr
def JfZ:List (Nat × JY) := (24,JU JGV JR9) :: Jkn
theorem JUM:Known Tryz.prog (JC JfZ) Zh := J7 JZi Js2
def JJJ:Tpl := ⟨[.one (.ptr 0 0),.one (.int .i64)],[(0,.blk 57 [(2,.wh 1),(3,.int .i64)]),(1,.row true 3 1 4 [.int .i64])],5⟩
section
variable (n a:Int) (L:LL)
def Zt:Int:= JK (IntKind.i64.wrap (0 - n)) n a L
def Zu:Int:= JK (IntKind.i64.wrap (0 - n)) n (J0 a L) L
def QV:Int:= JK (IntKind.i64.wrap (0 - n)) n (J0 (J0 a L) L) L
def JGz:List Prop:= [0 ≤ a,L.length ≤ 1000000,IntKind.i64.wrap (0 - n) ≤ n ∧ -1000000 ≤ IntKind.i64.wrap (0 - n) ∧ n ≤ 1000000,0 ≤ J0 a L,L.length ≤ 1000000,IntKind.i64.wrap (0 - n) ≤ n ∧ -1000000 ≤ IntKind.i64.wrap (0 - n) ∧ n ≤ 1000000,0 ≤ J0 (J0 a L) L,L.length ≤ 1000000,IntKind.i64.wrap (0 - n) ≤ n ∧ -1000000 ≤ IntKind.i64.wrap (0 - n) ∧ n ≤ 1000000]
end
theorem Joh {n:Int} {a:Int} {L:LL} (hW:∀ q ∈ ([0 ≤ a,L.length ≤ 1000000,0 ≤ n ∧ n ≤ 1000000]:List Prop),q):∀ q ∈ (JGz n a L),q := by
  simp only [awc,awn,and_true] at hW
  intro q hq
  unfold JGz at hq
  simp only [List.mem_cons,List.not_mem_nil,or_false] at hq
  obtain ⟨h1,h2,h3⟩ := hW
  have nn:∀ x,0 ≤ x → 0 ≤ J0 x L := fun x h => KM x L h h2
  have e:IntKind.i64.wrap (0 - n) = 0 - n := X6 (by omega) (by omega)
  rw [e] at hq
  rcases hq with rfl | rfl | rfl | rfl | rfl | rfl | rfl | rfl | rfl
  · exact h1
  · exact h2
  · omega
  · exact nn _ h1
  · exact h2
  · omega
  · exact nn _ (nn _ h1)
  · exact h2
  · omega
theorem JoW (n a:Int) (L:LL) (hNeeds:∀ pN ∈ (JGz n a L),pN):Runs (Jm (JC JfZ) Zh 25) (JJJ.args [.i n,.i a]) (JJJ.memo [.i n,.i a] [L]) JJJ.n (SV.agg [Ci (Zt n a L),Ci (Zu n a L),Ci (QV n a L)]) ([(0,Obj.blk 57 [(2,SC.wh 1),(234,Ci (J0 (J0 (J0 a L) L) L))]),(1,Obj.row true 3 1 (RowC.lst 4 [CK.int IntKind.i64] L))]) :=
  Runs.of1 (ps := (JGz n a L)) (by kernel_rfl) hNeeds
def JZv:List Pm → Qs → Option CRes
  | [.i n,.i a],[L] => some ⟨SV.agg [Ci (Zt n a L),Ci (Zu n a L),Ci (QV n a L)],
 [(0,Obj.blk 57 [(2,SC.wh 1),(234,Ci (J0 (J0 (J0 a L) L) L))]),(1,Obj.row true 3 1 (RowC.lst 4 [CK.int IntKind.i64] L))],[0 ≤ a,L.length ≤ 1000000,0 ≤ n ∧ n ≤ 1000000],[],244⟩
  | _,_ => none
theorem JvF:Ql Tryz.prog 25 (JU JJJ JZv) := by
  refine JI (JE JUM 25) fun ps ls r hr hn _ => ?_
  unfold JZv at hr
  split at hr
  · cases hr; exact ⟨_,JoW _ _ _ (Joh (by exact hn)),fun _ => rfl⟩
  · cases hr
def JMe:List (Nat × JY) := (25,JU JJJ JZv) :: JfZ
theorem JZO:Known Tryz.prog (JC JMe) Zh := J7 JUM JvF
structure CS where
  k:Nat
  a:Int
  x:Int
  y:Int
  z:Int
  R:LL
section
variable (x y z u v w c d e dir fe sd ra n r i:Int) (L:LL) (s:CS)
def JvP:Nat × SX.Obj:= (1,.row true 3 1 (.lst 4 [.int .i64] L))
def pU:Int:= bif i.toNat.beq 0 then r else bif i.toNat.beq 1 then 0 else bif i.toNat.beq 2 then IntKind.i64.wrap (0 - r) else 0
def pW:Int:= bif i.toNat.beq 0 then 0 else bif i.toNat.beq 1 then r else bif i.toNat.beq 2 then 0 else IntKind.i64.wrap (0 - r)
def itO:List Int:= [10,0,0,0,0,0,0,0,0,0,0,0,0,0,0,0,0,0,0,n,0,1]
def itL:List Int:= [2,0,x,y,z,u,v,w,17,0,0,0,0,0,fe,0,sd,ra,0,0,0,0]
def itA:List Int:= [3,0,x,y,z,u,v,w,17,c,d,e,dir,0,fe,0,sd,ra,0,0,0,0]
def stO:CS:= ⟨s.k - 1,J0 (J0 s.a L) L,s.x,s.y,s.z,s.R ++ [itO (JA 4 (J0 s.a L) L)]⟩
end
section
variable (L:LL) (sz sd ra:Int) (s:CS)
def stZ:CS:= ⟨s.k - 1,J0 (J0 s.a L) L,s.x,s.y,IntKind.i64.wrap (s.z + JK (-50) 50 (J0 s.a L) L),s.R ++ [itL s.x s.y s.z s.x s.y (IntKind.i64.wrap (s.z + JK (-50) 50 (J0 s.a L) L)) 30000 sd ra]⟩
def aR:Int:= IntKind.i64.wrap (IntKind.i64.wrap (JK 1 4 (J0 s.a L) L * ra) + 20)
def aI:Int:= JA 4 (J0 (J0 s.a L) L) L
def aK:Int:= (IntKind.i64.wrap (aI L s + JK 1 3 (J0 (J0 (J0 s.a L) L) L) L)).tmod 4
def aC:Int:= J1 s.x (pU (aR L ra s) (aI L s))
def aD:Int:= J1 s.y (pW (aR L ra s) (aI L s))
def aX:Int:= JG (aC L ra s) (pU (aR L ra s) (aK L s))
def aY:Int:= JG (aD L ra s) (pW (aR L ra s) (aK L s))
def stA:CS:= ⟨s.k - 1,J0 (J0 (J0 (J0 (J0 s.a L) L) L) L) L,aX L ra s,aY L ra s,JG (J1 s.z 0) 0, s.R ++ [itA s.x s.y s.z (aX L ra s) (aY L ra s) (JG (J1 s.z 0) 0) (aC L ra s) (aD L ra s) (J1 s.z 0) (IntKind.i64.wrap (1 - IntKind.i64.wrap (2 * JA 2 (J0 (J0 (J0 (J0 s.a L) L) L) L) L))) 60000 sd ra]⟩
def dX:Int:= JG s.x (JK (IntKind.i64.wrap (0 - sz)) sz (J0 s.a L) L)
def dY:Int:= JG s.y (JK (IntKind.i64.wrap (0 - sz)) sz (J0 (J0 s.a L) L) L)
end
def Jxb (L:LL) (sd ra sz:Int) (s:CS):CS := ⟨s.k - 1,J0 (J0 (J0 s.a L) L) L,dX L sz s,dY L sz s,JG s.z 0,s.R ++ [itL s.x s.y s.z (dX L sz s) (dY L sz s) (JG s.z 0) 60000 sd ra]⟩
def WO (L:LL) (sd ra sz:Int) (s:CS):CS := bif JA 10 s.a L == 0 then stO L s else bif JA 10 s.a L == 1 then stZ L sd ra s else bif (bif JA 10 s.a L == 2 then JA 10 s.a L == 2 else JA 10 s.a L == 3) then stA L sd ra s else Jxb L sd ra sz s
def JNi (L:LL) (sd ra sz:Int):Nat → CS → CS
  | 0,s => s
  | k + 1,s => JNi L sd ra sz k (WO L sd ra sz s)
def Z1 (L:LL) (sd ra sz:Int):Fam CS CS where
  k := 100
  E s := [(9,ent 1000000000 (.one (I (Int.ofNat s.k)))),(8,ent 1000000001 (.one (.wh 860))),(6,ent 526 (.one (.ptr 522 0))),(5,ent 275 (.one (I sz))),(4,ent 270 (.one (I ra))),(3,ent 137 (.one (I sd))),(0,ent 0 (.one (.ptr 0 0)))]
  M s := [(0,.blk 57 [(2,.wh 1),(1000000002,I s.a)]),JvP L,(522,.blk 38 [(1000000003,I s.x),(1000000004,I s.y),(1000000005,I s.z)]),Kw 860 1000000006 s.R]
  out s := .leaf (.exit 0) [(8,ent 855 (.one (.wh 860))),(6,ent 526 (.one (.ptr 522 0))),(5,ent 275 (.one (I sz))),(4,ent 270 (.one (I ra))),(3,ent 137 (.one (I sd))),(0,ent 0 (.one (.ptr 0 0)))] [(0,.blk 57 [(2,.wh 1),(856,I s.a)]),JvP L,(522,.blk 38 [(857,I s.x),(858,I s.y),(859,I s.z)]),Kw 860 861 s.R]
  fin s := JNi L sd ra sz s.k s
  next s i := match i with
    | 0 => stO L s
    | 1 => stZ L sd ra s
    | 2 => stA L sd ra s
    | _ => Jxb L sd ra sz s
  J s := 0 ≤ s.a ∧ L.length ≤ 1000000 ∧ (0 ≤ sz ∧ sz ≤ 1000000) ∧ s.R.length + s.k ≤ 1000
  μ s := s.k
section
variable (sd:Int) (L:LL) (sz ra:Int) (s:CS)
def Jkf:Prop:= decide (Int.ofNat s.k > 0) = true
def Jlp:Prop:= (JA 10 s.a L == 0) = true
def JRp:Prop:= (s.R.length + 1) * 176 ≤ 140737488355328 ∧ s.R.length + 1 ≤ 9223372036854775807
def JQf:Prop:= (JA 10 s.a L == 0) = false
def JjI:Prop:= (JA 10 s.a L == 1) = true
def JaH:Prop:= (JA 10 s.a L == 1) = false
def JQD:Bool:= JA 10 s.a L == 2
def Jmg:Prop:= (bif JQD L s then JQD L s else JA 10 s.a L == 3) = true
def JuG:Int:= IntKind.i64.wrap (JK 1 4 (J0 s.a L) L * ra)
def JRm:Int:= IntKind.i64.wrap (JuG L ra s + 20)
def JLD:List SC:= [SC.int IntKind.i64 (mkI (isC (mkI (isC (SI.v (JK 1 4 (J0 s.a L) L)) (SI.v ra)) (JuG L ra s)) (SI.c 20)) (JRm L ra s))]
def qD:Int:= IntKind.i64.wrap (0 - JRm L ra s)
def WN:Int:= (IntKind.i64.wrap (JA 4 (J0 (J0 s.a L) L) L + JK 1 3 (J0 (J0 (J0 s.a L) L) L) L)).tmod 4
def Jdb:Prop:= (bif JQD L s then JQD L s else JA 10 s.a L == 3) = false
def JnJ:Int:= IntKind.i64.wrap (s.z + JK (-50) 50 (J0 s.a L) L)
def Jdx:List Int:= [0,sd,ra,0,0,0,0]
def Jn6:Int:= J1 s.x (bif (JA 4 (J0 (J0 s.a L) L) L).toNat.beq 0 then JRm L ra s else bif (JA 4 (J0 (J0 s.a L) L) L).toNat.beq 1 then 0 else bif (JA 4 (J0 (J0 s.a L) L) L).toNat.beq 2 then qD L ra s else 0)
def Jmx:Int:= JG (Jn6 L ra s) (bif (WN L s).toNat.beq 0 then JRm L ra s else bif (WN L s).toNat.beq 1 then 0 else bif (WN L s).toNat.beq 2 then qD L ra s else 0)
def JoH:Int:= J1 s.y (bif (JA 4 (J0 (J0 s.a L) L) L).toNat.beq 0 then 0 else bif (JA 4 (J0 (J0 s.a L) L) L).toNat.beq 1 then JRm L ra s else bif (JA 4 (J0 (J0 s.a L) L) L).toNat.beq 2 then 0 else qD L ra s)
def JoE:Int:= JG (JoH L ra s) (bif (WN L s).toNat.beq 0 then 0 else bif (WN L s).toNat.beq 1 then JRm L ra s else bif (WN L s).toNat.beq 2 then 0 else qD L ra s)
def JnV:Int:= JG s.x (JK (IntKind.i64.wrap (0 - sz)) sz (J0 s.a L) L)
def Jng:Int:= JG s.y (JK (IntKind.i64.wrap (0 - sz)) sz (J0 (J0 s.a L) L) L)
end
def JRb (L:LL) (sd ra sz:Int) (s:CS):List Prop :=
 [Jkf s → 0 ≤ s.a ∧ L.length ≤ 1000000 ∧ Int.ofNat 10 ≠ 0 ∧ (Jlp L s → 0 ≤ J0 s.a L ∧ L.length ≤ 1000000 ∧ Int.ofNat 4 ≠ 0 ∧ JRp s) ∧ (JQf L s → (JjI L s → 0 ≤ J0 s.a L ∧ L.length ≤ 1000000 ∧ (-50 ≤ 50 ∧ -1000000 ≤ -50 ∧ Int.ofNat 50 ≤ 1000000) ∧ JRp s) ∧ (JaH L s → Jmg L s → 0 ≤ J0 s.a L ∧ L.length ≤ 1000000 ∧ (Int.ofNat 1 ≤ 4 ∧ -1000000 ≤ 1 ∧ Int.ofNat 4 ≤ 1000000) ∧ 0 ≤ J0 (J0 s.a L) L ∧ L.length ≤ 1000000 ∧ Int.ofNat 4 ≠ 0 ∧ 0 ≤ J0 (J0 (J0 s.a L) L) L ∧ L.length ≤ 1000000 ∧ (Int.ofNat 1 ≤ 3 ∧ -1000000 ≤ 1 ∧ Int.ofNat 3 ≤ 1000000) ∧ 0 ≤ JA 4 (J0 (J0 s.a L) L) L ∧ (JA 4 (J0 (J0 s.a L) L) L).toNat < 4 ∧ (JA 4 (J0 (J0 s.a L) L) L).toNat < 4 ∧ (JA 4 (J0 (J0 s.a L) L) L).toNat < (jW 2 4 (Zb (Zb (Zb (Zb (List.map (fun j => [SC.int IntKind.i64 (SI.c 0),SC.int IntKind.i64 (SI.c 0)][j % 2]?.getD SC.nilp) (List.range 8)) 0 (Zb [SC.int IntKind.i64 (SI.c 0),SC.int IntKind.i64 (SI.c 0)] 0 (JLD L ra s))) 2 (Zb [SC.int IntKind.i64 (SI.c 0),SC.int IntKind.i64 (SI.c 0)] 1 (JLD L ra s))) 4 (Zb [SC.int IntKind.i64 (SI.c 0),SC.int IntKind.i64 (SI.c 0)] 0 [SC.int IntKind.i64 (SI.v (qD L ra s))])) 6 (Zb [SC.int IntKind.i64 (SI.c 0),SC.int IntKind.i64 (SI.c 0)] 1 [SC.int IntKind.i64 (SI.v (qD L ra s))]))).length ∧ 0 ≤ JA 4 (J0 (J0 s.a L) L) L ∧ (JA 4 (J0 (J0 s.a L) L) L).toNat < 4 ∧ (JA 4 (J0 (J0 s.a L) L) L).toNat < 4 ∧ (JA 4 (J0 (J0 s.a L) L) L).toNat < (jW 2 4 (Zb (Zb (Zb (Zb (List.map (fun j => [SC.int IntKind.i64 (SI.c 0),SC.int IntKind.i64 (SI.c 0)][j % 2]?.getD SC.nilp) (List.range 8)) 0 (Zb [SC.int IntKind.i64 (SI.c 0),SC.int IntKind.i64 (SI.c 0)] 0 (JLD L ra s))) 2 (Zb [SC.int IntKind.i64 (SI.c 0),SC.int IntKind.i64 (SI.c 0)] 1 (JLD L ra s))) 4 (Zb [SC.int IntKind.i64 (SI.c 0),SC.int IntKind.i64 (SI.c 0)] 0 [SC.int IntKind.i64 (SI.v (qD L ra s))])) 6 (Zb [SC.int IntKind.i64 (SI.c 0),SC.int IntKind.i64 (SI.c 0)] 1 [SC.int IntKind.i64 (SI.v (qD L ra s))]))).length ∧ 0 ≤ WN L s ∧ (WN L s).toNat < 4 ∧ (WN L s).toNat < (jW 2 4 (Zb (Zb (Zb (Zb (List.map (fun j => [SC.int IntKind.i64 (SI.c 0),SC.int IntKind.i64 (SI.c 0)][j % 2]?.getD SC.nilp) (List.range 8)) 0 (Zb [SC.int IntKind.i64 (SI.c 0),SC.int IntKind.i64 (SI.c 0)] 0 (JLD L ra s))) 2 (Zb [SC.int IntKind.i64 (SI.c 0),SC.int IntKind.i64 (SI.c 0)] 1 (JLD L ra s))) 4 (Zb [SC.int IntKind.i64 (SI.c 0),SC.int IntKind.i64 (SI.c 0)] 0 [SC.int IntKind.i64 (SI.v (qD L ra s))])) 6 (Zb [SC.int IntKind.i64 (SI.c 0),SC.int IntKind.i64 (SI.c 0)] 1 [SC.int IntKind.i64 (SI.v (qD L ra s))]))).length ∧ 0 ≤ J0 (J0 (J0 (J0 s.a L) L) L) L ∧ L.length ≤ 1000000 ∧ Int.ofNat 2 ≠ 0 ∧ JRp s)) ∧ (JQf L s → JaH L s → Jdb L s → 0 ≤ J0 s.a L ∧ L.length ≤ 1000000 ∧ (IntKind.i64.wrap (0 - sz) ≤ sz ∧ -1000000 ≤ IntKind.i64.wrap (0 - sz) ∧ sz ≤ 1000000) ∧ 0 ≤ J0 (J0 s.a L) L ∧ L.length ≤ 1000000 ∧ (IntKind.i64.wrap (0 - sz) ≤ sz ∧ -1000000 ≤ IntKind.i64.wrap (0 - sz) ∧ sz ≤ 1000000) ∧ JRp s),Jkf s → (Jlp L s → (0 ≤ ((Z1 L sd ra sz).next s 0).a ∧ L.length ≤ 1000000 ∧ (0 ≤ sz ∧ sz ≤ 1000000) ∧ ((Z1 L sd ra sz).next s 0).R.length + ((Z1 L sd ra sz).next s 0).k ≤ 1000) ∧ (Z1 L sd ra sz).μ ((Z1 L sd ra sz).next s 0) < (Z1 L sd ra sz).μ s ∧ (Z1 L sd ra sz).fin ((Z1 L sd ra sz).next s 0) = (Z1 L sd ra sz).fin s ∧ Int.ofNat ((Z1 L sd ra sz).next s 0).k = IntKind.i64.wrap (Int.ofNat s.k - 1) ∧ ((Z1 L sd ra sz).next s 0).a = J0 (J0 s.a L) L ∧ ((Z1 L sd ra sz).next s 0).x = s.x ∧ ((Z1 L sd ra sz).next s 0).y = s.y ∧ ((Z1 L sd ra sz).next s 0).z = s.z ∧ ((Z1 L sd ra sz).next s 0).R = s.R ++ [[10,0,0,0,0,0,0,0,0,0,0,0,0,0,0,0,0,0,0,JA 4 (J0 s.a L) L,0,1]]) ∧ (JQf L s → (JjI L s → (0 ≤ ((Z1 L sd ra
 sz).next s 1).a ∧ L.length ≤ 1000000 ∧ (0 ≤ sz ∧ sz ≤ 1000000) ∧ ((Z1 L sd ra sz).next s 1).R.length + ((Z1 L sd ra sz).next s 1).k ≤ 1000) ∧ (Z1 L sd ra sz).μ ((Z1 L sd ra sz).next s 1) < (Z1 L sd ra sz).μ s ∧ (Z1 L sd ra sz).fin ((Z1 L sd ra sz).next s 1) = (Z1 L sd ra sz).fin s ∧ Int.ofNat ((Z1 L sd ra sz).next s 1).k = IntKind.i64.wrap (Int.ofNat s.k - 1) ∧ ((Z1 L sd ra sz).next s 1).a = J0 (J0 s.a L) L ∧ ((Z1 L sd ra sz).next s 1).x = s.x ∧ ((Z1 L sd ra sz).next s 1).y = s.y ∧ ((Z1 L sd ra sz).next s 1).z = JnJ L s ∧ ((Z1 L sd ra sz).next s 1).R = s.R ++ [2 :: 0 :: s.x :: s.y :: s.z :: s.x :: s.y :: JnJ L s :: 17 :: 0 :: 0 :: 0 :: 0 :: 0 :: 30000 :: Jdx sd ra]) ∧ (JaH L s → (Jmg L s → (0 ≤ ((Z1 L sd ra sz).next s 2).a ∧ L.length ≤ 1000000 ∧ (0 ≤ sz ∧ sz ≤ 1000000) ∧ ((Z1 L sd ra sz).next s 2).R.length + ((Z1 L sd ra sz).next s 2).k ≤ 1000) ∧ (Z1 L sd ra sz).μ ((Z1 L sd ra sz).next s 2) < (Z1 L sd ra sz).μ s ∧ (Z1 L sd ra sz).fin ((Z1 L sd ra sz).next s 2) = (Z1 L sd ra sz).fin s ∧ Int.ofNat ((Z1 L sd ra sz).next s 2).k = IntKind.i64.wrap (Int.ofNat s.k - 1) ∧ ((Z1 L sd ra sz).next s 2).a = J0 (J0 (J0 (J0 (J0 s.a L) L) L) L) L ∧ ((Z1 L sd ra sz).next s 2).x = Jmx L ra s ∧ ((Z1 L sd ra sz).next s 2).y = JoE L ra s ∧ ((Z1 L sd ra sz).next s 2).z = JG (J1 s.z 0) 0 ∧ ((Z1 L sd ra sz).next s 2).R = s.R ++ [3 :: 0 :: s.x :: s.y :: s.z :: Jmx L ra s :: JoE L ra s :: JG (J1 s.z 0) 0 :: 17 :: Jn6 L ra s :: JoH L ra s :: J1 s.z 0 :: IntKind.i64.wrap (1 - IntKind.i64.wrap (2 * JA 2 (J0 (J0 (J0 (J0 s.a L) L) L) L) L)) :: 0 :: 60000 :: Jdx sd ra]) ∧ (Jdb L s → (0 ≤ ((Z1 L sd ra sz).next s 3).a ∧ L.length ≤ 1000000 ∧ (0 ≤ sz ∧ sz ≤ 1000000) ∧ ((Z1 L sd ra sz).next s 3).R.length + ((Z1 L sd ra sz).next s 3).k ≤ 1000) ∧ (Z1 L sd ra sz).μ ((Z1 L sd ra sz).next s 3) < (Z1 L sd ra sz).μ s ∧ (Z1 L sd ra sz).fin ((Z1 L sd ra sz).next s 3) = (Z1 L sd ra sz).fin s ∧ Int.ofNat ((Z1 L sd ra sz).next s 3).k = IntKind.i64.wrap (Int.ofNat s.k - 1) ∧ ((Z1 L sd ra sz).next s 3).a = J0 (J0 (J0 s.a L) L) L ∧ ((Z1 L sd ra sz).next s 3).x = JnV L sz s ∧ ((Z1 L sd ra sz).next s 3).y = Jng L sz s ∧ ((Z1 L sd ra sz).next s 3).z = JG s.z 0 ∧ ((Z1 L sd ra sz).next s 3).R = s.R ++ [2 :: 0 :: s.x :: s.y :: s.z :: JnV L sz s :: Jng L sz s :: JG s.z 0 :: 17 :: 0 :: 0 :: 0 :: 0 :: 0 :: 60000 :: Jdx sd ra]))),decide (Int.ofNat s.k > 0) = false → ((Z1 L sd ra sz).fin s).a = s.a ∧ ((Z1 L sd ra sz).fin s).x = s.x ∧ ((Z1 L sd ra sz).fin s).y = s.y ∧ ((Z1 L sd ra sz).fin s).z = s.z ∧ ((Z1 L sd ra sz).fin s).R = s.R]
theorem Jpd (L:LL) (sd ra sz:Int) (s:CS) (hNeeds:∀ pN ∈ (JRb L sd ra sz s),pN):Q4 (Xd (Z1 L sd ra sz) (QX Tryz.prog (JC JMe) Zh 9 0) 854 s) :=
  Q4.of (ps := (JRb L sd ra sz s)) (by kernel_rfl) (by kernel_rfl) hNeeds
theorem Jkg (L:LL) (sd ra sz:Int):Qw (Z1 L sd ra sz) (QX Tryz.prog (JC JMe) Zh 9 0) 854 := by
  intro s hJ
  obtain ⟨h1,h2,h3,h4⟩:0 ≤ s.a ∧ L.length ≤ 1000000 ∧ (0 ≤ sz ∧ sz ≤ 1000000) ∧ s.R.length + s.k ≤ 1000 := hJ
  have nn:∀ x,0 ≤ x → 0 ≤ J0 x L := fun x h => KM x L h h2
  have n1 := nn _ h1
  have n2 := nn _ n1
  have n3 := nn _ n2
  have n4 := nn _ n3
  have n5 := nn _ n4
  have ez:IntKind.i64.wrap (0 - sz) = 0 - sz := X6 (by omega) (by omega)
  have e2:JRp s := by unfold JRp; omega
  have ri := Y1 4 (J0 (J0 s.a L) L) L (by omega) (by omega)
  have ri':(JA 4 (J0 (J0 s.a L) L) L).toNat < 4 := by omega
  have rk := zA 1 3 (J0 (J0 (J0 s.a L) L) L) L (by omega) (by omega) (by omega)
  have rj:0 ≤ WN L s ∧ (WN L s).toNat < 4 := by
    unfold WN
    rw [X6 (by omega) (by omega)]
    have := Int.tmod_lt_of_pos (JA 4 (J0 (J0 s.a L) L) L + JK 1 3 (J0 (J0 (J0 s.a L) L) L) L) (b := 4) (by omega)
    have := Int.tmod_nonneg (a := JA 4 (J0 (J0 s.a L) L) L + JK 1 3 (J0 (J0 (J0 s.a L) L) L) L) 4 (by omega)
    omega
  have rz:IntKind.i64.wrap (0 - sz) ≤ sz ∧ -1000000 ≤ IntKind.i64.wrap (0 - sz) ∧ sz ≤ 1000000 := by rw [ez]; omega
  refine Jpd L sd ra sz s ?_
  unfold JRb
  simp only [awc,awn,and_true]
  refine ⟨fun _ => ⟨h1,h2,by decide,fun _ => ⟨n1,h2,by decide,e2⟩,fun _ => ⟨fun _ => ⟨n1,h2,by decide,e2⟩,fun _ _ => ⟨n1,h2,by decide,n2,h2,by decide,n3,h2,by decide,ri.1,ri',ri',ri',ri.1,ri',ri',ri',rj.1,rj.2,rj.2,n4,h2,by decide,e2⟩⟩,fun _ _ _ => ⟨n1,h2,rz,n2,h2,rz,e2⟩⟩,?_,?_⟩
  · intro h0
    obtain ⟨k,hk⟩:∃ k,s.k = k + 1 := ⟨s.k - 1,by unfold Jkf at h0; simp at h0; omega⟩
    have ek:IntKind.i64.wrap (Int.ofNat s.k - 1) = Int.ofNat (s.k - 1) := by rw [X6 (by simp; omega) (by simp; omega)]; simp; omega
    have key:∀ t,t.k = s.k - 1 → t = WO L sd ra sz s → JNi L sd ra sz t.k t = JNi L sd ra sz s.k s := fun t h1 h2 => by rw [h1,h2,hk]; rfl
    have len:∀ x,(s.R ++ [x]).length + (s.k - 1) ≤ 1000 := fun x => by simp; omega
    refine ⟨fun h => ?_,fun h => ⟨fun h' => ?_,fun h' => ⟨fun h'' => ?_,fun h'' => ?_⟩⟩⟩
    · exact ⟨⟨n2,h2,h3,len _⟩,by show s.k - 1 < s.k; omega,key _ rfl (by unfold Jlp at h; unfold WO; rw [h]; rfl),ek.symm,rfl,rfl,rfl,rfl,rfl⟩
    · exact ⟨⟨n2,h2,h3,len _⟩,by show s.k - 1 < s.k; omega,key _ rfl (by unfold JQf at h; unfold JjI at h'; unfold WO; rw [h,h']; rfl),ek.symm,rfl,rfl,rfl,rfl,rfl⟩
    · exact ⟨⟨n5,h2,h3,len _⟩,by show s.k - 1 < s.k; omega,key _ rfl (by unfold JQf at h; unfold JaH at h'; unfold Jmg JQD at h''; unfold WO; rw [h,h',h'']; rfl),ek.symm,rfl,rfl,rfl,rfl,rfl⟩
    · exact ⟨⟨n3,h2,h3,len _⟩,by show s.k - 1 < s.k; omega,key _ rfl (by unfold JQf at h; unfold JaH at h'; unfold Jdb JQD at h''; unfold WO; rw [h,h',h'']; rfl),ek.symm,rfl,rfl,rfl,rfl,rfl⟩
  · intro h0
    have hk:s.k = 0 := by simp at h0; omega
    have e:JNi L sd ra sz s.k s = s := by rw [hk]; rfl
    show (JNi L sd ra sz s.k s).a = s.a ∧ (JNi L sd ra sz s.k s).x = s.x ∧ (JNi L sd ra sz s.k s).y = s.y ∧ (JNi L sd ra sz s.k s).z = s.z ∧ (JNi L sd ra sz s.k s).R = s.R
    rw [e]
    exact ⟨rfl,rfl,rfl,rfl,rfl⟩
def Jw9:QE := fun env mem m => match SX.JD env 9,SX.JD env 8,SX.JD env 5,SX.JD env 4,SX.JD env 3,SX.JD mem 0,SX.JD mem 1,SX.JD mem 522 with
  | some ⟨_,_,_,.one (.int _ n)⟩,some ⟨_,_,_,.one (.wh rid)⟩,some ⟨_,_,_,.one (.int _ sz)⟩,some ⟨_,_,_,.one (.int _ ra)⟩,some ⟨_,_,_,.one (.int _ sd)⟩,some (.blk _ [_,(_,.int _ a)]),some (.row _ _ _ (.lst _ _ L)),some (.blk _ [(_,.int _ x),(_,.int _ y),(_,.int _ z)]) => (match SX.JD mem rid with
    | some (.row _ _ _ (.lit _ rows)) => (match qE CKi rows with
      | some R => jk (Z1 L sd.val ra.val sz.val) 854 (fun _ _ => some ⟨n.val.toNat,a.val,x.val,y.val,z.val,R⟩) env mem m
      | none => none)
    | _ => none)
  | _,_,_,_,_,_,_,_ => none
def JYD:FuncId → Nat → Option QE := JA9 Zh 9 10 Jw9
theorem JaE:Known Tryz.prog (JC JMe) JYD := by
  refine Qe 0 JZO (by kernel_rfl) (Qv fun env mem m x h => ?_)
  unfold Jw9 at h
  have hlen:(QW Tryz.prog 9).length = 1 := by kernel_rfl
  split at h
  · split at h
    · split at h
      · exact ⟨_,XG (Qc Zz JZO (by omega)) (Jkg _ _ _ _),h⟩
      · cases h
    · cases h
  · cases h
theorem JpM {L:LL} {sd ra sz:Int} {s:CS} (hl:L.length ≤ 1000000) (h:0 ≤ s.a):0 ≤ (WO L sd ra sz s).a := by
  have nn:∀ x,0 ≤ x → 0 ≤ J0 x L := fun x h => KM x L h hl
  unfold WO
  generalize (bif JA 10 s.a L == 2 then JA 10 s.a L == 2 else JA 10 s.a L == 3:Bool) = c
  cases JA 10 s.a L == 0 <;> cases JA 10 s.a L == 1 <;> cases c <;> first
    | exact nn _ (nn _ h)
    | exact nn _ (nn _ (nn _ h))
    | exact nn _ (nn _ (nn _ (nn _ (nn _ h))))
theorem Jrc {L:LL} {sd ra sz:Int} (hl:L.length ≤ 1000000):∀ (k:Nat) (s:CS),0 ≤ s.a → 0 ≤ (JNi L sd ra sz k s).a
  | 0,_,h => h
  | k + 1,s,h => Jrc hl k _ (JpM hl h)
theorem Jol (L:LL) (sd ra sz:Int) (s:CS):(WO L sd ra sz s).R.length = s.R.length + 1 := by
  unfold WO
  generalize (bif JA 10 s.a L == 2 then JA 10 s.a L == 2 else JA 10 s.a L == 3:Bool) = c
  cases JA 10 s.a L == 0 <;> cases JA 10 s.a L == 1 <;> cases c <;> simp only [cond_true,cond_false,stO,stZ,stA,Jxb,List.length_append,List.length_cons,List.length_nil]
theorem JmG (L:LL) (sd ra sz:Int):∀ (k:Nat) (s:CS),(JNi L sd ra sz k s).R.length = s.R.length + k
  | 0,_ => rfl
  | k + 1,s => by
    have := JmG L sd ra sz k (WO L sd ra sz s)
    rw [Jol] at this
    show (JNi L sd ra sz k (WO L sd ra sz s)).R.length = _
    omega
section
variable (x y z u v w a:Int) (L:LL)
def cSd:Int:= IntKind.i64.wrap (1 - IntKind.i64.wrap (2 * JA 2 a L))
def cRa:Int:= bif JA 4 (J0 (J0 a L) L) L == 0 then JK 100 2000 (J0 (J0 (J0 a L) L) L) L else JK 0 40 (J0 a L) L
def cSz:Int:= IntKind.i64.wrap (200 + IntKind.i64.wrap (6 * cRa a L))
def cA:Int:= bif JA 4 (J0 (J0 a L) L) L == 0 then J0 (J0 (J0 (J0 a L) L) L) L else J0 (J0 (J0 a L) L) L
def cX:Int:= JG (Zt 1000 (cA a L) L) (JK (IntKind.i64.wrap (cRa a L + 1)) (cSz a L) (J0 (J0 (J0 (cA a L) L) L) L) L)
def cY:Int:= JG (Zu 1000 (cA a L) L) (JK (IntKind.i64.wrap (0 - cSz a L)) (cSz a L) (J0 (J0 (J0 (J0 (cA a L) L) L) L) L) L)
def cZ:Int:= JG (QV 1000 (cA a L) L) 0
def cS:CS:= ⟨(JK 1 6 (J0 (J0 (J0 (J0 (J0 (cA a L) L) L) L) L) L) L).toNat,J0 (J0 (J0 (J0 (J0 (J0 (cA a L) L) L) L) L) L) L,cX a L,cY a L,cZ a L, [itL (Zt 1000 (cA a L) L) (Zu 1000 (cA a L) L) (QV 1000 (cA a L) L) (cX a L) (cY a L) (cZ a L) 60000 (cSd a L) (cRa a L)]⟩
def cT:CS:= JNi L (cSd a L) (cRa a L) (cSz a L) (cS a L).k (cS a L)
def itM:List Int:= [2,0,x,y,z,u,v,w,0,0,0,0,0,0,60000,0,0,0,0,0,0,0]
def WG:LL:= (cT a L).R ++ [itM (cT a L).x (cT a L).y (cT a L).z (JG (cT a L).x (JK (IntKind.i64.wrap (0 - cSz a L)) (cSz a L) (cT a L).a L)) (JG (cT a L).y (JK (IntKind.i64.wrap (cRa a L + 1)) (cSz a L) (J0 (cT a L).a L) L)) (JG (cT a L).z 0)]
def JwJ:Int:= J0 (J0 (cT a L).a L) L
end
theorem Jxw (a:Int) (L:LL):1 ≤ (cS a L).k ∧ (cS a L).k ≤ 6 := by
  have h := zA 1 6 (J0 (J0 (J0 (J0 (J0 (cA a L) L) L) L) L) L) L (by omega) (by omega) (by omega)
  unfold cS; dsimp only; omega
theorem Jor (a:Int) (L:LL):3 ≤ (WG a L).length ∧ (WG a L).length ≤ 8 := by
  have h := Jxw a L
  have k := JmG L (cSd a L) (cRa a L) (cSz a L) (cS a L).k (cS a L)
  have e:(cS a L).R.length = 1 := rfl
  unfold WG cT
  simp only [List.length_append,List.length_cons,List.length_nil]
  omega
theorem Jo9 (a:Int) (L:LL):0 ≤ cRa a L ∧ cRa a L ≤ 2000 := by
  have h1 := zA 0 40 (J0 a L) L (by omega) (by omega) (by omega)
  have h2 := zA 100 2000 (J0 (J0 (J0 a L) L) L) L (by omega) (by omega) (by omega)
  unfold cRa
  cases JA 4 (J0 (J0 a L) L) L == 0
  · rw [cond_false]; omega
  · rw [cond_true]; omega
theorem JxV (a:Int) (L:LL):cSz a L = 200 + 6 * cRa a L := by
  have := Jo9 a L
  unfold cSz
  rw [X6 (x := 6 * cRa a L) (by omega) (by omega),X6 (by omega) (by omega)]
theorem Jy3 {a:Int} {L:LL} (h:0 ≤ a) (hl:L.length ≤ 1000000):0 ≤ cA a L := by
  have nn:∀ x,0 ≤ x → 0 ≤ J0 x L := fun x h => KM x L h hl
  unfold cA
  cases JA 4 (J0 (J0 a L) L) L == 0
  · exact nn _ (nn _ (nn _ h))
  · exact nn _ (nn _ (nn _ (nn _ h)))
def Kr:Tpl := ⟨[.one (.ptr 0 0)],[(0,.blk 57 [(2,.wh 1),(3,.int .i64)]),(1,.row true 3 1 4 [.int .i64])],5⟩
section
variable (a:Int) (L:LL)
def X0:Int:= IntKind.i64.wrap (1 - IntKind.i64.wrap (2 * JA 2 a L))
def Zk:Int:= bif JA 4 (J0 (J0 a L) L) L == 0 then JK 100 2000 (J0 (J0 (J0 a L) L) L) L else JK 0 40 (J0 a L) L
def Zj:Int:= IntKind.i64.wrap (200 + IntKind.i64.wrap (6 * Zk a L))
def Jc:Int:= bif JA 4 (J0 (J0 a L) L) L == 0 then J0 (J0 (J0 (J0 a L) L) L) L else J0 (J0 (J0 a L) L) L
def KY:Int:= JG (Zt 1000 (Jc a L) L) (JK (IntKind.i64.wrap (Zk a L + 1)) (Zj a L) (J0 (J0 (J0 (Jc a L) L) L) L) L)
def KX:Int:= JG (Zu 1000 (Jc a L) L) (JK (IntKind.i64.wrap (0 - Zj a L)) (Zj a L) (J0 (J0 (J0 (J0 (Jc a L) L) L) L) L) L)
def JYf:Int:= ((Z1 L (X0 a L) (Zk a L) (Zj a L)).fin (CS.mk (JK 1 6 (J0 (J0 (J0 (J0 (J0 (Jc a L) L) L) L) L) L) L).toNat (J0 (J0 (J0 (J0 (J0 (J0 (Jc a L) L) L) L) L) L) L) (KY a L) (KX a L) (JG (QV 1000 (Jc a L) L) 0) [[2,0,Zt 1000 (Jc a L) L,Zu 1000 (Jc a L) L,QV 1000 (Jc a L) L,KY a L,KX a L,JG (QV 1000 (Jc a L) L) 0,17,0,0,0,0,0,60000,0,X0 a L,Zk a L,0,0,0,0]])).x
def JZe:Int:= ((Z1 L (X0 a L) (Zk a L) (Zj a L)).fin (CS.mk (JK 1 6 (J0 (J0 (J0 (J0 (J0 (Jc a L) L) L) L) L) L) L).toNat (J0 (J0 (J0 (J0 (J0 (J0 (Jc a L) L) L) L) L) L) L) (KY a L) (KX a L) (JG (QV 1000 (Jc a L) L) 0) [[2,0,Zt 1000 (Jc a L) L,Zu 1000 (Jc a L) L,QV 1000 (Jc a L) L,KY a L,KX a L,JG (QV 1000 (Jc a L) L) 0,17,0,0,0,0,0,60000,0,X0 a L,Zk a L,0,0,0,0]])).y
def JY1:Int:= ((Z1 L (X0 a L) (Zk a L) (Zj a L)).fin (CS.mk (JK 1 6 (J0 (J0 (J0 (J0 (J0 (Jc a L) L) L) L) L) L) L).toNat (J0 (J0 (J0 (J0 (J0 (J0 (Jc a L) L) L) L) L) L) L) (KY a L) (KX a L) (JG (QV 1000 (Jc a L) L) 0) [[2,0,Zt 1000 (Jc a L) L,Zu 1000 (Jc a L) L,QV 1000 (Jc a L) L,KY a L,KX a L,JG (QV 1000 (Jc a L) L) 0,17,0,0,0,0,0,60000,0,X0 a L,Zk a L,0,0,0,0]])).z
def JXR:Int:= ((Z1 L (X0 a L) (Zk a L) (Zj a L)).fin (CS.mk (JK 1 6 (J0 (J0 (J0 (J0 (J0 (Jc a L) L) L) L) L) L) L).toNat (J0 (J0 (J0 (J0 (J0 (J0 (Jc a L) L) L) L) L) L) L) (KY a L) (KX a L) (JG (QV 1000 (Jc a L) L) 0) [[2,0,Zt 1000 (Jc a L) L,Zu 1000 (Jc a L) L,QV 1000 (Jc a L) L,KY a L,KX a L,JG (QV 1000 (Jc a L) L) 0,17,0,0,0,0,0,60000,0,X0 a L,Zk a L,0,0,0,0]])).a
def Jq5:LL:= ((Z1 L (X0 a L) (Zk a L) (Zj a L)).fin (CS.mk (JK 1 6 (J0 (J0 (J0 (J0 (J0 (Jc a L) L) L) L) L) L) L).toNat (J0 (J0 (J0 (J0 (J0 (J0 (Jc a L) L) L) L) L) L) L) (KY a L) (KX a L) (JG (QV 1000 (Jc a L) L) 0) [[2,0,Zt 1000 (Jc a L) L,Zu 1000 (Jc a L) L,QV 1000 (Jc a L) L,KY a L,KX a L,JG (QV 1000 (Jc a L) L) 0,17,0,0,0,0,0,60000,0,X0 a L,Zk a L,0,0,0,0]])).R ++ [[2,0,JYf a L,JZe a L,JY1 a L,JG (JYf a L) (JK (IntKind.i64.wrap (0 - Zj a L)) (Zj a L) (JXR a L) L),JG (JZe a L) (JK (IntKind.i64.wrap (Zk a L + 1)) (Zj a L) (J0 (JXR a L) L) L),JG (JY1 a L) 0,0,0,0,0,0,0,60000,0,0,0,0,0,0,0]]
end
def JqH (a:Int) (L:LL):Int :=
 J0 (J0 ((Z1 L (IntKind.i64.wrap (1 - IntKind.i64.wrap (2 * JA 2 a L))) (Zk a L) (Zj a L)).fin (CS.mk (JK 1 6 (J0 (J0 (J0 (J0 (J0 (Jc a L) L) L) L) L) L) L).toNat (J0 (J0 (J0 (J0 (J0 (J0 (Jc a L) L) L) L) L) L) L) (JG (Zt 1000 (Jc a L) L) (JK (IntKind.i64.wrap (Zk a L + 1)) (Zj a L) (J0 (J0 (J0 (Jc a L) L) L) L) L)) (JG (Zu 1000 (Jc a L) L) (JK (IntKind.i64.wrap (0 - Zj a L)) (Zj a L) (J0 (J0 (J0 (J0 (Jc a L) L) L) L) L) L)) (JG (QV 1000 (Jc a L) L) 0) [(fun x => 2 :: x) ((fun x => 0 :: x) ((fun x => Zt 1000 (bif JA 4 (J0 (J0 a L) L) L == 0 then J0 (J0 (J0 (J0 a L) L) L) L else J0 (J0 (J0 a L) L) L) L :: x) ((fun x => Zu 1000 (bif JA 4 (J0 (J0 a L) L) L == 0 then J0 (J0 (J0 (J0 a L) L) L) L else J0 (J0 (J0 a L) L) L) L :: x) ((fun x => QV 1000 (bif JA 4 (J0 (J0 a L) L) L == 0 then J0 (J0 (J0 (J0 a L) L) L) L else J0 (J0 (J0 a L) L) L) L :: x) ((fun x => JG (Zt 1000 (bif JA 4 (J0 (J0 a L) L) L == 0 then J0 (J0 (J0 (J0 a L) L) L) L else J0 (J0 (J0 a L) L) L) L) (JK (IntKind.i64.wrap ((bif JA 4 (J0 (J0 a L) L) L == 0 then JK 100 2000 (J0 (J0 (J0 a L) L) L) L else JK 0 40 (J0 a L) L) + 1)) (IntKind.i64.wrap (200 + IntKind.i64.wrap (6 * bif JA 4 (J0 (J0 a L) L) L == 0 then JK 100 2000 (J0 (J0 (J0 a L) L) L) L else JK 0 40 (J0 a L) L))) (J0 (J0 (J0 (bif JA 4 (J0 (J0 a L) L) L == 0 then J0 (J0 (J0 (J0 a L) L) L) L else J0 (J0 (J0 a L) L) L) L) L) L) L) :: x) ((fun x => JG (Zu 1000 (bif JA 4 (J0 (J0 a L) L) L == 0 then J0 (J0 (J0 (J0 a L) L) L) L else J0 (J0 (J0 a L) L) L) L) (JK (IntKind.i64.wrap (0 - IntKind.i64.wrap (200 + IntKind.i64.wrap (6 * bif JA 4 (J0 (J0 a L) L) L == 0 then JK 100 2000 (J0 (J0 (J0 a L) L) L) L else JK 0 40 (J0 a L) L)))) (IntKind.i64.wrap (200 + IntKind.i64.wrap (6 * bif JA 4 (J0 (J0 a L) L) L == 0 then JK 100 2000 (J0 (J0 (J0 a L) L) L) L else JK 0 40 (J0 a L) L))) (J0 (J0 (J0 (J0 (bif JA 4 (J0 (J0 a L) L) L == 0 then J0 (J0 (J0 (J0 a L) L) L) L else J0 (J0 (J0 a L) L) L) L) L) L) L) L) :: x) ((fun x => JG (QV 1000 (bif JA 4 (J0 (J0 a L) L) L == 0 then J0 (J0 (J0 (J0 a L) L) L) L else J0 (J0 (J0 a L) L) L) L) 0 :: x) ((fun x => 17 :: x) ((fun x => 0 :: x) ((fun x => 0 :: x) ((fun x => 0 :: x) ((fun x => 0 :: x) ((fun x => 0 :: x) ((fun x => 60000 :: x) ((fun x => 0 :: x) ((fun x => IntKind.i64.wrap (1 - IntKind.i64.wrap (2 * JA 2 a L)) :: x) ((fun x => (bif JA 4 (J0 (J0 a L) L) L == 0 then JK 100 2000 (J0 (J0 (J0 a L) L) L) L else JK 0 40 (J0 a L) L) :: x) ((fun x => 0 :: x) ((fun x => 0 :: x) ((fun x => 0 :: x) ((fun x => 0 :: x) [])))))))))))))))))))))])).a L) L
section
variable (a:Int) (L:LL)
def JJ1:Bool:= JA 4 (J0 (J0 a L) L) L == 0
def JW:Int:= bif JJ1 a L then J0 (J0 (J0 (J0 a L) L) L) L else J0 (J0 (J0 a L) L) L
def K4:Int:= bif JJ1 a L then JK 100 2000 (J0 (J0 (J0 a L) L) L) L else JK 0 40 (J0 a L) L
def Qi:Int:= IntKind.i64.wrap (200 + IntKind.i64.wrap (6 * K4 a L))
def X8:Int:= JG (Zt 1000 (JW a L) L) (JK (IntKind.i64.wrap (K4 a L + 1)) (Qi a L) (J0 (J0 (J0 (JW a L) L) L) L) L)
def X9:Int:= JG (Zu 1000 (JW a L) L) (JK (IntKind.i64.wrap (0 - Qi a L)) (Qi a L) (J0 (J0 (J0 (J0 (JW a L) L) L) L) L) L)
def Xh:LL:= [[2,0,Zt 1000 (JW a L) L,Zu 1000 (JW a L) L,QV 1000 (JW a L) L,X8 a L,X9 a L,JG (QV 1000 (JW a L) L) 0,17,0,0,0,0,0,60000,0,X0 a L,K4 a L,0,0,0,0]]
def JTm:Int:= (CS.mk (JK 1 6 (J0 (J0 (J0 (J0 (J0 (JW a L) L) L) L) L) L) L).toNat (J0 (J0 (J0 (J0 (J0 (J0 (JW a L) L) L) L) L) L) L) (X8 a L) (X9 a L) (JG (QV 1000 (JW a L) L) 0) (Xh a L)).a
def JU1:LL:= (CS.mk (JK 1 6 (J0 (J0 (J0 (J0 (J0 (JW a L) L) L) L) L) L) L).toNat (J0 (J0 (J0 (J0 (J0 (J0 (JW a L) L) L) L) L) L) L) (X8 a L) (X9 a L) (JG (QV 1000 (JW a L) L) 0) (Xh a L)).R
def JTH:Int:= ((Z1 L (X0 a L) (K4 a L) (Qi a L)).fin (CS.mk (JK 1 6 (J0 (J0 (J0 (J0 (J0 (JW a L) L) L) L) L) L) L).toNat (J0 (J0 (J0 (J0 (J0 (J0 (JW a L) L) L) L) L) L) L) (X8 a L) (X9 a L) (JG (QV 1000 (JW a L) L) 0) (Xh a L))).a
def W5:List Prop:=
 [0 ≤ a,L.length ≤ 1000000,Int.ofNat 2 ≠ 0,0 ≤ J0 a L,L.length ≤ 1000000,Int.ofNat 0 ≤ 40 ∧ -1000000 ≤ 0 ∧ Int.ofNat 40 ≤ 1000000,0 ≤ J0 (J0 a L) L,L.length ≤ 1000000,Int.ofNat 4 ≠ 0,JJ1 a L = true → 0 ≤ J0 (J0 (J0 a L) L) L ∧ L.length ≤ 1000000 ∧ Int.ofNat 100 ≤ 2000 ∧ -1000000 ≤ 100 ∧ Int.ofNat 2000 ≤ 1000000,0 ≤ JW a L,L.length ≤ 1000000,Int.ofNat 0 ≤ 1000 ∧ Int.ofNat 1000 ≤ 1000000,0 ≤ J0 (J0 (J0 (JW a L) L) L) L,L.length ≤ 1000000,IntKind.i64.wrap (K4 a L + 1) ≤ Qi a L ∧ -1000000 ≤ IntKind.i64.wrap (K4 a L + 1) ∧ Qi a L ≤ 1000000,0 ≤ J0 (J0 (J0 (J0 (JW a L) L) L) L) L,L.length ≤ 1000000,IntKind.i64.wrap (0 - Qi a L) ≤ Qi a L ∧ -1000000 ≤ IntKind.i64.wrap (0 - Qi a L) ∧ Qi a L ≤ 1000000,0 ≤ J0 (J0 (J0 (J0 (J0 (JW a L) L) L) L) L) L,L.length ≤ 1000000,Int.ofNat 1 ≤ 6 ∧ -1000000 ≤ 1 ∧ Int.ofNat 6 ≤ 1000000,0 ≤ JTm a L ∧ L.length ≤ 1000000 ∧ (0 ≤ Qi a L ∧ Qi a L ≤ 1000000) ∧ (JU1 a L).length + (CS.mk (JK 1 6 (J0 (J0 (J0 (J0 (J0 (JW a L) L) L) L) L) L) L).toNat (J0 (J0 (J0 (J0 (J0 (J0 (JW a L) L) L) L) L) L) L) (X8 a L) (X9 a L) (JG (QV 1000 (JW a L) L) 0) (Xh a L)).k ≤ 1000,Int.ofNat (CS.mk (JK 1 6 (J0 (J0 (J0 (J0 (J0 (JW a L) L) L) L) L) L) L).toNat (J0 (J0 (J0 (J0 (J0 (J0 (JW a L) L) L) L) L) L) L) (X8 a L) (X9 a L) (JG (QV 1000 (JW a L) L) 0) (Xh a L)).k = JK 1 6 (J0 (J0 (J0 (J0 (J0 (JW a L) L) L) L) L) L) L,JTm a L = J0 (J0 (J0 (J0 (J0 (J0 (JW a L) L) L) L) L) L) L,(CS.mk (JK 1 6 (J0 (J0 (J0 (J0 (J0 (JW a L) L) L) L) L) L) L).toNat (J0 (J0 (J0 (J0 (J0 (J0 (JW a L) L) L) L) L) L) L) (X8 a L) (X9 a L) (JG (QV 1000 (JW a L) L) 0) (Xh a L)).x = X8 a L,(CS.mk (JK 1 6 (J0 (J0 (J0 (J0 (J0 (JW a L) L) L) L) L) L) L).toNat (J0 (J0 (J0 (J0 (J0 (J0 (JW a L) L) L) L) L) L) L) (X8 a L) (X9 a L) (JG (QV 1000 (JW a L) L) 0) (Xh a L)).y = X9 a L,(CS.mk (JK 1 6 (J0 (J0 (J0 (J0 (J0 (JW a L) L) L) L) L) L) L).toNat (J0 (J0 (J0 (J0 (J0 (J0 (JW a L) L) L) L) L) L) L) (X8 a L) (X9 a L) (JG (QV 1000 (JW a L) L) 0) (Xh a L)).z = JG (QV 1000 (JW a L) L) 0,JU1 a L = Xh a L,0 ≤ JTH a L,L.length ≤ 1000000,IntKind.i64.wrap (0 - Qi a L) ≤ Qi a L ∧ -1000000 ≤ IntKind.i64.wrap (0 - Qi a L) ∧ Qi a L ≤ 1000000,0 ≤ J0 (JTH a L) L,L.length ≤ 1000000,IntKind.i64.wrap (K4 a L + 1) ≤ Qi a L ∧ -1000000 ≤ IntKind.i64.wrap (K4 a L + 1) ∧ Qi a L ≤ 1000000,(((Z1 L (X0 a L) (K4 a L) (Qi a L)).fin (CS.mk (JK 1 6 (J0 (J0 (J0 (J0 (J0 (JW a L) L) L) L) L) L) L).toNat (J0 (J0 (J0 (J0 (J0 (J0 (JW a L) L) L) L) L) L) L) (X8 a L) (X9 a L) (JG (QV 1000 (JW a L) L) 0) (Xh a L))).R.length + 1) * 176 ≤ 140737488355328,((Z1 L (X0 a L) (K4 a L) (Qi a L)).fin (CS.mk (JK 1 6 (J0 (J0 (J0 (J0 (J0 (JW a L) L) L) L) L) L) L).toNat (J0 (J0 (J0 (J0 (J0 (J0 (JW a L) L) L) L) L) L) L) (X8 a L) (X9 a L) (JG (QV 1000
 (JW a L) L) 0) (Xh a L))).R.length + 1 ≤ 9223372036854775807]
end
theorem Jfl {a:Int} {L:LL} (hW:∀ q ∈ ([0 ≤ a,L.length ≤ 1000000]:List Prop),q):∀ q ∈ (W5 a L),q := by
  simp only [awc,awn,and_true] at hW
  unfold W5
  simp only [awc,awn,and_true]
  obtain ⟨h1,h2⟩ := hW
  have nn:∀ x,0 ≤ x → 0 ≤ J0 x L := fun x h => KM x L h h2
  have n1 := nn _ h1
  have n2 := nn _ n1
  have n3 := nn _ n2
  have r := Jo9 a L
  have z := JxV a L
  have k0:(0:Int) ≤ 40 ∧ (-1000000:Int) ≤ 0 ∧ (40:Int) ≤ 1000000 := by decide
  have m0 := Jy3 h1 h2
  have m1 := nn _ m0
  have m2 := nn _ m1
  have m3 := nn _ m2
  have m4 := nn _ m3
  have m5 := nn _ m4
  have m6 := nn _ m5
  have w1:IntKind.i64.wrap (cRa a L + 1) = cRa a L + 1 := X6 (by omega) (by omega)
  have w2:IntKind.i64.wrap (0 - cSz a L) = 0 - cSz a L := X6 (by omega) (by omega)
  have p1:IntKind.i64.wrap (cRa a L + 1) ≤ cSz a L ∧ -1000000 ≤ IntKind.i64.wrap (cRa a L + 1) ∧ cSz a L ≤ 1000000 := by rw [w1]; omega
  have p2:IntKind.i64.wrap (0 - cSz a L) ≤ cSz a L ∧ -1000000 ≤ IntKind.i64.wrap (0 - cSz a L) ∧ cSz a L ≤ 1000000 := by rw [w2]; omega
  have p3:0 ≤ cSz a L ∧ cSz a L ≤ 1000000 := by omega
  have kk := Jxw a L
  have q1:(cS a L).R.length + (cS a L).k ≤ 1000 := by
    have e:(cS a L).R.length = 1 := rfl
    omega
  have q2:Int.ofNat (cS a L).k = JK 1 6 (J0 (J0 (J0 (J0 (J0 (cA a L) L) L) L) L) L) L := by
    have h := zA 1 6 (J0 (J0 (J0 (J0 (J0 (cA a L) L) L) L) L) L) L (by omega) (by omega) (by omega)
    exact Int.toNat_of_nonneg (by omega)
  have ta:0 ≤ (cT a L).a := Jrc h2 _ _ m6
  have tr:(cT a L).R.length ≤ 7 := by
    have := JmG L (cSd a L) (cRa a L) (cSz a L) (cS a L).k (cS a L)
    have e:(cS a L).R.length = 1 := rfl
    unfold cT; omega
  exact ⟨h1,h2,by decide,n1,h2,k0,n2,h2,by decide,fun _ => ⟨n3,h2,by decide⟩,m0,h2,by decide,m3,h2,p1,m4,h2,p2,m5,h2,by decide,⟨m6,h2,p3,q1⟩,q2,rfl,trivial,trivial,trivial,rfl,ta,h2,p2,nn _ ta,h2,p1,(show ((cT a L).R.length + 1) * 176 ≤ 140737488355328 ∧ (cT a L).R.length + 1 ≤ 9223372036854775807 by omega)⟩
def JmQ (a:Int) (L:LL):Jn := [(1158,Obj.row false 40 22 (RowC.lst 1160 jI (Jq5 a L))),(0,Obj.blk 57 [(2,SC.wh 1),(1100,Ci (JqH a L))]),(1,Obj.row true 3 1 (RowC.lst 4 [CK.int IntKind.i64] L))]
theorem Jef (a:Int) (L:LL) (hNeeds:∀ pN ∈ (W5 a L),pN):Runs (Jm (JC JMe) JYD 9) (Kr.args [.i a]) (Kr.memo [.i a] [L]) Kr.n (SV.one (SC.wh 1158)) (JmQ a L) :=
  Runs.of1 (ps := (W5 a L)) (by kernel_rfl) hNeeds
def JJ3:List Pm → Qs → Option CRes
  | [.i a],[L] => some ⟨SV.one (SC.wh 1158),[(1158,Obj.row false 40 22 (RowC.lst 1160 jI ((WG a L)))),(0,Obj.blk 57 [(2,SC.wh 1),(1100,Ci ((JwJ a L)))]),(1,Obj.row true 3 1 (RowC.lst 4 [CK.int IntKind.i64] L))],[0 ≤ a,L.length ≤ 1000000],[],1163⟩
  | _,_ => none
theorem JXj (a:Int) (L:LL) (hNeeds:∀ pN ∈ (W5 a L),pN):Runs (Jm (JC JMe) JYD 9) (Kr.args [.i a]) (Kr.memo [.i a] [L]) Kr.n (SV.one (SC.wh 1158))
    ([(1158,
     Obj.row false 40 22
     (RowC.lst 1160
     [CK.int IntKind.i64,CK.int IntKind.i64,CK.int IntKind.i64,CK.int IntKind.i64,CK.int IntKind.i64,CK.int IntKind.i64,CK.int IntKind.i64,CK.int IntKind.i64,CK.int IntKind.i64,
     CK.int IntKind.i64,CK.int IntKind.i64,CK.int IntKind.i64,CK.int IntKind.i64,CK.bool,CK.int IntKind.i64,CK.bool,CK.int IntKind.i64,CK.int IntKind.i64,CK.int IntKind.i64,
     CK.int IntKind.i64,CK.int IntKind.i64,CK.bool]
     ((WG a L)))),
    (0,Obj.blk 57 [(2,SC.wh 1),(1100,SC.int IntKind.i64 (SI.v ((JwJ a L))))]),(1,Obj.row true 3 1 (RowC.lst 4 [CK.int IntKind.i64] L))]) :=
  (Jef a L hNeeds).to (by first | rfl | (simp only [])) (by first | rfl | (simp only []))
theorem Jjd:Ql Tryz.prog 9 (JU Kr JJ3) := by
  refine JI (JE JaE 9) fun ps ls r hr hn _ => ?_
  unfold JJ3 at hr
  split at hr
  · cases hr; exact ⟨_,JXj _ _ (Jfl (by exact hn)),fun _ => rfl⟩
  · cases hr
def jm:List (Nat × JY) := (9,JU Kr JJ3) :: JMe
theorem JLZ:Known Tryz.prog (JC jm) JYD := J7 JaE Jjd
structure St where
  l:List GC
  y:List GC
  a0:Int
  a1:Int
  tr:Bool
  op:Bool
  cl:Bool
  en:Bool
  mo:Bool
  la0:Int
  la1:Int
  la2:Int
  er:Int
  C:LL
def JXi:List GC := [.i 0,.i 0,.i 0,.i 0,.i 0,.i 0,.i 0,.i 0,.i 0,.i 0,.i 0,.i 0,.i 0,.b false,.i 0,.b false,.i 0,.i 0,.i 0,.i 0,.i 0,.b false]
def YQ:St := ⟨JXi,JXi,0,0,false,false,false,false,false,0,0,0,0,[]⟩
section
variable (g:Nat → Nat) (x:List GC) (s:St) (c o:Nat)
def XW:St:= ⟨[.i (JIG x (J2 s.l) (J2 s.y) s.a0 s.a1 s.tr s.op s.cl s.en s.mo s.la0 s.la1 s.la2 s.er),.i (JI0 x (J2 s.l) (J2 s.y) s.a0 s.a1 s.tr s.op s.cl s.en s.mo s.la0 s.la1 s.la2 s.er),.i (JHY x (J2 s.l) (J2 s.y) s.a0 s.a1 s.tr s.op s.cl s.en s.mo s.la0 s.la1 s.la2 s.er),.i (JHN x (J2 s.l) (J2 s.y) s.a0 s.a1 s.tr s.op s.cl s.en s.mo s.la0 s.la1 s.la2 s.er),.i (JHL x (J2 s.l) (J2 s.y) s.a0 s.a1 s.tr s.op s.cl s.en s.mo s.la0 s.la1 s.la2 s.er),.i (JHr x (J2 s.l) (J2 s.y) s.a0 s.a1 s.tr s.op s.cl s.en s.mo s.la0 s.la1 s.la2 s.er),.i (JIC x (J2 s.l) (J2 s.y) s.a0 s.a1 s.tr s.op s.cl s.en s.mo s.la0 s.la1 s.la2 s.er),.i (JGt x (J2 s.l) (J2 s.y) s.a0 s.a1 s.tr s.op s.cl s.en s.mo s.la0 s.la1 s.la2 s.er),.i (JBi x (J2 s.l) (J2 s.y) s.a0 s.a1 s.tr s.op s.cl s.en s.mo s.la0 s.la1 s.la2 s.er),.i (JC2 x (J2 s.l) (J2 s.y) s.a0 s.a1 s.tr s.op s.cl s.en s.mo s.la0 s.la1 s.la2 s.er),.i (JB8 x (J2 s.l) (J2 s.y) s.a0 s.a1 s.tr s.op s.cl s.en s.mo s.la0 s.la1 s.la2 s.er),.i (JB5 x (J2 s.l) (J2 s.y) s.a0 s.a1 s.tr s.op s.cl s.en s.mo s.la0 s.la1 s.la2 s.er),.i (JBc x (J2 s.l) (J2 s.y) s.a0 s.a1 s.tr s.op s.cl s.en s.mo s.la0 s.la1 s.la2 s.er),.b (JAM x (J2 s.l) (J2 s.y) s.a0 s.a1 s.tr s.op s.cl s.en s.mo s.la0 s.la1 s.la2 s.er),.i (JC4 x (J2 s.l) (J2 s.y) s.a0 s.a1 s.tr s.op s.cl s.en s.mo s.la0 s.la1 s.la2 s.er),.b (JBd x (J2 s.l) (J2 s.y) s.a0 s.a1 s.tr s.op s.cl s.en s.mo s.la0 s.la1 s.la2 s.er),.i (JAO x (J2 s.l) (J2 s.y) s.a0 s.a1 s.tr s.op s.cl s.en s.mo s.la0 s.la1 s.la2 s.er),.i (JBb x (J2 s.l) (J2 s.y) s.a0 s.a1 s.tr s.op s.cl s.en s.mo s.la0 s.la1 s.la2 s.er),.i (JC3 x (J2 s.l) (J2 s.y) s.a0 s.a1 s.tr s.op s.cl s.en s.mo s.la0 s.la1 s.la2 s.er),.i (JBf x (J2 s.l) (J2 s.y) s.a0 s.a1 s.tr s.op s.cl s.en s.mo s.la0 s.la1 s.la2 s.er),.i (JAr x (J2 s.l) (J2 s.y) s.a0 s.a1 s.tr s.op s.cl s.en s.mo s.la0 s.la1 s.la2 s.er),.b (JBI x (J2 s.l) (J2 s.y) s.a0 s.a1 s.tr s.op s.cl s.en s.mo s.la0 s.la1 s.la2 s.er)],
 [.i (JAa x (J2 s.l) (J2 s.y) s.a0 s.a1 s.tr s.op s.cl s.en s.mo s.la0 s.la1 s.la2 s.er),.i (JB4 x (J2 s.l) (J2 s.y) s.a0 s.a1 s.tr s.op s.cl s.en s.mo s.la0 s.la1 s.la2 s.er),.i (JBR x (J2 s.l) (J2 s.y) s.a0 s.a1 s.tr s.op s.cl s.en s.mo s.la0 s.la1 s.la2 s.er),.i (JAR x (J2 s.l) (J2 s.y) s.a0 s.a1 s.tr s.op s.cl s.en s.mo s.la0 s.la1 s.la2 s.er),.i (JAu x (J2 s.l) (J2 s.y) s.a0 s.a1 s.tr s.op s.cl s.en s.mo s.la0 s.la1 s.la2 s.er),.i (JBW x (J2 s.l) (J2 s.y) s.a0 s.a1 s.tr s.op s.cl s.en s.mo s.la0 s.la1 s.la2 s.er),.i (JBX x (J2 s.l) (J2 s.y) s.a0 s.a1 s.tr s.op s.cl s.en s.mo s.la0 s.la1 s.la2 s.er),.i (JAL x (J2 s.l) (J2 s.y) s.a0 s.a1 s.tr s.op s.cl s.en s.mo s.la0 s.la1 s.la2 s.er),.i (JAy x (J2 s.l) (J2 s.y) s.a0 s.a1 s.tr s.op s.cl s.en s.mo s.la0 s.la1 s.la2 s.er),.i (JBw x (J2 s.l) (J2 s.y) s.a0 s.a1 s.tr s.op s.cl s.en s.mo s.la0 s.la1 s.la2 s.er),.i (JAZ x (J2 s.l) (J2 s.y) s.a0 s.a1 s.tr s.op s.cl s.en s.mo s.la0 s.la1 s.la2 s.er),.i (JBt x (J2 s.l) (J2 s.y) s.a0 s.a1 s.tr s.op s.cl s.en s.mo s.la0 s.la1 s.la2 s.er),.i (JC7 x (J2 s.l) (J2 s.y) s.a0 s.a1 s.tr s.op s.cl s.en s.mo s.la0 s.la1 s.la2 s.er),.b (JBS x (J2 s.l) (J2 s.y) s.a0 s.a1 s.tr s.op s.cl s.en s.mo s.la0 s.la1 s.la2 s.er),.i (JBr x (J2 s.l) (J2 s.y) s.a0 s.a1 s.tr s.op s.cl s.en s.mo s.la0 s.la1 s.la2 s.er),.b (JBQ x (J2 s.l) (J2 s.y) s.a0 s.a1 s.tr s.op s.cl s.en s.mo s.la0 s.la1 s.la2 s.er),.i (JC6 x (J2 s.l) (J2 s.y) s.a0 s.a1 s.tr s.op s.cl s.en s.mo s.la0 s.la1 s.la2 s.er),.i (JAs x (J2 s.l) (J2 s.y) s.a0 s.a1 s.tr s.op s.cl s.en s.mo s.la0 s.la1 s.la2 s.er),.i (JAc x (J2 s.l) (J2 s.y) s.a0 s.a1 s.tr s.op s.cl s.en s.mo s.la0 s.la1 s.la2 s.er),.i (JAq x (J2 s.l) (J2 s.y) s.a0 s.a1 s.tr s.op s.cl s.en s.mo s.la0 s.la1 s.la2 s.er),.i (JAP x (J2 s.l) (J2 s.y) s.a0 s.a1 s.tr s.op s.cl s.en s.mo s.la0 s.la1 s.la2 s.er),.b (JBp x (J2 s.l) (J2 s.y) s.a0 s.a1 s.tr s.op s.cl s.en s.mo s.la0 s.la1 s.la2 s.er)],
 JBJ x (J2 s.l) (J2 s.y) s.a0 s.a1 s.tr s.op s.cl s.en s.mo s.la0 s.la1 s.la2 s.er,JAX x (J2 s.l) (J2 s.y) s.a0 s.a1 s.tr s.op s.cl s.en s.mo s.la0 s.la1 s.la2 s.er,JBV x (J2 s.l) (J2 s.y) s.a0 s.a1 s.tr s.op s.cl s.en s.mo s.la0 s.la1 s.la2 s.er,JAo x (J2 s.l) (J2 s.y) s.a0 s.a1 s.tr s.op s.cl s.en s.mo s.la0 s.la1 s.la2 s.er,s.cl,JAw x s.cl s.en s.mo s.la0 s.la1 s.la2 s.er,JBP x s.cl s.en s.mo s.la0 s.la1 s.la2 s.er,JB1 x s.cl s.en s.mo s.la0 s.la1 s.la2 s.er,JAg x s.cl s.en s.mo s.la0 s.la1 s.la2 s.er,JB9 x s.cl s.en s.mo s.la0 s.la1 s.la2 s.er,Yt x (J2 s.l) (J2 s.y) s.a0 s.a1 s.tr s.op s.cl s.en s.mo s.la0 s.la1 s.la2 s.er s.C,Wo x (J2 s.l) (J2 s.y) s.a0 s.a1 s.tr s.op s.cl s.en s.mo s.la0 s.la1 s.la2 s.er s.C⟩
def Ks:LL:= Kl x (J2 s.l) (J2 s.y) s.a0 s.a1 s.tr s.op s.cl s.en s.mo s.la0 s.la1 s.la2 s.er s.C []
def WF:Int:= j5 x (J2 s.l) (J2 s.y) s.a0 s.a1 s.tr s.op s.cl s.en s.mo s.la0 s.la1 s.la2 s.er s.C
def Jnw:List (Nat × SC):= Jk4 g s.l s.y s.a0 s.a1 s.tr c s.op s.cl s.en s.mo s.la0 s.la1 s.la2 o s.er
end
theorem Jes (x:List GC) (C:LL):(JIu x C).length ≤ C.length := by
  unfold JIu
  repeat' first | exact Nat.le_refl _ | exact Nat.zero_le _ | refine jE ?_ ?_
theorem JbF (x l y:List GC) (a0 a1:Int) (tr:Bool) (C:LL):(JGK x l y a0 a1 tr C).length ≤ C.length := by
  unfold JGK
  repeat' first | exact Nat.le_refl _ | exact Nat.zero_le _ | refine jE ?_ ?_
theorem chA {C O:LL} {r:List Int}:(O ++ [r]).length ≤ O.length + C.length + 3 := by simp only [List.length_append,List.length_cons,List.length_nil]; omega
theorem Jia (x l y:List GC) (a0 a1:Int) (tr op cl en mo:Bool) (la0 la1 la2:Int) (C O:LL):(KH x l y a0 a1 tr op cl en mo la0 la1 la2 C O).length ≤ O.length + C.length + 3 := by
  unfold KH
  repeat' first | exact chO | exact chA | exact JbY .. | exact Jdz .. | refine jE ?_ ?_
theorem Jhd (x l y:List GC) (a0 a1:Int) (tr op cl en mo:Bool) (la0 la1 la2:Int) (C:LL) (h:C.length ≤ 8):(Wv x l y a0 a1 tr op cl en mo la0 la1 la2 C).length ≤ 8 := by
  unfold Wv
  repeat' first | exact h | exact Nat.le_trans (Jes ..) h | exact Nat.le_trans (JbF ..) h | exact JgE _ _ _ _ _ _ _ h | refine jE ?_ ?_
theorem JD1 (er:Int) (O:LL):(ZO er O).length ≤ O.length := by
  unfold ZO
  exact jE (Nat.zero_le _) (Nat.le_refl _)
theorem Jec (x:List GC) (s:St) (h:s.C.length ≤ 8):(XW x s).C.length ≤ 8 := by
  show (Wo ..).length ≤ 8
  unfold Wo
  exact jE (Jhd _ _ _ _ _ _ _ _ _ _ _ _ _ _ h) h
theorem JKl (x:List GC) (s:St) (h:s.C.length ≤ 8):(Ks x s).length ≤ 11 := by
  unfold Ks Kl
  refine jE (Nat.le_trans (JD1 ..) (Nat.le_trans (Jia ..) ?_)) (Nat.le_trans (JD1 ..) (Nat.zero_le _))
  simp only [List.length_nil]; omega
structure AS where
  i:Nat
  s:St
  R:LL
structure AT where
  bad:Bool
  i:Nat
  e:Int
  s:St
  R:LL
def apN (L:LL):Nat → AS → AT
  | 0,a => ⟨false,a.i,0,a.s,a.R⟩
  | k + 1,a => bif WF (Q0 (L.getD a.i [])) a.s != 0 then ⟨true,a.i,WF (Q0 (L.getD a.i [])) a.s,XW (Q0 (L.getD a.i [])) a.s,a.R⟩
    else apN L k ⟨a.i + 1,XW (Q0 (L.getD a.i [])) a.s,a.R ++ Ks (Q0 (L.getD a.i [])) a.s⟩
def apG (k:Nat):Nat := 1000000100 + k
def apH (k:Nat):Nat := 180 + k
def jH (L:LL):Fam AS AT where
  k := 200
  E a := [(16,ent 1000000000 (.one (I (Int.ofNat a.i)))),(15,ent 77 (.one (I (Int.ofNat L.length)))),(14,ent 76 (.one (.wh 0))),(6,ent 1000000001 (.one (.wh 160))),(5,ent 74 (.one (.ptr 7 0))),(0,ent 0 (.one (.wh 0)))]
  M a := [(7,.blk 66 (Jnw apG a.s 170 171)),Kw 170 1000000200 a.s.C,Kw 171 1000000201 [],Kw 0 1 L,Kw 160 1000000202 a.R]
  out t := .ite t.bad (.leaf .ret [(2,ent 80 (.one .nilsl)),(3,ent 81 (.one (I (Int.ofNat t.i)))),(4,ent 82 (.one (I t.e)))] [Kw 0 1 L])
    (.leaf (.exit 0) [(6,ent 83 (.one (.wh 160))),(5,ent 74 (.one (.ptr 7 0))),(0,ent 0 (.one (.wh 0)))] [(7,.blk 66 (Jnw apH t.s 170 171)),Kw 170 240 t.s.C,Kw 171 241 [],Kw 0 1 L,Kw 160 242 t.R])
  fin a := apN L (L.length - a.i) a
  next a _ := ⟨a.i + 1,XW (Q0 (L.getD a.i [])) a.s,a.R ++ Ks (Q0 (L.getD a.i [])) a.s⟩
  J a := a.i ≤ L.length ∧ L.length ≤ 1000 ∧ a.s.C.length ≤ 8 ∧ a.R.length ≤ 11 * a.i
  μ a := L.length - a.i
section
variable (L:LL) (a:AS)
def Jo0:Prop:= decide (Int.ofNat a.i < Int.ofNat L.length) = true
def Jns:Int:= j5 (Q0 (L.getD (Int.ofNat a.i).toNat [])) (J2 a.s.l) (J2 a.s.y) a.s.a0 a.s.a1 a.s.tr a.s.op a.s.cl a.s.en a.s.mo a.s.la0 a.s.la1 a.s.la2 a.s.er a.s.C
def JnP:LL:= Kl (Q0 (L.getD (Int.ofNat a.i).toNat [])) (J2 a.s.l) (J2 a.s.y) a.s.a0 a.s.a1 a.s.tr a.s.op a.s.cl a.s.en a.s.mo a.s.la0 a.s.la1 a.s.la2 a.s.er a.s.C []
end
abbrev eqS (s s':St) (r:Prop):Prop := xi s.l 0 = xi s'.l 0 ∧ xi s.l 1 = xi s'.l 1 ∧ xi s.l 2 = xi s'.l 2 ∧ xi s.l 3 = xi s'.l 3 ∧ xi s.l 4 = xi s'.l 4 ∧ xi s.l 5 = xi s'.l 5 ∧ xi s.l 6 = xi s'.l 6 ∧ xi s.l 7 = xi s'.l 7 ∧ xi s.l 8 = xi s'.l 8 ∧ xi s.l 9 = xi s'.l 9 ∧ xi s.l 10 = xi s'.l 10 ∧ xi s.l 11 = xi s'.l 11 ∧ xi s.l 12 = xi s'.l 12 ∧ xb s.l 13 = xb s'.l 13 ∧ xi s.l 14 = xi s'.l 14 ∧ xb s.l 15 = xb s'.l 15 ∧ xi s.l 16 = xi s'.l 16 ∧ xi s.l 17 = xi s'.l 17 ∧ xi s.l 18 = xi s'.l 18 ∧ xi s.l 19 = xi s'.l 19 ∧ xi s.l 20 = xi s'.l 20 ∧ xb s.l 21 = xb s'.l 21 ∧ xi s.y 0 = xi s'.y 0 ∧ xi s.y 1 = xi s'.y 1 ∧ xi s.y 2 = xi s'.y 2 ∧ xi s.y 3 = xi s'.y 3 ∧ xi s.y 4 = xi s'.y 4 ∧ xi s.y 5 = xi s'.y 5 ∧ xi s.y 6 = xi s'.y 6 ∧ xi s.y 7 = xi s'.y 7 ∧ xi s.y 8 = xi s'.y 8 ∧ xi s.y 9 = xi s'.y 9 ∧ xi s.y 10 = xi s'.y 10 ∧ xi s.y 11 = xi s'.y 11 ∧ xi s.y 12 = xi s'.y 12 ∧ xb s.y 13 = xb s'.y 13 ∧ xi s.y 14 = xi s'.y 14 ∧ xb s.y 15 = xb s'.y 15 ∧ xi s.y 16 = xi s'.y 16 ∧ xi s.y 17 = xi s'.y 17 ∧ xi s.y 18 = xi s'.y 18 ∧ xi s.y 19 = xi s'.y 19 ∧ xi s.y 20 = xi s'.y 20 ∧ xb s.y 21 = xb s'.y 21 ∧ s.a0 = s'.a0 ∧ s.a1 = s'.a1 ∧ s.tr = s'.tr ∧ s.op = s'.op ∧ s.cl = s'.cl ∧ s.en = s'.en ∧ s.mo = s'.mo ∧ s.la0 = s'.la0 ∧ s.la1 = s'.la1 ∧ s.la2 = s'.la2 ∧ s.er = s'.er ∧ s.C = s'.C ∧ r
def JVl (L:LL) (a:AS):List Prop := [Jo0 L a → 0 ≤ Int.ofNat a.i ∧ (Int.ofNat a.i).toNat < L.length ∧ (Int.ofNat a.i).toNat < L.length ∧ a.s.C.length ≤ 1000 ∧ 0 ≤ 800000 ∧ ((Jns L a != 0) = false → (a.R.length + (JnP L a).length) * 176 ≤ 140737488355328 ∧ a.R.length + (JnP L a).length ≤ 9223372036854775807),Jo0 L a → ((Jns L a != 0) = true → (((jH L).fin a).bad = true → Int.ofNat ((jH L).fin a).i = Int.ofNat a.i ∧ ((jH L).fin a).e = Jns L a) ∧ (((jH L).fin a).bad = false → False)) ∧ ((Jns L a != 0) = false → (((jH L).next a 1).i ≤ L.length ∧ L.length ≤ 1000 ∧ ((jH L).next a 1).s.C.length ≤ 8 ∧ ((jH L).next a 1).R.length ≤ 11 * ((jH L).next a 1).i) ∧ (jH L).μ ((jH L).next a 1) < (jH L).μ a ∧ (jH L).fin ((jH L).next a 1) = (jH L).fin a ∧ Int.ofNat ((jH L).next a 1).i = IntKind.i64.wrap (Int.ofNat a.i + 1) ∧ eqS ((jH L).next a 1).s ((jH L).next a 1).s (([]:LL) = [] ∧ ((jH L).next a 1).R = a.R ++ JnP L a)),decide (Int.ofNat a.i < Int.ofNat L.length) = false → (((jH L).fin a).bad = true → False) ∧ (((jH L).fin a).bad = false → eqS ((jH L).fin a).s a.s (([]:LL) = [] ∧ ((jH L).fin a).R = a.R))]
theorem JrW (L:LL) (a:AS) (hNeeds:∀ pN ∈ (JVl L a),pN):Q4 (Xd (jH L) (QX Tryz.prog (JC jm) JYD 12 0) 79 a) :=
  Q4.of (ps := (JVl L a)) (by kernel_rfl) (by kernel_rfl) hNeeds
theorem Jgi {L:LL} {a:AS} (h:a.i < L.length):apN L (L.length - a.i) a = bif WF (Q0 (L.getD a.i [])) a.s != 0 then ⟨true,a.i,WF (Q0 (L.getD a.i [])) a.s,XW (Q0 (L.getD a.i [])) a.s,a.R⟩
    else apN L (L.length - (a.i + 1)) ⟨a.i + 1,XW (Q0 (L.getD a.i [])) a.s,a.R ++ Ks (Q0 (L.getD a.i [])) a.s⟩ := by
  have e:L.length - a.i = (L.length - (a.i + 1)) + 1 := by omega
  rw [e]; rfl
theorem JpN (L:LL):Qw (jH L) (QX Tryz.prog (JC jm) JYD 12 0) 79 := by
  intro a hJ
  obtain ⟨h1,h2,h3,h4⟩:a.i ≤ L.length ∧ L.length ≤ 1000 ∧ a.s.C.length ≤ 8 ∧ a.R.length ≤ 11 * a.i := hJ
  have lt:Jo0 L a → a.i < L.length := by unfold Jo0; simp
  have ho := JKl (Q0 (L.getD a.i [])) a.s h3
  have hc := Jec (Q0 (L.getD a.i [])) a.s h3
  have e6:IntKind.i64.wrap (Int.ofNat a.i + 1) = Int.ofNat (a.i + 1) := X6 (by simp; omega) (by simp; omega)
  refine JrW L a ?_
  unfold JVl
  simp only [awc,awn,and_true]
  have all {p q:Prop} (h:p) (k:q):p ∧ q := ⟨h,k⟩
  have e0 (h:a.i < L.length) (hb:(WF (Q0 (L.getD a.i [])) a.s != 0) = true):(jH L).fin a = ⟨true,a.i,WF (Q0 (L.getD a.i [])) a.s,XW (Q0 (L.getD a.i [])) a.s,a.R⟩ := by
    show apN L (L.length - a.i) a = _
    rw [Jgi h,hb]; rfl
  refine ⟨fun h => ⟨by simp,lt h,lt h,by omega,by omega,fun _ => ?_⟩,fun h => ⟨fun hb => ⟨fun _ => ?_,fun hf => ?_⟩,fun hb => ⟨⟨?_,h2,hc,?_⟩,?_,?_,e6.symm,?_⟩⟩,fun h => ?_⟩
  · have ho':(JnP L a).length ≤ 11 := ho
    omega
  · rw [e0 (lt h) hb]; exact ⟨rfl,rfl⟩
  · rw [e0 (lt h) hb] at hf; cases hf
  · have := lt h
    show a.i + 1 ≤ _; omega
  · show (a.R ++ Ks (Q0 (L.getD a.i [])) a.s).length ≤ 11 * (a.i + 1)
    rw [List.length_append]; omega
  · have := lt h
    show L.length - (a.i + 1) < L.length - a.i; omega
  · show apN L (L.length - (a.i + 1)) _ = apN L (L.length - a.i) a
    have hb':(WF (Q0 (L.getD a.i [])) a.s != 0) = false := hb
    rw [Jgi (lt h),hb']; rfl
  · repeat' first | refine ⟨by kernel_rfl,?_⟩ | kernel_rfl | exact trivial | refine ⟨trivial,?_⟩
  · have hi:a.i = L.length := by simp at h; omega
    have e:(jH L).fin a = ⟨false,a.i,0,a.s,a.R⟩ := by
      show apN L (L.length - a.i) a = _
      rw [hi,Nat.sub_self]; unfold apN; rw [hi]
    rw [e]
    refine ⟨fun h => (by cases h),fun _ => ?_⟩
    repeat' first | refine ⟨by kernel_rfl,?_⟩ | kernel_rfl | exact trivial | refine ⟨trivial,?_⟩
def Jxy:QE := fun env mem m => match SX.JD mem 0 with
  | some (.row _ _ _ (.lst _ _ L)) => jk (jH L) 79 (fun _ _ => some ⟨0,YQ,[]⟩) env mem m
  | _ => none
def JYv:FuncId → Nat → Option QE := JA9 JYD 12 4 Jxy
theorem JcL:Known Tryz.prog (JC jm) JYv := by
  refine Qe 0 JLZ (by kernel_rfl) (Qv fun env mem m x h => ?_)
  unfold Jxy at h
  have hlen:(QW Tryz.prog 12).length = 1 := by kernel_rfl
  split at h
  · exact ⟨_,XG (Qc Zz JLZ (by omega)) (JpN _),h⟩
  · cases h
section
variable (L:LL)
def apT:AT:= (jH L).fin (AS.mk 0 YQ [])
def apC:Int:= JBz (apT L).s.op (apT L).s.cl (apT L).s.er
def apI:Int:= bif (apT L).bad then Int.ofNat (apT L).i else bif apC L != 0 then Int.ofNat L.length else Int.ofNat L.length
def apE:Int:= bif (apT L).bad then (apT L).e else bif apC L != 0 then apC L else 0
def apO:LL:= bif (apT L).bad then [] else bif apC L != 0 then [] else (apT L).R ++ W4 (apT L).s.op (apT L).s.cl (apT L).s.er []
end
theorem JsI (L:LL):∀ (k:Nat) (a:AS),a.s.C.length ≤ 8 → (apN L k a).R.length ≤ a.R.length + 11 * k ∧ (apN L k a).s.C.length ≤ 8
  | 0,a,h => ⟨Nat.le_refl _,h⟩
  | k + 1,a,h => by
    have ho := JKl (Q0 (L.getD a.i [])) a.s h
    have hc := Jec (Q0 (L.getD a.i [])) a.s h
    unfold apN
    cases hb:WF (Q0 (L.getD a.i [])) a.s != 0
    · have := JsI L k ⟨a.i + 1,XW (Q0 (L.getD a.i [])) a.s,a.R ++ Ks (Q0 (L.getD a.i [])) a.s⟩ hc
      rw [cond_false]
      simp only [List.length_append] at this
      exact ⟨by omega,this.2⟩
    · exact ⟨by show a.R.length ≤ _; omega,hc⟩
def Wg:Tpl := ⟨[.one (.wh 0)],[(0,.row false 40 22 1 jI)],2⟩
section
variable (L:LL)
def Jv0:Int:= bif ((jH L).fin (AS.mk 0 YQ [])).bad then Int.ofNat ((jH L).fin (AS.mk 0 YQ [])).i else bif JBz ((jH L).fin (AS.mk 0 YQ [])).s.op ((jH L).fin (AS.mk 0 YQ [])).s.cl ((jH L).fin (AS.mk 0 YQ [])).s.er != 0 then Int.ofNat L.length else Int.ofNat L.length
def Jgg:Int:= JBz ((jH L).fin (AS.mk 0 YQ [])).s.op ((jH L).fin (AS.mk 0 YQ [])).s.cl ((jH L).fin (AS.mk 0 YQ [])).s.er
def JvV:Int:= bif ((jH L).fin (AS.mk 0 YQ [])).bad then ((jH L).fin (AS.mk 0 YQ [])).e else bif Jgg L != 0 then Jgg L else 0
def Jv5:LL:= bif ((jH L).fin (AS.mk 0 YQ [])).bad then [] else bif JBz ((jH L).fin (AS.mk 0 YQ [])).s.op ((jH L).fin (AS.mk 0 YQ [])).s.cl ((jH L).fin (AS.mk 0 YQ [])).s.er != 0 then [] else ((jH L).fin (AS.mk 0 YQ [])).R ++ W4 ((jH L).fin (AS.mk 0 YQ [])).s.op ((jH L).fin (AS.mk 0 YQ [])).s.cl ((jH L).fin (AS.mk 0 YQ [])).s.er []
def JA4:List Prop:= [0 ≤ L.length ∧ L.length ≤ 1000 ∧ 0 ≤ 8 ∧ 0 ≤ 0,Int.ofNat 0 = 0,Int.ofNat 0 = 0,Int.ofNat 0 = 0,Int.ofNat 0 = 0,Int.ofNat 0 = 0,Int.ofNat 0 = 0,Int.ofNat 0 = 0,Int.ofNat 0 = 0,Int.ofNat 0 = 0,Int.ofNat 0 = 0,Int.ofNat 0 = 0,Int.ofNat 0 = 0,Int.ofNat 0 = 0,Int.ofNat 0 = 0,false = false,Int.ofNat 0 = 0,false = false,Int.ofNat 0 = 0,Int.ofNat 0 = 0,Int.ofNat 0 = 0,Int.ofNat 0 = 0,Int.ofNat 0 = 0,false = false,Int.ofNat 0 = 0,Int.ofNat 0 = 0,Int.ofNat 0 = 0,Int.ofNat 0 = 0,Int.ofNat 0 = 0,Int.ofNat 0 = 0,Int.ofNat 0 = 0,Int.ofNat 0 = 0,Int.ofNat 0 = 0,Int.ofNat 0 = 0,Int.ofNat 0 = 0,Int.ofNat 0 = 0,Int.ofNat 0 = 0,false = false,Int.ofNat 0 = 0,false = false,Int.ofNat 0 = 0,Int.ofNat 0 = 0,Int.ofNat 0 = 0,Int.ofNat 0 = 0,Int.ofNat 0 = 0,false = false,Int.ofNat 0 = 0,Int.ofNat 0 = 0,false = false,false = false,false = false,false = false,false = false,Int.ofNat 0 = 0,Int.ofNat 0 = 0,Int.ofNat 0 = 0,Int.ofNat 0 = 0,(AS.mk 0 YQ []).s.C = [],([]:LL) = [],(AS.mk 0 YQ []).R = [],((jH L).fin (AS.mk 0 YQ [])).bad = false → (JBz ((jH L).fin (AS.mk 0 YQ [])).s.op ((jH L).fin (AS.mk 0 YQ [])).s.cl ((jH L).fin (AS.mk 0 YQ [])).s.er != 0) = false → (((jH L).fin (AS.mk 0 YQ [])).R.length + (W4 ((jH L).fin (AS.mk 0 YQ [])).s.op ((jH L).fin (AS.mk 0 YQ [])).s.cl ((jH L).fin (AS.mk 0 YQ [])).s.er []).length) * 176 ≤ 140737488355328 ∧ ((jH L).fin (AS.mk 0 YQ [])).R.length + (W4 ((jH L).fin (AS.mk 0 YQ [])).s.op ((jH L).fin (AS.mk 0 YQ [])).s.cl ((jH L).fin (AS.mk 0 YQ [])).s.er []).length ≤ 9223372036854775807]
end
theorem JkH {L:LL} (hW:∀ q ∈ ([L.length ≤ 1000]:List Prop),q):∀ q ∈ (JA4 L),q := by
  simp only [awc,awn,and_true] at hW
  unfold JA4
  simp only [awc,awn,and_true]
  have hr := (JsI L (L.length - 0) ⟨0,YQ,[]⟩ (Nat.zero_le _)).1
  have e:(jH L).fin (AS.mk 0 YQ []) = apN L (L.length - 0) ⟨0,YQ,[]⟩ := rfl
  have h46:∀ op cl er,(W4 op cl er []).length = 0 := fun op cl er => Nat.le_zero.1 (by unfold W4; exact JD1 ..)
  have hz:(AS.mk 0 YQ []).R.length = 0 := rfl
  refine ⟨⟨Nat.zero_le _,hW,by decide,by decide⟩,?_⟩
  repeat' first | refine ⟨by kernel_rfl,?_⟩ | kernel_rfl | exact trivial | (exact fun _ _ => by rw [h46,e]; omega) | refine ⟨rfl,?_⟩ | refine ⟨trivial,?_⟩
def JnL := [CK.int IntKind.i64,CK.int IntKind.i64,CK.int IntKind.i64,CK.int IntKind.i64,CK.int IntKind.i64,CK.int IntKind.i64,CK.int IntKind.i64,CK.int IntKind.i64,CK.int IntKind.i64,CK.int IntKind.i64,CK.int IntKind.i64,CK.int IntKind.i64,CK.int IntKind.i64,CK.bool,CK.int IntKind.i64,CK.bool,CK.int IntKind.i64,CK.int IntKind.i64,CK.int IntKind.i64,CK.int IntKind.i64,CK.int IntKind.i64,CK.bool]
theorem Jjm (L:LL) (hNeeds:∀ pN ∈ (JA4 L),pN):Runs (Jm (JC jm) JYv 12) (Wg.args []) (Wg.memo [] [L]) Wg.n (SV.tup [(false,[SC.wh 499]),(false,[Ci (Jv0 L)]),(false,[Ci (JvV L)])]) ([(499,Obj.row false 40 22 (RowC.lst 498 JnL (Jv5 L))),(0,Obj.row false 40 22 (RowC.lst 1 JnL L))]) :=
  Runs.of1 (ps := (JA4 L)) (by kernel_rfl) hNeeds
def JSS:List Pm → Qs → Option CRes
  | [],[L] => some ⟨SV.tup [(false,[SC.wh 499]),(false,[Ci ((apI L))]),(false,[Ci ((apE L))])],[(499,Obj.row false 40 22 (RowC.lst 498 JnL ((apO L)))),(0,Obj.row false 40 22 (RowC.lst 1 JnL L))],[L.length ≤ 1000],[],500⟩
  | _,_ => none
theorem JdK (L:LL) (hNeeds:∀ pN ∈ (JA4 L),pN):Runs (Jm (JC jm) JYv 12) (Wg.args []) (Wg.memo [] [L]) Wg.n (SV.tup [(false,[SC.wh 499]),(false,[SC.int IntKind.i64 (SI.v ((apI L)))]),(false,[SC.int IntKind.i64 (SI.v ((apE L)))])])
    ([(499,
     Obj.row false 40 22
     (RowC.lst 498
     [CK.int IntKind.i64,CK.int IntKind.i64,CK.int IntKind.i64,CK.int IntKind.i64,CK.int IntKind.i64,CK.int IntKind.i64,CK.int IntKind.i64,CK.int IntKind.i64,CK.int IntKind.i64,
     CK.int IntKind.i64,CK.int IntKind.i64,CK.int IntKind.i64,CK.int IntKind.i64,CK.bool,CK.int IntKind.i64,CK.bool,CK.int IntKind.i64,CK.int IntKind.i64,CK.int IntKind.i64,
     CK.int IntKind.i64,CK.int IntKind.i64,CK.bool]
     ((apO L)))),
    (0,
     Obj.row false 40 22
     (RowC.lst 1
     [CK.int IntKind.i64,CK.int IntKind.i64,CK.int IntKind.i64,CK.int IntKind.i64,CK.int IntKind.i64,CK.int IntKind.i64,CK.int IntKind.i64,CK.int IntKind.i64,CK.int IntKind.i64,
     CK.int IntKind.i64,CK.int IntKind.i64,CK.int IntKind.i64,CK.int IntKind.i64,CK.bool,CK.int IntKind.i64,CK.bool,CK.int IntKind.i64,CK.int IntKind.i64,CK.int IntKind.i64,
     CK.int IntKind.i64,CK.int IntKind.i64,CK.bool]
     L))]) :=
  (Jjm L hNeeds).to (by first | rfl | (simp only [])) (by first | rfl | (simp only []))
theorem Jtp:Ql Tryz.prog 12 (JU Wg JSS) := by
  refine JI (JE JcL 12) fun ps ls r hr hn _ => ?_
  unfold JSS at hr
  split at hr
  · cases hr; exact ⟨_,JdK _ (JkH (by exact hn)),fun _ => rfl⟩
  · cases hr
def Jg1:List (Nat × JY) := (12,JU Wg JSS) :: jm
theorem JJN:Known Tryz.prog (JC Jg1) JYv := J7 JcL Jtp
def jX:Tpl := ⟨[],[],0⟩
def JDu:List Prop := [4 ≤ 1000,true = true → 0 < 5,true = true → 0 < 5,true = true → 0 < 5,true = true → 1 < 5,true = true → 1 < 5,true = true → 1 < 5,true = true → 2 < 5,true = true → 2 < 5,true = true → 2 < 5,true = true → 2 < 5,true = true → 2 < 5,true = true → 2 < 5,true = true → 2 < 5,true = true → 2 < 5,true = true → 2 < 5,true = true → 3 < 5,true = true → 3 < 5,true = true → 3 < 5,true = true → 4 < 5,true = true → 4 < 5,true = true → 4 < 5]
theorem JXZ:∀ q ∈ (JDu),q := by
  unfold JDu
  simp only [awc,awn,and_true]
  decide
theorem JWo (hNeeds:∀ pN ∈ (JDu),pN):Runs (Jm (JC Jg1) JYv 8) (jX.args []) (jX.memo [] []) jX.n (SV.one (Cb true)) ([]) :=
  Runs.of1 (ps := (JDu)) (by kernel_rfl) hNeeds
def JSn:List Pm → Qs → Option CRes
  | [],[] => some ⟨SV.one (Cb true),
 [],[],[],1018⟩
  | _,_ => none
theorem Js1:Ql Tryz.prog 8 (JU jX JSn) := by
  refine JI (JE JJN 8) fun ps ls r hr hn _ => ?_
  unfold JSn at hr
  split at hr
  · cases hr; exact ⟨_,JWo  (fun p hp => JXZ p hp),fun _ => rfl⟩
  · cases hr
def JBj:List (Nat × JY) := (8,JU jX JSn) :: Jg1
theorem JIy:Known Tryz.prog (JC JBj) JYv := J7 JJN Js1
theorem JCs (e:Int):Jo e = e := by
  unfold Jo
  cases h:(e != 0)
  · rw [cond_false]; exact (by simpa using h:e = 0).symm
  · rfl
theorem JPg (x l y:List GC) (a0 a1:Int) (tr op cl en mo:Bool) (la0 la1 la2 er:Int) (C:LL) :
    j5 x l y a0 a1 tr op cl en mo la0 la1 la2 er C = Yt x l y a0 a1 tr op cl en mo la0 la1 la2 er C := by
  unfold j5 Yt
  rw [JCs,JCs]
theorem Jaa (x:List GC) (s:St):WF x s = (XW x s).er := JPg ..
theorem JU3 (x:List GC) (s:St) (h:s.er ≠ 0):WF x s = s.er := by
  unfold WF
  rw [JPg]
  unfold Yt
  rw [show (s.er == 0) = false from by simpa using h]; rfl
theorem Jgp (x:List GC) (s:St) (h:s.er ≠ 0):Ks x s = [] := by
  unfold Ks Kl ZO
  rw [show (s.er == 0) = false from by simpa using h,cond_false]
  cases s.er != 0 <;> rfl
theorem Jqg (x:List GC) (s:St) (h:WF x s ≠ 0):Ks x s = [] := by
  unfold WF j5 at h
  unfold Ks Kl ZO
  cases he:s.er == 0
  · rw [cond_false]; cases s.er != 0 <;> rfl
  · rw [he,cond_true,JCs] at h
    rw [cond_true,show (Kj _ _ _ _ _ _ _ _ _ _ _ _ _ _ != 0) = true from by simpa using h]; rfl
theorem Jbo {L:LL} (h:JE8 L = true):L.length ≤ 120 := by
  unfold JE8 at h
  have := of_decide_eq_true h
  simp at this
  omega
def JZh (xs:LL) (tag:Nat):Jn := [Kw 0 2 xs,Kw 1 tag xs]
def JIL (xs:LL):Fam Nat Unit where
  k := 10
  E j := [(5,ent 20 (.one (I (Int.ofNat j)))),(4,ent 4 (.one (.bool (.c false)))),(0,ent 0 (.one (.wh 0))),(1,ent 2 (.one (.wh 1)))]
  M _ := JZh xs 21
  out _ := .leaf (.exit 0) [] (JZh xs 21)
  fin _ := ()
  next j _ := j + 1
  J j := j ≤ xs.length ∧ xs.length ≤ 1000000
  μ j := xs.length - j
section
variable (xs:LL) (j:Nat)
def JfP:Prop:= decide (Int.ofNat j < Int.ofNat xs.length) = true
def JO3:Int:= (xs.getD (Int.ofNat j).toNat []).getD 0 0
def JNq:Bool:= (xs.getD (Int.ofNat j).toNat []).getD 13 0 != 0
def JO1:Bool:= (xs.getD (Int.ofNat j).toNat []).getD 15 0 != 0
def JPP:Bool:= (xs.getD (Int.ofNat j).toNat []).getD 21 0 != 0
def JMq:List Prop:=
 [JfP xs j → 0 ≤ Int.ofNat j ∧ (Int.ofNat j).toNat < xs.length ∧ (Int.ofNat j).toNat < xs.length ∧ 0 ≤ Int.ofNat j ∧ (Int.ofNat j).toNat < xs.length ∧ (Int.ofNat j).toNat < xs.length,JfP xs j → ((!(JO3 xs j == JO3 xs j && ((xs.getD (Int.ofNat j).toNat []).getD 1 0 == (xs.getD (Int.ofNat j).toNat []).getD 1 0 && ((xs.getD (Int.ofNat j).toNat []).getD 2 0 == (xs.getD (Int.ofNat j).toNat []).getD 2 0 && ((xs.getD (Int.ofNat j).toNat []).getD 3 0 == (xs.getD (Int.ofNat j).toNat []).getD 3 0 && ((xs.getD (Int.ofNat j).toNat []).getD 4 0 == (xs.getD (Int.ofNat j).toNat []).getD 4 0 && ((xs.getD (Int.ofNat j).toNat []).getD 5 0 == (xs.getD (Int.ofNat j).toNat []).getD 5 0 && ((xs.getD (Int.ofNat j).toNat []).getD 6 0 == (xs.getD (Int.ofNat j).toNat []).getD 6 0 && ((xs.getD (Int.ofNat j).toNat []).getD 7 0 == (xs.getD (Int.ofNat j).toNat []).getD 7 0 && ((xs.getD (Int.ofNat j).toNat []).getD 8 0 == (xs.getD (Int.ofNat j).toNat []).getD 8 0 && ((xs.getD (Int.ofNat j).toNat []).getD 9 0 == (xs.getD (Int.ofNat j).toNat []).getD 9 0 && ((xs.getD (Int.ofNat j).toNat []).getD 10 0 == (xs.getD (Int.ofNat j).toNat []).getD 10 0 && ((xs.getD (Int.ofNat j).toNat []).getD 11 0 == (xs.getD (Int.ofNat j).toNat []).getD 11 0 && ((xs.getD (Int.ofNat j).toNat []).getD 12 0 == (xs.getD (Int.ofNat j).toNat []).getD 12 0 && (JNq xs j == JNq xs j && ((xs.getD (Int.ofNat j).toNat []).getD 14 0 == (xs.getD (Int.ofNat j).toNat []).getD 14 0 && (JO1 xs j == JO1 xs j && ((xs.getD (Int.ofNat j).toNat []).getD 16 0 == (xs.getD (Int.ofNat j).toNat []).getD 16 0 && ((xs.getD (Int.ofNat j).toNat []).getD 17 0 == (xs.getD (Int.ofNat j).toNat []).getD 17 0 && ((xs.getD (Int.ofNat j).toNat []).getD 18 0 == (xs.getD (Int.ofNat j).toNat []).getD 18 0 && ((xs.getD (Int.ofNat j).toNat []).getD 19 0 == (xs.getD (Int.ofNat j).toNat []).getD 19 0 && ((xs.getD (Int.ofNat j).toNat []).getD 20 0 == (xs.getD (Int.ofNat j).toNat []).getD 20 0 && JPP xs j == JPP xs j)))))))))))))))))))))) = true → False) ∧ ((!(JO3 xs j == JO3 xs j && ((xs.getD (Int.ofNat j).toNat []).getD 1 0 == (xs.getD (Int.ofNat j).toNat []).getD 1 0 && ((xs.getD (Int.ofNat j).toNat []).getD 2 0 == (xs.getD (Int.ofNat j).toNat []).getD 2 0 && ((xs.getD (Int.ofNat j).toNat []).getD 3 0 == (xs.getD (Int.ofNat j).toNat []).getD 3 0 && ((xs.getD (Int.ofNat j).toNat []).getD 4 0 == (xs.getD (Int.ofNat j).toNat []).getD 4 0 && ((xs.getD (Int.ofNat j).toNat []).getD 5 0 == (xs.getD (Int.ofNat j).toNat []).getD 5 0 && ((xs.getD (Int.ofNat j).toNat []).getD 6 0 == (xs.getD (Int.ofNat j).toNat []).getD 6 0 && ((xs.getD (Int.ofNat j).toNat []).getD 7 0 == (xs.getD (Int.ofNat j).toNat []).getD 7 0 && ((xs.getD (Int.ofNat j).toNat []).getD 8 0 == (xs.getD (Int.ofNat j).toNat []).getD 8 0 && ((xs.getD (Int.ofNat j).toNat []).getD 9 0 == (xs.getD (Int.ofNat j).toNat []).getD 9 0 && ((xs.getD (Int.ofNat j).toNat []).getD 10 0 == (xs.getD (Int.ofNat j).toNat []).getD 10 0 && ((xs.getD (Int.ofNat j).toNat []).getD 11 0 == (xs.getD (Int.ofNat j).toNat []).getD 11 0 && ((xs.getD (Int.ofNat j).toNat []).getD 12 0 == (xs.getD (Int.ofNat j).toNat []).getD 12 0 && (JNq xs j == JNq xs j && ((xs.getD (Int.ofNat j).toNat []).getD 14 0 == (xs.getD (Int.ofNat j).toNat []).getD 14 0 && (JO1 xs j == JO1 xs j && ((xs.getD (Int.ofNat j).toNat []).getD 16 0 == (xs.getD (Int.ofNat j).toNat []).getD 16 0 && ((xs.getD (Int.ofNat j).toNat []).getD 17 0 == (xs.getD (Int.ofNat j).toNat []).getD 17 0 && ((xs.getD (Int.ofNat j).toNat []).getD 18 0 == (xs.getD (Int.ofNat j).toNat []).getD 18 0 && ((xs.getD (Int.ofNat j).toNat []).getD 19 0 == (xs.getD (Int.ofNat j).toNat []).getD 19 0 && ((xs.getD (Int.ofNat j).toNat []).getD 20 0 == (xs.getD (Int.ofNat j).toNat []).getD 20 0 && JPP xs j == JPP xs j)))))))))))))))))))))) = false → ((JIL xs).next j 1 ≤ xs.length ∧ xs.length ≤ 1000000) ∧ (JIL xs).μ ((JIL xs).next j 1) < (JIL xs).μ j ∧ (JIL xs).fin ((JIL xs).next j 1) =
 (JIL xs).fin j ∧ Int.ofNat ((JIL xs).next j 1) = IntKind.i64.wrap (Int.ofNat j + 1))]
end
theorem JlW (xs:LL) (j:Nat) (hNeeds:∀ pN ∈ (JMq xs j),pN):Q4 (Xd (JIL xs) (QX Tryz.prog (JC JBj) JYv 14 0) 12 j) :=
  Q4.of (ps := (JMq xs j)) (by kernel_rfl) (by kernel_rfl) hNeeds
theorem Jgo (xs:LL):Qw (JIL xs) (QX Tryz.prog (JC JBj) JYv 14 0) 12 := by
  rintro j ⟨h1,h2⟩
  refine JlW xs j fun q hq => ?_
  unfold JMq at hq
  simp only [List.mem_cons,List.not_mem_nil,or_false,JfP,JO3,JNq,JO1,JPP] at hq
  rcases hq with rfl | rfl
  · intro h; simp at h ⊢; omega
  · intro h
    simp at h
    refine ⟨fun h => by simp at h,fun _ => ?_⟩
    have e1:IntKind.i64.wrap (Int.ofNat j + 1) = Int.ofNat (j + 1) := X6 (by simp; omega) (by simp; omega)
    simp only [JIL]
    exact ⟨⟨by omega,h2⟩,by omega,trivial,e1.symm⟩
def smF (A B:LL):Fam Nat Unit where
  k := 10
  E j := [(5,ent 20 (.one (I (Int.ofNat j)))),(4,ent 4 (.one (.bool (.c false)))),(0,ent 0 (.one (.sl 0 22 (.c 0) (.v B.length)))),(1,ent 2 (.one (.wh 1)))]
  M _ := [Kw 0 2 A,Kw 1 21 B]
  out _ := .leaf (.exit 0) [] [Kw 0 2 A,Kw 1 21 B]
  fin _ := ()
  next j _ := j + 1
  J j := j ≤ B.length ∧ B.length ≤ 1000000 ∧ A.take B.length = B
  μ j := B.length - j
def JuK (B:LL) (j:Nat):Prop := decide (Int.ofNat j < Int.ofNat B.length) = true
def JWG (A B:LL) (j:Nat):List Prop :=
 [JuK B j → 0 ≤ Int.ofNat j ∧ (Int.ofNat j).toNat < B.length ∧ (Int.ofNat j).toNat < A.length ∧ (Int.ofNat j).toNat < A.length ∧ 0 ≤ Int.ofNat j ∧ (Int.ofNat j).toNat < B.length ∧ (Int.ofNat j).toNat < B.length,JuK B j → ((!((A.getD (Int.ofNat j).toNat []).getD 0 0 == (B.getD (Int.ofNat j).toNat []).getD 0 0 && ((A.getD (Int.ofNat j).toNat []).getD 1 0 == (B.getD (Int.ofNat j).toNat []).getD 1 0 && ((A.getD (Int.ofNat j).toNat []).getD 2 0 == (B.getD (Int.ofNat j).toNat []).getD 2 0 && ((A.getD (Int.ofNat j).toNat []).getD 3 0 == (B.getD (Int.ofNat j).toNat []).getD 3 0 && ((A.getD (Int.ofNat j).toNat []).getD 4 0 == (B.getD (Int.ofNat j).toNat []).getD 4 0 && ((A.getD (Int.ofNat j).toNat []).getD 5 0 == (B.getD (Int.ofNat j).toNat []).getD 5 0 && ((A.getD (Int.ofNat j).toNat []).getD 6 0 == (B.getD (Int.ofNat j).toNat []).getD 6 0 && ((A.getD (Int.ofNat j).toNat []).getD 7 0 == (B.getD (Int.ofNat j).toNat []).getD 7 0 && ((A.getD (Int.ofNat j).toNat []).getD 8 0 == (B.getD (Int.ofNat j).toNat []).getD 8 0 && ((A.getD (Int.ofNat j).toNat []).getD 9 0 == (B.getD (Int.ofNat j).toNat []).getD 9 0 && ((A.getD (Int.ofNat j).toNat []).getD 10 0 == (B.getD (Int.ofNat j).toNat []).getD 10 0 && ((A.getD (Int.ofNat j).toNat []).getD 11 0 == (B.getD (Int.ofNat j).toNat []).getD 11 0 && ((A.getD (Int.ofNat j).toNat []).getD 12 0 == (B.getD (Int.ofNat j).toNat []).getD 12 0 && (((A.getD (Int.ofNat j).toNat []).getD 13 0 != 0) == ((B.getD (Int.ofNat j).toNat []).getD 13 0 != 0) && ((A.getD (Int.ofNat j).toNat []).getD 14 0 == (B.getD (Int.ofNat j).toNat []).getD 14 0 && (((A.getD (Int.ofNat j).toNat []).getD 15 0 != 0) == ((B.getD (Int.ofNat j).toNat []).getD 15 0 != 0) && ((A.getD (Int.ofNat j).toNat []).getD 16 0 == (B.getD (Int.ofNat j).toNat []).getD 16 0 && ((A.getD (Int.ofNat j).toNat []).getD 17 0 == (B.getD (Int.ofNat j).toNat []).getD 17 0 && ((A.getD (Int.ofNat j).toNat []).getD 18 0 == (B.getD (Int.ofNat j).toNat []).getD 18 0 && ((A.getD (Int.ofNat j).toNat []).getD 19 0 == (B.getD (Int.ofNat j).toNat []).getD 19 0 && ((A.getD (Int.ofNat j).toNat []).getD 20 0 == (B.getD (Int.ofNat j).toNat []).getD 20 0 && ((A.getD (Int.ofNat j).toNat []).getD 21 0 != 0) == ((B.getD (Int.ofNat j).toNat []).getD 21 0 != 0))))))))))))))))))))))) = true → False) ∧ ((!((A.getD (Int.ofNat j).toNat []).getD 0 0 == (B.getD (Int.ofNat j).toNat []).getD 0 0 && ((A.getD (Int.ofNat j).toNat []).getD 1 0 == (B.getD (Int.ofNat j).toNat []).getD 1 0 && ((A.getD (Int.ofNat j).toNat []).getD 2 0 == (B.getD (Int.ofNat j).toNat []).getD 2 0 && ((A.getD (Int.ofNat j).toNat []).getD 3 0 == (B.getD (Int.ofNat j).toNat []).getD 3 0 && ((A.getD (Int.ofNat j).toNat []).getD 4 0 == (B.getD (Int.ofNat j).toNat []).getD 4 0 && ((A.getD (Int.ofNat j).toNat []).getD 5 0 == (B.getD (Int.ofNat j).toNat []).getD 5 0 && ((A.getD (Int.ofNat j).toNat []).getD 6 0 == (B.getD (Int.ofNat j).toNat []).getD 6 0 && ((A.getD (Int.ofNat j).toNat []).getD 7 0 == (B.getD (Int.ofNat j).toNat []).getD 7 0 && ((A.getD (Int.ofNat j).toNat []).getD 8 0 == (B.getD (Int.ofNat j).toNat []).getD 8 0 && ((A.getD (Int.ofNat j).toNat []).getD 9 0 == (B.getD (Int.ofNat j).toNat []).getD 9 0 && ((A.getD (Int.ofNat j).toNat []).getD 10 0 == (B.getD (Int.ofNat j).toNat []).getD 10 0 && ((A.getD (Int.ofNat j).toNat []).getD 11 0 == (B.getD (Int.ofNat j).toNat []).getD 11 0 && ((A.getD (Int.ofNat j).toNat []).getD 12 0 == (B.getD (Int.ofNat j).toNat []).getD 12 0 && (((A.getD (Int.ofNat j).toNat []).getD 13 0 != 0) == ((B.getD (Int.ofNat j).toNat []).getD 13 0 != 0) && ((A.getD (Int.ofNat j).toNat []).getD 14 0 == (B.getD (Int.ofNat j).toNat []).getD 14 0 && (((A.getD (Int.ofNat j).toNat []).getD 15 0 != 0) == ((B.getD (Int.ofNat j).toNat []).getD 15 0 != 0) && ((A.getD (Int.ofNat j).toNat []).getD 16 0 == (B.getD (Int.ofNat j).toNat []).getD 16 0 && ((A.getD (Int.ofNat j).toNat []).getD 17 0 == (B.getD (Int.ofNat j).toNat []).getD 17 0 && ((A.getD (Int.ofNat j).toNat []).getD 18 0 == (B.getD
 (Int.ofNat j).toNat []).getD 18 0 && ((A.getD (Int.ofNat j).toNat []).getD 19 0 == (B.getD (Int.ofNat j).toNat []).getD 19 0 && ((A.getD (Int.ofNat j).toNat []).getD 20 0 == (B.getD (Int.ofNat j).toNat []).getD 20 0 && ((A.getD (Int.ofNat j).toNat []).getD 21 0 != 0) == ((B.getD (Int.ofNat j).toNat []).getD 21 0 != 0))))))))))))))))))))))) = false → ((smF A B).next j 1 ≤ B.length ∧ B.length ≤ 1000000 ∧ List.take B.length A = B) ∧ (smF A B).μ ((smF A B).next j 1) < (smF A B).μ j ∧ (smF A B).fin ((smF A B).next j 1) = (smF A B).fin j ∧ Int.ofNat ((smF A B).next j 1) = IntKind.i64.wrap (Int.ofNat j + 1) ∧ B.length = B.length)]
theorem Jsn (A B:LL) (j:Nat) (hNeeds:∀ pN ∈ (JWG A B j),pN):Q4 (Xd (smF A B) (QX Tryz.prog (JC JBj) JYv 14 0) 12 j) :=
  Q4.of (ps := (JWG A B j)) (by kernel_rfl) (by kernel_rfl) hNeeds
theorem JoR (A B:LL):Qw (smF A B) (QX Tryz.prog (JC JBj) JYv 14 0) 12 := by
  rintro j ⟨h1,h2,hp⟩
  have hl:B.length ≤ A.length := by
    have := congrArg List.length hp
    rw [List.length_take] at this; omega
  have hj:j < B.length → A.getD j [] = B.getD j [] := fun h => by
    have h3:B.getD j [] = (A.take B.length).getD j [] := by rw [hp]
    rw [h3]
    simp [List.getD,List.getElem?_take,h]
  refine Jsn A B j fun q hq => ?_
  unfold JWG at hq
  simp only [List.mem_cons,List.not_mem_nil,or_false,JuK] at hq
  have e0:(Int.ofNat j).toNat = j := rfl
  simp only [e0] at hq
  rcases hq with rfl | rfl
  · intro h; simp at h ⊢; omega
  · intro h
    simp at h
    rw [hj (by omega)]
    refine ⟨fun h => by simp at h,fun _ => ?_⟩
    have e1:IntKind.i64.wrap (Int.ofNat j + 1) = Int.ofNat (j + 1) := X6 (by simp; omega) (by simp; omega)
    simp only [smF]
    exact ⟨⟨by omega,h2,hp⟩,by omega,trivial,e1.symm,trivial⟩
def JwZ:QE := fun env mem m => match SX.JD env 0 with
  | some ⟨_,_,_,.one (.sl _ _ _ _)⟩ => (match SX.JD mem 0,SX.JD mem 1 with
    | some (.row _ _ _ (.lst _ _ A)),some (.row _ _ _ (.lst _ _ B)) => jk (smF A B) 12 (fun _ _ => some 0) env mem m
    | _,_ => none)
  | _ => (match JN1 CKi env mem 0 with
    | some xs => jk (JIL xs) 12 (fun _ _ => some 0) env mem m
    | none => none)
def Ya:FuncId → Nat → Option QE := JA9 JYv 14 4 JwZ
theorem JIX:Known Tryz.prog (JC JBj) Ya := by
  refine Qe 0 JIy (by kernel_rfl) (Qv fun env mem m x h => ?_)
  unfold JwZ at h
  have hlen:(QW Tryz.prog 14).length = 1 := by kernel_rfl
  split at h
  · split at h
    · exact ⟨_,XG (Qc Zz JIy (by omega)) (JoR _ _),h⟩
    · cases h
  · split at h
    · exact ⟨_,XG (Qc Zz JIy (by omega)) (Jgo _),h⟩
    · cases h
def JFI:Tpl := ⟨[.one (.wh 0),.one (.wh 1)],[(0,.row false 40 22 2 CKi),(1,.row false 40 22 3 CKi)],4⟩
section
variable (xs ys:LL)
def Jn2:Bool:= !Int.ofNat xs.length != Int.ofNat ys.length
def JnG:LL:= bif Int.ofNat xs.length != Int.ofNat ys.length then ys else xs
def JDj:List Prop:= [(Int.ofNat xs.length != Int.ofNat ys.length) = false → (0 ≤ xs.length ∧ xs.length ≤ 1000000) ∧ Int.ofNat 0 = 0 ∧ xs = ys]
end
theorem Jlz {xs:LL} {ys:LL} (hW:∀ q ∈ ([xs = ys,xs.length ≤ 1000000]:List Prop),q):∀ q ∈ (JDj xs ys),q := by
  simp only [awc,awn,and_true] at hW
  intro q hq
  unfold JDj at hq
  simp only [List.mem_cons,List.not_mem_nil,or_false] at hq
  obtain ⟨rfl,h2⟩ := hW
  subst hq
  exact fun _ => ⟨⟨Nat.zero_le _,h2⟩,rfl,rfl⟩
theorem Jk5 (xs ys:LL) (hNeeds:∀ pN ∈ (JDj xs ys),pN):Runs (Jm (JC JBj) Ya 14) (JFI.args []) (JFI.memo [] [xs,ys]) JFI.n (SV.one (Cb (Jn2 xs ys))) ([(0,Obj.row false 40 22 (RowC.lst 2 jI xs)),(1,Obj.row false 40 22 (RowC.lst 23 jI (JnG xs ys)))]) :=
  Runs.of1 (ps := (JDj xs ys)) (by kernel_rfl) hNeeds
def JQW:List Pm → Qs → Option CRes
  | [],[xs,ys] => some ⟨SV.one (SC.bool (SB.c true)),[Kw 0 2 xs,Kw 1 23 xs],[xs = ys,xs.length ≤ 1000000],[],30⟩
  | _,_ => none
theorem JuF:Ql Tryz.prog 14 (JU JFI JQW) := by
  refine JI (JE JIX 14) fun ps ls r hr hn _ => ?_
  unfold JQW at hr
  split at hr
  · rename_i xs ys
    cases hr
    have h1:xs = ys := hn _ (by simp)
    have h2:xs.length ≤ 1000000 := hn _ (by simp)
    subst h1
    refine ⟨_,(Jk5 xs xs (Jlz (by simp [h2]))).to rfl ?_,fun θ => ?_⟩
    · simp only [jI,Cb,JnG,Kw,CKi]
      cases (Int.ofNat xs.length != Int.ofNat xs.length) <;> rfl
    · simp [SV.den,SC.den,SB.val,Cb,Jn2]
  · cases hr
theorem JuL (m:Nat) (xs ys:LL) (h:∀ p ∈ [(Int.ofNat m != Int.ofNat ys.length) = false → (0 ≤ ys.length ∧ ys.length ≤ 1000000 ∧ xs.take ys.length = ys) ∧ Int.ofNat 0 = 0 ∧ ys.length = m ∧ ys = ys],p) :
    Runs (Jm (JC JBj) Ya 14) [.one (.sl 0 22 (.c 0) (.v m)),.one (.wh 1)] [Kw 0 2 xs,Kw 1 3 ys] 4 (.one (.bool (.v (!(Int.ofNat m != Int.ofNat ys.length))))) [Kw 0 2 xs,Kw 1 23 (bif Int.ofNat m != Int.ofNat ys.length then ys else ys)] :=
  Runs.of1 (ps := _) (by kernel_rfl) h
def JxW:JY := fun vs mem n => match vs,mem,n with
  | [.one (.sl 0 22 (.c 0) (.v m)),.one (.wh 1)],[(0,.row false 40 22 (.lst 2 ks xs)),(1,.row false 40 22 (.lst 3 js ys))],4 =>
    bif WD ks CKi && WD js CKi then some ⟨.one (.bool (.c true)),[Kw 0 2 xs,Kw 1 23 ys],[m = ys.length,ys.length ≤ 1000000,xs.take ys.length = ys],[],30⟩ else none
  | _,_,_ => none
theorem Jvz:Ql Tryz.prog 14 JxW := by
  intro vs mem n r hr hn he hwf hids θ w hm
  unfold JxW at hr
  split at hr
  · rename_i m ks xs js ys
    cases hk:(WD ks CKi && WD js CKi)
    · rw [hk] at hr; cases hr
    rw [hk] at hr
    simp only [Bool.and_eq_true] at hk
    obtain rfl := K8 hk.1
    obtain rfl := K8 hk.2
    cases hr
    have h1:m = ys.length := hn _ (by simp)
    have h2:ys.length ≤ 1000000 := hn _ (by simp)
    have h3:xs.take ys.length = ys := hn _ (by simp)
    obtain ⟨r',q1,q2,q3,q4,q5⟩ := (JuL m xs ys (by simp [h1,h2,h3])).run
    have := JE JIX 14 _ _ _ r' q1 q2 q3 hwf hids θ w hm
    have e1:(Int.ofNat m != Int.ofNat ys.length) = false := by rw [h1]; simp
    rw [q4,q5,e1] at this
    exact this
  · cases hr
def Jr0:List (Nat × JY) := (14,orS (JU JFI JQW) JxW) :: JBj
theorem Jc5:Known Tryz.prog (JC Jr0) Ya := J7 JIX (JZa JuF Jvz)
def JGH:Tpl := ⟨[.one (.int .i64),.one (.int .i64)],[],0⟩
theorem Jmh (a b:Int):Runs (Jm (JC Jr0) Ya 110) (JGH.args [.i a,.i b]) (JGH.memo [.i a,.i b] []) JGH.n (SV.one (Ci (Qk a b))) ([]) :=
  Runs.of1 (ps := []) (by kernel_rfl) (by simp)
def JSe:List Pm → Qs → Option CRes
  | [.i a,.i b],[] => some ⟨SV.one (Ci (Qk a b)),
 [],[],[],17⟩
  | _,_ => none
theorem Jsy:Ql Tryz.prog 110 (JU JGH JSe) := by
  refine JI (JE Jc5 110) fun ps ls r hr hn _ => ?_
  unfold JSe at hr
  split at hr
  · cases hr; exact ⟨_,Jmh _ _,fun _ => rfl⟩
  · cases hr
def JdI:List (Nat × JY) := (110,JU JGH JSe) :: Jr0
theorem JTE:Known Tryz.prog (JC JdI) Ya := J7 Jc5 Jsy
def JOG:Tpl := ⟨[.one (.int .i64)],[],0⟩
theorem JsK (a:Int):Runs (Jm (JC JdI) Ya 140) (JOG.args [.i a]) (JOG.memo [.i a] []) JOG.n (SV.one (SC.int IntKind.u64 (SI.v (J6 a)))) ([]) :=
  Runs.of1 (ps := []) (by kernel_rfl) (by simp)
def JdO:List Pm → Qs → Option CRes
  | [.i a],[] => some ⟨SV.one (SC.int IntKind.u64 (SI.v (J6 a))),
 [],[],[],12⟩
  | _,_ => none
theorem Jwt:Ql Tryz.prog 140 (JU JOG JdO) := by
  refine JI (JE JTE 140) fun ps ls r hr hn _ => ?_
  unfold JdO at hr
  split at hr
  · cases hr; exact ⟨_,JsK _,fun _ => rfl⟩
  · cases hr
def JtH:List (Nat × JY) := (140,JU JOG JdO) :: JdI
theorem JcI:Known Tryz.prog (JC JtH) Ya := J7 JTE Jwt
def JFi:Tpl := ⟨[.agg [.int .i64,.int .i64],.agg [.int .i64,.int .i64]],[],0⟩
theorem JjL (a b c d:Int):Runs (Jm (JC JtH) Ya 79) (JFi.args [.i a,.i b,.i c,.i d]) (JFi.memo [.i a,.i b,.i c,.i d] []) JFi.n (SV.agg [Ci (J1 a c),Ci (J1 b d)]) ([]) :=
  Runs.of1 (ps := []) (by kernel_rfl) (by simp)
def JRI:List Pm → Qs → Option CRes
  | [.i a,.i b,.i c,.i d],[] => some ⟨SV.agg [Ci (J1 a c),Ci (J1 b d)],
 [],[],[],26⟩
  | _,_ => none
theorem Jsz:Ql Tryz.prog 79 (JU JFi JRI) := by
  refine JI (JE JcI 79) fun ps ls r hr hn _ => ?_
  unfold JRI at hr
  split at hr
  · cases hr; exact ⟨_,JjL _ _ _ _,fun _ => rfl⟩
  · cases hr
def JeJ:List (Nat × JY) := (79,JU JFi JRI) :: JtH
theorem JTQ:Known Tryz.prog (JC JeJ) Ya := J7 JcI Jsz
def JCg:Tpl := ⟨[.agg [.int .i64,.int .i64],.agg [.int .i64,.int .i64]],[],0⟩
theorem Jhm (a b c d:Int):Runs (Jm (JC JeJ) Ya 82) (JCg.args [.i a,.i b,.i c,.i d]) (JCg.memo [.i a,.i b,.i c,.i d] []) JCg.n (SV.one (Ci (JF a b c d))) ([]) :=
  Runs.of1 (ps := []) (by kernel_rfl) (by simp)
def JMi:List Pm → Qs → Option CRes
  | [.i a,.i b,.i c,.i d],[] => some ⟨SV.one (Ci (JF a b c d)),
 [],[],[],21⟩
  | _,_ => none
theorem Jof:Ql Tryz.prog 82 (JU JCg JMi) := by
  refine JI (JE JTQ 82) fun ps ls r hr hn _ => ?_
  unfold JMi at hr
  split at hr
  · cases hr; exact ⟨_,Jhm _ _ _ _,fun _ => rfl⟩
  · cases hr
def JXk:List (Nat × JY) := (82,JU JCg JMi) :: JeJ
theorem JNm:Known Tryz.prog (JC JXk) Ya := J7 JTQ Jof
def JCc:Tpl := ⟨[.agg [.int .i64,.int .i64],.agg [.int .i64,.int .i64]],[],0⟩
theorem Jin (a b c d:Int):Runs (Jm (JC JXk) Ya 80) (JCc.args [.i a,.i b,.i c,.i d]) (JCc.memo [.i a,.i b,.i c,.i d] []) JCc.n (SV.one (Ci (J8 a b c d))) ([]) :=
  Runs.of1 (ps := []) (by kernel_rfl) (by simp)
def JN7:List Pm → Qs → Option CRes
  | [.i a,.i b,.i c,.i d],[] => some ⟨SV.one (Ci (J8 a b c d)),
 [],[],[],21⟩
  | _,_ => none
theorem JpV:Ql Tryz.prog 80 (JU JCc JN7) := by
  refine JI (JE JNm 80) fun ps ls r hr hn _ => ?_
  unfold JN7 at hr
  split at hr
  · cases hr; exact ⟨_,Jin _ _ _ _,fun _ => rfl⟩
  · cases hr
def JFK:List (Nat × JY) := (80,JU JCc JN7) :: JXk
theorem JHS:Known Tryz.prog (JC JFK) Ya := J7 JNm JpV
def JBm (id tag:Nat) (xs:Dg):Nat × SX.Obj := (id,.row false 140 1 (.lst tag [.int .u64] xs))
def JSu (n:Int):Fam Nat Unit where
  k := 20
  E j := [(3,ent 1000000000 (.one (.wh 4))),(0,ent 1000000001 (.one (U (n / 65536 ^ j))))]
  M j := [JBm 4 1000000002 (j4 n j)]
  out _ := .leaf (.exit 0) [(3,ent 6 (.one (.wh 4)))] [JBm 4 7 (JB n)]
  fin _ := ()
  next j _ := j + 1
  J j := j ≤ nd n ∧ 0 ≤ n ∧ n < 18446744073709551616
  μ j := nd n - j
section
variable (n:Int) (j:Nat)
def Jb0:Int:= n / 65536 ^ j
def JmZ:Prop:= decide (Jb0 n j > 0) = true
def JPo:List Prop:= [JmZ n j → (List.length (j4 n j) + 1) * 8 ≤ 140737488355328 ∧ List.length (j4 n j) + 1 ≤ 9223372036854775807,JmZ n j → ((JSu n).next j 0 ≤ nd n ∧ 0 ≤ n ∧ n < 18446744073709551616) ∧ (JSu n).μ ((JSu n).next j 0) < (JSu n).μ j ∧ (JSu n).fin ((JSu n).next j 0) = (JSu n).fin j ∧ n / 65536 ^ (JSu n).next j 0 = JV BinOp.shr IntKind.u64 (Jb0 n j) 16 ∧ j4 n ((JSu n).next j 0) = j4 n j ++ [[Zg BinOp.and IntKind.u64 (Jb0 n j) 65535]],decide (Jb0 n j > 0) = false → JB n = j4 n j]
end
theorem JpQ (n:Int) (j:Nat) (hNeeds:∀ pN ∈ (JPo n j),pN):Q4 (Xd (JSu n) (QX Tryz.prog (JC JFK) Ya 139 0) 2 j) :=
  Q4.of (ps := (JPo n j)) (by kernel_rfl) (by kernel_rfl) hNeeds
theorem JZx (n:Int):Qw (JSu n) (QX Tryz.prog (JC JFK) Ya 139 0) 2 := by
  intro j hJ
  obtain ⟨h1,h2,h3⟩:j ≤ nd n ∧ 0 ≤ n ∧ n < 18446744073709551616 := hJ
  have h4 := (Y2 h2 h3 (j := 0) (by omega)).2
  have h5 := (Y2 h2 h3 (j := j) (by omega)).1
  obtain ⟨h6,h7⟩ := JvQ h2 h3 j
  have e:Jb0 n j = n / 65536 ^ j := rfl
  refine JpQ n j fun q hq => ?_
  unfold JPo at hq
  simp only [List.mem_cons,List.not_mem_nil,or_false] at hq
  rcases hq with rfl | rfl | rfl
  · intro _
    rw [KT]; omega
  · intro h
    have h:0 < n / 65536 ^ j := by simpa [JmZ,e] using h
    have h8 := h5.1 h
    refine ⟨⟨by show j + 1 ≤ nd n; omega,h2,h3⟩,by show nd n - (j + 1) < nd n - j; omega,trivial,?_,?_⟩
    · rw [e,JrI _ h6]; exact Jdn n j
    · rw [e,Ju9 _ h6 h7]; exact Jcs n j
  · intro h
    have h:¬ 0 < n / 65536 ^ j := by simpa [e] using h
    have:j = nd n := by
      rcases Nat.lt_or_ge j (nd n) with h8 | h8
      · exact absurd (h5.2 h8) h
      · omega
    rw [this]; rfl
def JwS:QE := fun env mem m => match SX.JD env 0 with
  | some ⟨_,_,_,.one (.int .u64 (.v n))⟩ => jk (JSu n) 2 (fun _ _ => some 0) env mem m
  | some ⟨_,_,_,.one (.int .u64 (.c n))⟩ => jk (JSu n) 2 (fun _ _ => some 0) env mem m
  | _ => none
def JUE:FuncId → Nat → Option QE := JA9 Ya 139 2 JwS
theorem JWT:Known Tryz.prog (JC JFK) JUE := by
  refine Qe 0 JHS (by kernel_rfl) (Qv fun env mem m x h => ?_)
  unfold JwS at h
  have hlen:(QW Tryz.prog 139).length = 1 := by kernel_rfl
  split at h
  · exact ⟨_,XG (Qc Zz JHS (by omega)) (JZx _),h⟩
  · exact ⟨_,XG (Qc Zz JHS (by omega)) (JZx _),h⟩
  · cases h
def JFx:Tpl := ⟨[.one (.int .u64)],[],0⟩
def JEK (n:Int):List Prop := [0 ≤ nd n ∧ 0 ≤ n ∧ n < 18446744073709551616,n / 1 = n,j4 n 0 = []]
theorem Jk3 {n:Int} (hW:∀ q ∈ ([0 ≤ n,n < 18446744073709551616]:List Prop),q):∀ q ∈ (JEK n),q := by
  simp only [awc,awn,and_true] at hW
  intro q hq
  unfold JEK at hq
  simp only [List.mem_cons,List.not_mem_nil,or_false] at hq
  obtain ⟨h1,h2⟩ := hW
  rcases hq with rfl | rfl | rfl
  · exact ⟨Nat.zero_le _,h1,h2⟩
  · simp
  · rfl
theorem Jk1 (n:Int) (hNeeds:∀ pN ∈ (JEK n),pN):Runs (Jm (JC JFK) JUE 139) (JFx.args [.i n]) (JFx.memo [.i n] []) JFx.n (SV.one (SC.wh 4)) ([(4,Obj.row false 140 1 (RowC.lst 7 [CK.int IntKind.u64] (JB n)))]) :=
  Runs.of1 (ps := (JEK n)) (by kernel_rfl) hNeeds
def JQl:List Pm → Qs → Option CRes
  | [.i n],[] => some ⟨SV.one (SC.wh 4),
 [(4,Obj.row false 140 1 (RowC.lst 7 [CK.int IntKind.u64] (JB n)))],[0 ≤ n,n < 18446744073709551616],[],24⟩
  | _,_ => none
theorem JtV:Ql Tryz.prog 139 (JU JFx JQl) := by
  refine JI (JE JWT 139) fun ps ls r hr hn _ => ?_
  unfold JQl at hr
  split at hr
  · cases hr; exact ⟨_,Jk1 _ (Jk3 (by exact hn)),fun _ => rfl⟩
  · cases hr
def JAd:List (Nat × JY) := (139,JU JFx JQl) :: JFK
theorem JIV:Known Tryz.prog (JC JAd) JUE := J7 JWT JtV
def JUp (xs:Dg):Fam Nat Unit where
  k := 20
  E j := [(0,ent 1000000000 (.one (.wh 5)))]
  M j := [JBm 5 1000000001 (xs.take j)]
  out _ := .leaf (.exit 0) [(0,ent 7 (.one (.wh 5)))] [JBm 5 8 (JGj xs)]
  fin _ := ()
  next j _ := j - 1
  J j := j ≤ xs.length ∧ JEX xs j = JEX xs xs.length ∧ xs.length ≤ 1000000
  μ j := j
section
variable (xs:Dg) (j:Nat)
def JNB:Bool:= decide (Int.ofNat (List.take j xs).length > 0)
def JDD:Int:= IntKind.i64.wrap (Int.ofNat (List.take j xs).length - 1)
def Jf0:Prop:= (JNB xs j && ((List.take j xs).getD (JDD xs j).toNat []).getD 0 0 == 0) = true
def JQy:List Prop:= [JNB xs j = true → 0 ≤ JDD xs j,JNB xs j = true → (JDD xs j).toNat < (List.take j xs).length,JNB xs j = true → (JDD xs j).toNat < (List.take j xs).length,Jf0 xs j → 0 ≤ JDD xs j ∧ (JDD xs j).toNat ≤ (List.take j xs).length,Jf0 xs j → ((JUp xs).next j 0 ≤ List.length xs ∧ JEX xs ((JUp xs).next j 0) = JEX xs (List.length xs) ∧ List.length xs ≤ 1000000) ∧ (JUp xs).μ ((JUp xs).next j 0) < (JUp xs).μ j ∧ (JUp xs).fin ((JUp xs).next j 0) = (JUp xs).fin j ∧ List.take ((JUp xs).next j 0) xs = List.take (JDD xs j).toNat (List.drop 0 (List.take j xs)),(JNB xs j && ((List.take j xs).getD (JDD xs j).toNat []).getD 0 0 == 0) = false → JGj xs = List.take j xs]
end
theorem JpT (xs:Dg) (j:Nat) (hNeeds:∀ pN ∈ (JQy xs j),pN):Q4 (Xd (JUp xs) (QX Tryz.prog (JC JAd) JUE 164 0) 3 j) :=
  Q4.of (ps := (JQy xs j)) (by kernel_rfl) (by kernel_rfl) hNeeds
theorem Jkz (xs:Dg):Qw (JUp xs) (QX Tryz.prog (JC JAd) JUE 164 0) 3 := by
  intro j hJ
  obtain ⟨h1,h2,h3⟩:j ≤ xs.length ∧ JEX xs j = JEX xs xs.length ∧ xs.length ≤ 1000000 := hJ
  have hl:(xs.take j).length = j := by rw [List.length_take]; omega
  have e0:JNB xs j = decide (0 < j) := by unfold JNB; rw [hl]; simp
  have e1:0 < j → JDD xs j = Int.ofNat (j - 1) := fun h => by
    unfold JDD
    rw [hl,X6 (by simp; omega) (by simp; omega)]
    simp; omega
  have e2:0 < j → ((xs.take j).getD (JDD xs j).toNat []).getD 0 0 = dg xs (j - 1) := fun h => by
    rw [e1 h]
    show dg (xs.take j) (j - 1) = _
    rw [Jez,if_pos (by omega)]
  have e3:0 < j → JEX xs j = bif dg xs (j - 1) == 0 then JEX xs (j - 1) else j := fun h => by
    obtain ⟨m,rfl⟩:∃ m,j = m + 1 := ⟨j - 1,by omega⟩
    rfl
  have e4:Jf0 xs j → 0 < j ∧ (dg xs (j - 1) == 0) = true := fun h => by
    unfold Jf0 at h
    rw [Bool.and_eq_true,e0,decide_eq_true_eq] at h
    rw [e2 h.1] at h
    exact h
  refine JpT xs j fun q hq => ?_
  unfold JQy at hq
  simp only [List.mem_cons,List.not_mem_nil,or_false] at hq
  rcases hq with rfl | rfl | rfl | rfl | rfl | rfl
  · intro h
    rw [e0,decide_eq_true_eq] at h
    rw [e1 h]; simp
  · intro h
    rw [e0,decide_eq_true_eq] at h
    rw [e1 h,hl]; simp; omega
  · intro h
    rw [e0,decide_eq_true_eq] at h
    rw [e1 h,hl]; simp; omega
  · intro h
    obtain ⟨h4,h5⟩ := e4 h
    rw [e1 h4,hl]; simp
  · intro h
    obtain ⟨h4,h5⟩ := e4 h
    refine ⟨⟨?_,?_,h3⟩,?_,trivial,?_⟩
    · show j - 1 ≤ _; omega
    · have := e3 h4
      rw [h5,cond_true] at this
      show JEX xs (j - 1) = _
      rw [← this,h2]
    · show j - 1 < j; omega
    · rw [e1 h4,List.drop_zero,List.take_take]
      show xs.take (j - 1) = xs.take (min (j - 1) j)
      rw [Nat.min_eq_left (by omega)]
  · intro h
    unfold JGj
    rw [← h2]
    rcases Nat.eq_zero_or_pos j with h4 | h4
    · subst h4; rfl
    · rw [e2 h4,e0,decide_eq_true h4,Bool.true_and] at h
      rw [e3 h4,h,cond_false]
def Jw3:QE := fun env mem m => match JN1 [.int .u64] env mem 0 with
  | some xs => jk (JUp xs) 3 (fun _ _ => some xs.length) env mem m
  | none => none
def Jwk:FuncId → Nat → Option QE := JA9 JUE 164 1 Jw3
theorem JmV:Known Tryz.prog (JC JAd) Jwk := by
  refine Qe 0 JIV (by kernel_rfl) (Qv fun env mem m x h => ?_)
  unfold Jw3 at h
  have hlen:(QW Tryz.prog 164).length = 1 := by kernel_rfl
  split at h
  · exact ⟨_,XG (Qc Zz JIV (by omega)) (Jkz _),h⟩
  · cases h
def Jhl (A B:Dg):Jn := [JBm 0 2 A,JBm 1 3 B]
def JI4 (A B:Dg):Fam Nat Int where
  k := 20
  E j := [(5,ent 1000000000 (.one (I (Int.ofNat j - 1)))),(0,ent 0 (.one (.wh 0))),(1,ent 2 (.one (.wh 1)))]
  M j := Jhl A B
  out t := .ite (decide (t < 0)) (.leaf .ret [(4,ent 24 (.one (.int .i64 (.c (-1)))))] (Jhl A B)) (.ite (decide (0 < t)) (.leaf .ret [(4,ent 25 (.one (.int .i64 (.c 1))))] (Jhl A B)) (.leaf (.exit 0) [] (Jhl A B)))
  fin j := JGi A B j
  next j _ := j - 1
  J j := j ≤ A.length ∧ A.length = B.length ∧ A.length ≤ 1000000
  μ j := j
section
variable (A B:Dg) (j:Nat)
def Jfz:Prop:= decide (Int.ofNat j - 1 ≥ 0) = true
def Jb9:Prop:= (Int.ofNat j - 1).toNat < List.length B
def JAA:Int:= (List.getD A (Int.ofNat j - 1).toNat []).getD 0 0
def Jl2:Prop:= decide (JAA A j < JAA B j) = false
def JXh:Prop:= decide ((JI4 A B).fin j < 0) = false
def Jf1:Prop:= decide (0 < (JI4 A B).fin j) = true
def JkX:Prop:= decide (0 < (JI4 A B).fin j) = false → False
def Jfp:Prop:= decide ((JI4 A B).fin j < 0) = true
def JSL:List Prop:= [Jfz j → 0 ≤ Int.ofNat j - 1 ∧ (Int.ofNat j - 1).toNat < List.length A ∧ (Int.ofNat j - 1).toNat < List.length A ∧ 0 ≤ Int.ofNat j - 1 ∧ Jb9 B j ∧ Jb9 B j ∧ (Jl2 A B j → 0 ≤ Int.ofNat j - 1 ∧ (Int.ofNat j - 1).toNat < List.length A ∧ (Int.ofNat j - 1).toNat < List.length A ∧ 0 ≤ Int.ofNat j - 1 ∧ Jb9 B j ∧ Jb9 B j),Jfz j → (decide (JAA A j < JAA B j) = true → JXh A B j → (Jf1 A B j → Int.ofNat 1 = -1) ∧ JkX A B j) ∧ (Jl2 A B j → (decide (JAA A j > JAA B j) = true → (Jfp A B j → -1 = 1) ∧ (JXh A B j → JkX A B j)) ∧ (decide (JAA A j > JAA B j) = false → ((JI4 A B).next j 2 ≤ List.length A ∧ List.length A = List.length B ∧ List.length A ≤ 1000000) ∧ (JI4 A B).μ ((JI4 A B).next j 2) < (JI4 A B).μ j ∧ (JI4 A B).fin ((JI4 A B).next j 2) = (JI4 A B).fin j ∧ Int.ofNat ((JI4 A B).next j 2) - 1 = IntKind.i64.wrap (Int.ofNat j - 1 - 1))),decide (Int.ofNat j - 1 ≥ 0) = false → (Jfp A B j → False) ∧ (JXh A B j → Jf1 A B j → False)]
end
theorem Jpv (A B:Dg) (j:Nat) (hNeeds:∀ pN ∈ (JSL A B j),pN):Q4 (Xd (JI4 A B) (QX Tryz.prog (JC JAd) JUE 111 0) 22 j) :=
  Q4.of (ps := (JSL A B j)) (by kernel_rfl) (by kernel_rfl) hNeeds
theorem Jio (A B:Dg):∀ j,JGi A B j = -1 ∨ JGi A B j = 0 ∨ JGi A B j = 1
  | 0 => .inr (.inl rfl)
  | j + 1 => by
    rw [JGi]
    cases decide (dg A j < dg B j)
    · rw [cond_false]
      cases decide (dg B j < dg A j)
      · rw [cond_false]; exact Jio A B j
      · exact .inr (.inr rfl)
    · exact .inl rfl
theorem Jk9 (A B:Dg):Qw (JI4 A B) (QX Tryz.prog (JC JAd) JUE 111 0) 22 := by
  intro j hJ
  obtain ⟨h1,h2,h3⟩:j ≤ A.length ∧ A.length = B.length ∧ A.length ≤ 1000000 := hJ
  refine Jpv A B j fun q hq => ?_
  unfold JSL at hq
  rcases Nat.eq_zero_or_pos j with h0 | h0
  · subst h0
    have e0:¬ Jfz 0 := by unfold Jfz; simp
    have e1:(JI4 A B).fin 0 = 0 := rfl
    simp only [List.mem_cons,List.not_mem_nil,or_false,JXh,Jf1,Jfp,e1] at hq
    rcases hq with rfl | rfl | rfl
    · intro h; exact absurd h e0
    · intro h; exact absurd h e0
    · intro _; simp
  · obtain ⟨m,rfl⟩:∃ m,j = m + 1 := ⟨j - 1,by omega⟩
    have e1:Int.ofNat (m + 1) - 1 = Int.ofNat m := by simp
    have e2:(Int.ofNat m).toNat = m := rfl
    have e3:JAA A (m + 1) = dg A m := by unfold JAA; rw [e1]; rfl
    have e4:JAA B (m + 1) = dg B m := by unfold JAA; rw [e1]; rfl
    have e5:(JI4 A B).fin (m + 1) = JGi A B (m + 1) := rfl
    have e6:0 ≤ Int.ofNat m := by simp
    have e7:IntKind.i64.wrap (Int.ofNat m - 1) = Int.ofNat m - 1 := X6 (by simp; omega) (by simp; omega)
    simp only [List.mem_cons,List.not_mem_nil,or_false,Jb9,Jl2,JXh,Jf1,JkX,Jfp,e1,e2,e3,e4,e5,e7] at hq
    rcases hq with rfl | rfl | rfl
    · intro _
      have h4:m < A.length := by omega
      have h5:m < B.length := by omega
      exact ⟨e6,h4,h4,e6,h5,h5,fun _ => ⟨e6,h4,h4,e6,h5,h5⟩⟩
    · intro _
      refine ⟨fun h => ?_,fun h => ⟨fun h4 => ?_,fun h4 => ⟨⟨?_,h2,h3⟩,?_,?_,?_⟩⟩⟩
      · have:JGi A B (m + 1) = -1 := by rw [JGi,h,cond_true]
        rw [this]
        intro h; simp at h
      · have h4:decide (dg B m < dg A m) = true := h4
        have:JGi A B (m + 1) = 1 := by rw [JGi,h,cond_false,h4,cond_true]
        rw [this]
        exact ⟨fun h => by simp at h,fun _ h => by simp at h⟩
      · show m ≤ _; omega
      · show m < m + 1; omega
      · have h4:decide (dg B m < dg A m) = false := h4
        show JGi A B m = JGi A B (m + 1)
        rw [JGi,h,cond_false,h4,cond_false]
      · rfl
    · intro h; simp at h
def JwU:QE := fun env mem m => match JN1 [.int .u64] env mem 0,JN1 [.int .u64] env mem 1 with
  | some A,some B => jk (JI4 A B) 22 (fun _ _ => some A.length) env mem m
  | _,_ => none
def JOI:FuncId → Nat → Option QE := JA9 Jwk 111 6 JwU
theorem JYo:Known Tryz.prog (JC JAd) JOI := by
  refine Qe 0 JmV (by kernel_rfl) (Qv fun env mem m x h => ?_)
  unfold JwU at h
  have hlen:(QW Tryz.prog 111).length = 1 := by kernel_rfl
  split at h
  · exact ⟨_,XG (Qc Zz JIV (by omega)) (Jk9 _ _),h⟩
  · cases h
def JJU:Tpl := ⟨[.one (.wh 0)],[(0,.row false 140 1 1 [.int .u64])],2⟩
def JI6 (xs:LL):List Prop := [xs.length ≤ xs.length ∧ JEX xs xs.length = JEX xs xs.length ∧ xs.length ≤ 1000000,List.take xs.length xs = xs]
theorem Jqa {xs:LL} (hW:∀ q ∈ ([xs.length ≤ 1000000]:List Prop),q):∀ q ∈ (JI6 xs),q := by
  simp only [awc,awn,and_true] at hW
  intro q hq
  unfold JI6 at hq
  simp only [List.mem_cons,List.not_mem_nil,or_false] at hq
  rcases hq with rfl | rfl
  · exact ⟨Nat.le_refl _,trivial,hW⟩
  · exact List.take_length
theorem Joe (xs:LL) (hNeeds:∀ pN ∈ (JI6 xs),pN):Runs (Jm (JC JAd) JOI 164) (JJU.args []) (JJU.memo [] [xs]) JJU.n (SV.one (SC.wh 5)) ([(5,Obj.row false 140 1 (RowC.lst 8 [CK.int IntKind.u64] (JGj xs)))]) :=
  Runs.of1 (ps := (JI6 xs)) (by kernel_rfl) hNeeds
def JVz:List Pm → Qs → Option CRes
  | [],[xs] => some ⟨SV.one (SC.wh 5),
 [(5,Obj.row false 140 1 (RowC.lst 8 [CK.int IntKind.u64] (JGj xs)))],[xs.length ≤ 1000000],[],25⟩
  | _,_ => none
theorem Jv1:Ql Tryz.prog 164 (JU JJU JVz) := by
  refine JI (JE JYo 164) fun ps ls r hr hn _ => ?_
  unfold JVz at hr
  split at hr
  · cases hr; exact ⟨_,Joe _ (Jqa (by exact hn)),fun _ => rfl⟩
  · cases hr
def JfO:List (Nat × JY) := (164,JU JJU JVz) :: JAd
theorem Ja9:Known Tryz.prog (JC JfO) JOI := J7 JYo Jv1
def zN:Tpl := ⟨[.one (.wh 0),.one (.wh 1)],[(0,.row false 140 1 2 [.int .u64]),(1,.row false 140 1 3 [.int .u64])],4⟩
def JlV (A B:LL):Int := bif Int.ofNat A.length != Int.ofNat B.length then bif decide (Int.ofNat A.length < Int.ofNat B.length) then -1 else 1 else bif decide ((JI4 A B).fin A.length < 0) then -1 else bif decide (0 < (JI4 A B).fin A.length) then 1 else 0
def JCa (A B:LL):List Prop := [(Int.ofNat A.length != Int.ofNat B.length) = false → (A.length ≤ A.length ∧ A.length = B.length ∧ A.length ≤ 1000000) ∧ Int.ofNat A.length - 1 = IntKind.i64.wrap (Int.ofNat A.length - 1)]
theorem Jnm (A B:LL):(JlV A B) = JF4 A B := by
  unfold JlV JF4
  show (bif _ then _ else bif decide (JGi A B A.length < 0) then (-1:Int) else bif decide (0 < JGi A B A.length) then 1 else 0) = _
  rcases Jio A B A.length with h | h | h <;> rw [h] <;> rfl
theorem JqW {A:LL} {B:LL} (hW:∀ q ∈ ([A.length ≤ 1000000]:List Prop),q):∀ q ∈ (JCa A B),q := by
  simp only [awc,awn,and_true] at hW
  intro q hq
  unfold JCa at hq
  simp only [List.mem_cons,List.not_mem_nil,or_false] at hq
  subst hq
  intro h
  simp at h
  exact ⟨⟨Nat.le_refl _,by omega,hW⟩,(X6 (by simp; omega) (by simp; omega)).symm⟩
theorem JpG (A B:LL) (hNeeds:∀ pN ∈ (JCa A B),pN):Runs (Jm (JC JfO) JOI 111) (zN.args []) (zN.memo [] [A,B]) zN.n (SV.one (Ci (JlV A B))) ([(0,Obj.row false 140 1 (RowC.lst 2 [CK.int IntKind.u64] A)),(1,Obj.row false 140 1 (RowC.lst 3 [CK.int IntKind.u64] B))]) :=
  Runs.of1 (ps := (JCa A B)) (by kernel_rfl) hNeeds
def Jb8:List Pm → Qs → Option CRes
  | [],[A,B] => some ⟨SV.one (Ci ((JF4 A B))),[(0,Obj.row false 140 1 (RowC.lst 2 [CK.int IntKind.u64] A)),(1,Obj.row false 140 1 (RowC.lst 3 [CK.int IntKind.u64] B))],[A.length ≤ 1000000],[],43⟩
  | _,_ => none
theorem Jh8 (A B:LL) (hNeeds:∀ pN ∈ (JCa A B),pN):Runs (Jm (JC JfO) JOI 111) (zN.args []) (zN.memo [] [A,B]) zN.n (SV.one (SC.int IntKind.i64 (SI.v ((JF4 A B)))))
    ([(0,Obj.row false 140 1 (RowC.lst 2 [CK.int IntKind.u64] A)),(1,Obj.row false 140 1 (RowC.lst 3 [CK.int IntKind.u64] B))]) :=
  (JpG A B hNeeds).to (by first | rfl | (simp only [Ci,Cb,jI,Jnm])) (by first | rfl | (simp only [Ci,Cb,jI,Jnm]))
theorem JvR:Ql Tryz.prog 111 (JU zN Jb8) := by
  refine JI (JE Ja9 111) fun ps ls r hr hn _ => ?_
  unfold Jb8 at hr
  split at hr
  · cases hr; exact ⟨_,Jh8 _ _ (JqW (by exact hn)),fun _ => rfl⟩
  · cases hr
def JIA:List (Nat × JY) := (111,JU zN Jb8) :: JfO
theorem JMy:Known Tryz.prog (JC JIA) JOI := J7 Ja9 JvR
def inF (A B O:Dg) (i:Nat):Fam Nat Unit where
  k := 20
  E k := [(8,ent 1000000000 (.one (I (Int.ofNat k)))),(7,ent 1000000001 (.one (U (Xq (dg A i) B O i k).2))),(6,ent 1000000002 (.one (I (Int.ofNat i)))),(5,ent 1000000003 (.one (.wh 42))),(0,ent 0 (.one (.wh 0))),(1,ent 2 (.one (.wh 1)))]
  M k := JBm 42 1000000004 (Xq (dg A i) B O i k).1 :: Jhl A B
  out _ := .leaf (.exit 2) [(7,ent 45 (.one (U (Xq (dg A i) B O i B.length).2))),(6,ent 46 (.one (I (Int.ofNat i)))),(5,ent 47 (.one (.wh 42))),(0,ent 0 (.one (.wh 0))),(1,ent 2 (.one (.wh 1)))] (JBm 42 48 (Xq (dg A i) B O i B.length).1 :: Jhl A B)
  fin _ := ()
  next k _ := k + 1
  J k := k ≤ B.length ∧ i < A.length ∧ jK A ∧ jK B ∧ jK O ∧ O.length = A.length + B.length ∧ A.length + B.length ≤ 1000000
  μ k := B.length - k
section
variable (A B O:Dg) (i k:Nat)
def JeF:Prop:= decide (Int.ofNat k < Int.ofNat (List.length B)) = true
def JSr:Prop:= (IntKind.i64.wrap (Int.ofNat i + Int.ofNat k)).toNat < List.length (Xq (dg A i) B O i k).fst
def Jdc:List Int:= List.getD (Xq (dg A i) B O i k).fst (IntKind.i64.wrap (Int.ofNat i + Int.ofNat k)).toNat []
def Jel:Int:= IntKind.u64.wrap (IntKind.u64.wrap ((Jdc A B O i k).getD 0 0 + IntKind.u64.wrap ((List.getD A (Int.ofNat i).toNat []).getD 0 0 * (List.getD B (Int.ofNat k).toNat []).getD 0 0)) + (Xq (dg A i) B O i k).snd)
end
def JQP (A:Dg) (B:Dg) (O:Dg) (i k:Nat):List Prop := [JeF B k → 0 ≤ IntKind.i64.wrap (Int.ofNat i + Int.ofNat k) ∧ JSr A B O i k ∧ JSr A B O i k ∧ 0 ≤ Int.ofNat i ∧ (Int.ofNat i).toNat < List.length A ∧ (Int.ofNat i).toNat < List.length A ∧ 0 ≤ Int.ofNat k ∧ (Int.ofNat k).toNat < List.length B ∧ (Int.ofNat k).toNat < List.length B ∧ 0 ≤ IntKind.i64.wrap (Int.ofNat i + Int.ofNat k) ∧ JSr A B O i k ∧ JSr A B O i k,JeF B k → ((inF A B O i).next k 0 ≤ List.length B ∧ i < List.length A ∧ (∀ (i:Nat),0 ≤ dg A i ∧ dg A i < 65536) ∧ (∀ (i:Nat),0 ≤ dg B i ∧ dg B i < 65536) ∧ (∀ (i:Nat),0 ≤ dg O i ∧ dg O i < 65536) ∧ List.length O = List.length A + List.length B ∧ List.length A + List.length B ≤ 1000000) ∧ (inF A B O i).μ ((inF A B O i).next k 0) < (inF A B O i).μ k ∧ (inF A B O i).fin ((inF A B O i).next k 0) = (inF A B O i).fin k ∧ Int.ofNat ((inF A B O i).next k 0) = IntKind.i64.wrap (Int.ofNat k + 1) ∧ (Xq (dg A i) B O i ((inF A B O i).next k 0)).snd = JV BinOp.shr IntKind.u64 (Jel A B O i k) 16 ∧ Int.ofNat i = Int.ofNat i ∧ (Xq (dg A i) B O i ((inF A B O i).next k 0)).fst = List.set (Xq (dg A i) B O i k).fst (IntKind.i64.wrap (Int.ofNat i + Int.ofNat k)).toNat (JM3 1 0 0 [Zg BinOp.and IntKind.u64 (Jel A B O i k) 65535] (Jdc A B O i k)),decide (Int.ofNat k < Int.ofNat (List.length B)) = false → (Xq (dg A i) B O i (List.length B)).snd = (Xq (dg A i) B O i k).snd ∧ Int.ofNat i = Int.ofNat i ∧ (Xq (dg A i) B O i (List.length B)).fst = (Xq (dg A i) B O i k).fst]
theorem Joz (A B O:Dg) (i k:Nat) (hNeeds:∀ pN ∈ (JQP A B O i k),pN):Q4 (Xd (inF A B O i) (QX Tryz.prog (JC JIA) JOI 138 1) 41 k) :=
  Q4.of (ps := (JQP A B O i k)) (by kernel_rfl) (by kernel_rfl) hNeeds
theorem JY6 (A B O:Dg) (i:Nat):Qw (inF A B O i) (QX Tryz.prog (JC JIA) JOI 138 1) 41 := by
  intro k hJ
  have hJ' := hJ
  obtain ⟨h1,h2,hA,hB,hO,h3,h4⟩:k ≤ B.length ∧ i < A.length ∧ jK A ∧ jK B ∧ jK O ∧ O.length = A.length + B.length ∧ A.length + B.length ≤ 1000000 := hJ
  have hl:List.length (Xq (dg A i) B O i k).fst = A.length + B.length := by rw [WQ,h3]
  refine Joz A B O i k fun q hq => ?_
  unfold JQP at hq
  simp only [List.mem_cons,List.not_mem_nil,or_false] at hq
  have ew:IntKind.i64.wrap (Int.ofNat i + Int.ofNat k) = Int.ofNat (i + k) := by rw [X6 (by simp; omega) (by simp; omega)]; simp
  have ew2:(IntKind.i64.wrap (Int.ofNat i + Int.ofNat k)).toNat = i + k := by rw [ew]; rfl
  have es:JeF B k → k < B.length := fun h => by simpa [JeF] using h
  have e2:Jdc A B O i k = (Xq (dg A i) B O i k).1.getD (i + k) [] := by unfold Jdc; rw [ew2]
  rcases hq with rfl | rfl | rfl
  · intro h
    have hk := es h
    have e1:JSr A B O i k := by unfold JSr; rw [ew2,hl]; omega
    have e0:0 ≤ IntKind.i64.wrap (Int.ofNat i + Int.ofNat k) := by rw [ew]; exact Int.natCast_nonneg _
    exact ⟨e0,e1,e1,by simp,h2,h2,by simp,hk,hk,e0,e1,e1⟩
  · intro h
    have hk := es h
    obtain ⟨hr,hc⟩ := JKh (i := i) (hA i) hB hO k (by omega)
    obtain ⟨d1,d2⟩ := hr (i + k)
    obtain ⟨p1,p2⟩ := JXP (hA i) (hB k)
    have e3:Jel A B O i k = dg (Xq (dg A i) B O i k).1 (i + k) + dg A i * dg B k + (Xq (dg A i) B O i k).2 := by
      unfold Jel
      rw [e2]
      show IntKind.u64.wrap (IntKind.u64.wrap (dg (Xq (dg A i) B O i k).1 (i + k) + IntKind.u64.wrap (dg A i * dg B k)) + _) = _
      rw [W2 p1 (by omega),W2 (x := _ + dg A i * dg B k) (by omega) (by omega),W2 (by omega) (by omega)]
    have e4:0 ≤ dg (Xq (dg A i) B O i k).1 (i + k) + dg A i * dg B k + (Xq (dg A i) B O i k).2 := by omega
    refine ⟨⟨hk,h2,hA,hB,hO,h3,h4⟩,?_,trivial,?_,?_,trivial,?_⟩
    · show B.length - (k + 1) < B.length - k; omega
    · rw [X6 (by simp; omega) (by simp; omega)]; rfl
    · rw [e3,JrI _ e4]; rfl
    · rw [e3,Ju9 _ e4 (by omega),ew2]; rfl
  · intro h
    have hk:k = B.length := by simp at h; omega
    subst hk
    exact ⟨rfl,trivial,rfl⟩
def JvZ:QE := fun env mem m => match JN1 [.int .u64] env mem 0,JN1 [.int .u64] env mem 1,JN1 [.int .u64] env mem 5,Wi env 6 with
  | some A,some B,some O,some i => jk (inF A B O i.toNat) 41 (fun _ _ => some 0) env mem m
  | _,_,_,_ => none
def JoF:FuncId → Nat → Option QE := JA9 JOI 138 7 JvZ
theorem JMn:Known Tryz.prog (JC JIA) JoF := by
  refine Qe 1 JMy (by kernel_rfl) (Qv fun env mem m x h => ?_)
  unfold JvZ at h
  have hlen:(QW Tryz.prog 138).length = 2 := by kernel_rfl
  split at h
  · exact ⟨_,XG (Qc Zz JMy (by omega)) (JY6 _ _ _ _),h⟩
  · cases h
def JUk (A B:Dg):Fam Nat Unit where
  k := 20
  E i := [(6,ent 1000000000 (.one (I (Int.ofNat i)))),(5,ent 1000000001 (.one (.wh 16))),(0,ent 0 (.one (.wh 0))),(1,ent 2 (.one (.wh 1)))]
  M i := JBm 16 1000000002 (Z0 A B i) :: Jhl A B
  out _ := .leaf (.exit 0) [(5,ent 18 (.one (.wh 16)))] (JBm 16 19 (Z0 A B A.length) :: Jhl A B)
  fin _ := ()
  next i _ := i + 1
  J i := i ≤ A.length ∧ jK A ∧ jK B ∧ A.length + B.length ≤ 1000000
  μ i := A.length - i
section
variable (A B:Dg) (i:Nat)
def JeI:Prop:= decide (Int.ofNat i < Int.ofNat (List.length A)) = true
def JuN:Prop:= List.length A + List.length B ≤ 1000000
def JH2:Int:= IntKind.i64.wrap (Int.ofNat (Int.ofNat i).toNat + Int.ofNat (List.length B))
def JSP:Prop:= (JH2 B i).toNat < List.length (Xq (dg A (Int.ofNat i).toNat) B (Z0 A B i) (Int.ofNat i).toNat (List.length B)).fst
def Jff:List Int:= List.getD (Xq (dg A (Int.ofNat i).toNat) B (Z0 A B i) (Int.ofNat i).toNat (List.length B)).fst (JH2 B i).toNat []
end
def JQM (A:Dg) (B:Dg) (i:Nat):List Prop := [JeI A i → (0 ≤ List.length B ∧ (Int.ofNat i).toNat < List.length A ∧ (∀ (i:Nat),0 ≤ dg A i ∧ dg A i < 65536) ∧ (∀ (i:Nat),0 ≤ dg B i ∧ dg B i < 65536) ∧ (∀ (i_1:Nat),0 ≤ dg (Z0 A B i) i_1 ∧ dg (Z0 A B i) i_1 < 65536) ∧ List.length (Z0 A B i) = List.length A + List.length B ∧ JuN A B) ∧ Int.ofNat 0 = 0 ∧ (Xq (dg A (Int.ofNat i).toNat) B (Z0 A B i) (Int.ofNat i).toNat 0).snd = 0 ∧ Int.ofNat (Int.ofNat i).toNat = Int.ofNat i ∧ (Xq (dg A (Int.ofNat i).toNat) B (Z0 A B i) (Int.ofNat i).toNat 0).fst = Z0 A B i ∧ 0 ≤ JH2 B i ∧ JSP A B i ∧ JSP A B i ∧ 0 ≤ JH2 B i ∧ JSP A B i ∧ JSP A B i,JeI A i → ((JUk A B).next i 0 ≤ List.length A ∧ (∀ (i:Nat),0 ≤ dg A i ∧ dg A i < 65536) ∧ (∀ (i:Nat),0 ≤ dg B i ∧ dg B i < 65536) ∧ JuN A B) ∧ (JUk A B).μ ((JUk A B).next i 0) < (JUk A B).μ i ∧ (JUk A B).fin ((JUk A B).next i 0) = (JUk A B).fin i ∧ Int.ofNat ((JUk A B).next i 0) = IntKind.i64.wrap (Int.ofNat (Int.ofNat i).toNat + 1) ∧ Z0 A B ((JUk A B).next i 0) = List.set (Xq (dg A (Int.ofNat i).toNat) B (Z0 A B i) (Int.ofNat i).toNat (List.length B)).fst (JH2 B i).toNat (JM3 1 0 0 [IntKind.u64.wrap ((Jff A B i).getD 0 0 + (Xq (dg A (Int.ofNat i).toNat) B (Z0 A B i) (Int.ofNat i).toNat (List.length B)).snd)] (Jff A B i)),decide (Int.ofNat i < Int.ofNat (List.length A)) = false → Z0 A B (List.length A) = Z0 A B i]
theorem Joo (A B:Dg) (i:Nat) (hNeeds:∀ pN ∈ (JQM A B i),pN):Q4 (Xd (JUk A B) (QX Tryz.prog (JC JIA) JoF 138 0) 15 i) :=
  Q4.of (ps := (JQM A B i)) (by kernel_rfl) (by kernel_rfl) hNeeds
theorem JW0 (A B:Dg):Qw (JUk A B) (QX Tryz.prog (JC JIA) JoF 138 0) 15 := by
  intro i hJ
  obtain ⟨h1,hA,hB,h4⟩:i ≤ A.length ∧ jK A ∧ jK B ∧ A.length + B.length ≤ 1000000 := hJ
  have e0:(Int.ofNat i).toNat = i := rfl
  have e1:JH2 B i = Int.ofNat (i + B.length) := by unfold JH2; rw [e0,X6 (by simp; omega) (by simp; omega)]; simp
  have e2:(JH2 B i).toNat = i + B.length := by rw [e1]; rfl
  have hl := Xf A B i
  have hn:List.length (Xq (dg A i) B (Z0 A B i) i B.length).fst = A.length + B.length := by rw [WQ,hl]
  have es:JeI A i → i < A.length := fun h => by simpa [JeI] using h
  have e3:Jff A B i = (Xq (dg A i) B (Z0 A B i) i B.length).1.getD (i + B.length) [] := by unfold Jff; rw [e2,e0]
  refine Joo A B i fun q hq => ?_
  unfold JQM at hq
  simp only [List.mem_cons,List.not_mem_nil,or_false,e0] at hq
  rcases hq with rfl | rfl | rfl
  · intro h
    have hi := es h
    have e4:JSP A B i := by unfold JSP; rw [e2,e0,hn]; omega
    have e5:0 ≤ JH2 B i := by rw [e1]; exact Int.natCast_nonneg _
    exact ⟨⟨Nat.zero_le _,hi,hA,hB,JCh hA hB i (by omega),hl,h4⟩,rfl,rfl,trivial,rfl,e5,e4,e4,e5,e4,e4⟩
  · intro h
    have hi := es h
    obtain ⟨hr,c1,c2⟩ := JKh (i := i) (hA i) hB (JCh hA hB i (by omega)) B.length (by omega)
    obtain ⟨d1,d2⟩ := hr (i + B.length)
    refine ⟨⟨hi,hA,hB,h4⟩,?_,trivial,?_,?_⟩
    · show A.length - (i + 1) < A.length - i; omega
    · rw [X6 (by simp; omega) (by simp; omega)]; rfl
    · rw [e2,e3]
      have:IntKind.u64.wrap (dg (Xq (dg A i) B (Z0 A B i) i B.length).1 (i + B.length) + (Xq (dg A i) B (Z0 A B i) i B.length).2) = dg (Xq (dg A i) B (Z0 A B i) i B.length).1 (i + B.length) + (Xq (dg A i) B (Z0 A B i) i B.length).2 := W2 (by omega) (by omega)
      show _ = List.set _ _ [IntKind.u64.wrap (dg (Xq (dg A i) B (Z0 A B i) i B.length).1 (i + B.length) + (Xq (dg A i) B (Z0 A B i) i B.length).2)]
      rw [this]; rfl
  · intro h
    have:i = A.length := by simp at h; omega
    rw [this]
def JnY:QE := fun env mem m => match JN1 [.int .u64] env mem 0,JN1 [.int .u64] env mem 1 with
  | some A,some B => jk (JUk A B) 15 (fun _ _ => some 0) env mem m
  | _,_ => none
def JLY:FuncId → Nat → Option QE := JA9 JoF 138 3 JnY
theorem Jar:Known Tryz.prog (JC JIA) JLY := by
  refine Qe 0 JMn (by kernel_rfl) (Qv fun env mem m x h => ?_)
  unfold JnY at h
  have hlen:(QW Tryz.prog 138).length = 2 := by kernel_rfl
  split at h
  · exact ⟨_,XG (Qc Zz JMn (by omega)) (JW0 _ _),h⟩
  · cases h
def JGA:Tpl := ⟨[.one (.wh 0),.one (.wh 1)],[(0,.row false 140 1 2 [.int .u64]),(1,.row false 140 1 3 [.int .u64])],4⟩
def Jb (A B:LL):Dg := JGj (Z0 A B A.length)
def JII (A B:LL):Int := IntKind.i64.wrap (Int.ofNat A.length + Int.ofNat B.length)
def JHO (A B:LL):List Prop := [0 ≤ JII A B,((JII A B).toNat + 0) * 8 ≤ 140737488355328,(JII A B).toNat + 0 ≤ 9223372036854775807,0 ≤ A.length ∧ (∀ (i:Nat),0 ≤ dg A i ∧ dg A i < 65536) ∧ (∀ (i:Nat),0 ≤ dg B i ∧ dg B i < 65536) ∧ A.length + B.length ≤ 1000000,Int.ofNat 0 = 0,Z0 A B 0 = List.replicate (JII A B).toNat [0],List.length (Z0 A B A.length) ≤ 1000000]
theorem JpC {A:LL} {B:LL} (hW:∀ q ∈ ([jK A,jK B,A.length + B.length ≤ 1000000]:List Prop),q):∀ q ∈ (JHO A B),q := by
  simp only [awc,awn,and_true] at hW
  intro q hq
  unfold JHO at hq
  simp only [List.mem_cons,List.not_mem_nil,or_false] at hq
  obtain ⟨hA,hB,h⟩ := hW
  have e:JII A B = Int.ofNat (A.length + B.length) := by unfold JII; rw [X6 (by simp; omega) (by simp; omega)]; simp
  have e2:(JII A B).toNat = A.length + B.length := by rw [e]; rfl
  rcases hq with rfl | rfl | rfl | rfl | rfl | rfl | rfl
  · rw [e]; exact Int.natCast_nonneg _
  · rw [e2]; omega
  · rw [e2]; omega
  · exact ⟨Nat.zero_le _,hA,hB,h⟩
  · rfl
  · rw [e2]; rfl
  · rw [Xf]; exact h
def Jn5 (A B:LL):Jn := [(41,Obj.row false 140 1 (RowC.lst 44 [CK.int IntKind.u64] (Jb A B))),(0,Obj.row false 140 1 (RowC.lst 2 [CK.int IntKind.u64] A)),(1,Obj.row false 140 1 (RowC.lst 3 [CK.int IntKind.u64] B))]
theorem Jpz (A B:LL) (hNeeds:∀ pN ∈ (JHO A B),pN):Runs (Jm (JC JIA) JLY 138) (JGA.args []) (JGA.memo [] [A,B]) JGA.n (SV.one (SC.wh 41)) (Jn5 A B) :=
  Runs.of1 (ps := (JHO A B)) (by kernel_rfl) hNeeds
def JNk:List Pm → Qs → Option CRes
  | [],[A,B] => some ⟨SV.one (SC.wh 41),
 Jn5 A B,[jK A,jK B,A.length + B.length ≤ 1000000],[],63⟩
  | _,_ => none
theorem Jnq:Ql Tryz.prog 138 (JU JGA JNk) := by
  refine JI (JE Jar 138) fun ps ls r hr hn _ => ?_
  unfold JNk at hr
  split at hr
  · cases hr; exact ⟨_,Jpz _ _ (JpC (by exact hn)),fun _ => rfl⟩
  · cases hr
def JmY:List (Nat × JY) := (138,JU JGA JNk) :: JIA
theorem JWg:Known Tryz.prog (JC JmY) JLY := J7 Jar Jnq
def JEs:Tpl := ⟨[.one (.int .i64),.one (.int .i64)],[],0⟩
def JDb (a b:Int):List Prop := [0 ≤ J6 a,J6 a < 18446744073709551616,0 ≤ J6 b,J6 b < 18446744073709551616,∀ (i:Nat),0 ≤ dg (JB (J6 a)) i ∧ dg (JB (J6 a)) i < 65536,∀ (i:Nat),0 ≤ dg (JB (J6 b)) i ∧ dg (JB (J6 b)) i < 65536,List.length (JB (J6 a)) + List.length (JB (J6 b)) ≤ 1000000]
theorem JkF {a:Int} {b:Int} (hW:∀ q ∈ ([Xa a,Xa b]:List Prop),q):∀ q ∈ (JDb a b),q := by
  simp only [awc,awn,and_true] at hW
  intro q hq
  unfold JDb at hq
  simp only [List.mem_cons,List.not_mem_nil,or_false] at hq
  obtain ⟨ha,hb⟩ := hW
  obtain ⟨a1,a2⟩ := Qt ha
  obtain ⟨b1,b2⟩ := Qt hb
  have la:(JB (J6 a)).length ≤ 4 := by rw [JB,KT]; exact (Y2 a1 a2 (j := 0) (by omega)).2
  have lb:(JB (J6 b)).length ≤ 4 := by rw [JB,KT]; exact (Y2 b1 b2 (j := 0) (by omega)).2
  rcases hq with rfl | rfl | rfl | rfl | rfl | rfl | rfl
  · exact a1
  · exact a2
  · exact b1
  · exact b2
  · exact Kn _ _
  · exact Kn _ _
  · omega
theorem JlC (a b:Int) (hNeeds:∀ pN ∈ (JDb a b),pN):Runs (Jm (JC JmY) JLY 112) (JEs.args [.i a,.i b]) (JEs.memo [.i a,.i b] []) JEs.n (SV.one (SC.wh 120)) ([(120,Obj.row false 140 1 (RowC.lst 123 [CK.int IntKind.u64] (Jb (JB (J6 a)) (JB (J6 b)))))]) :=
  Runs.of1 (ps := (JDb a b)) (by kernel_rfl) hNeeds
def JSN:List Pm → Qs → Option CRes
  | [.i a,.i b],[] => some ⟨SV.one (SC.wh 120),
 [(120,Obj.row false 140 1 (RowC.lst 123 [CK.int IntKind.u64] (Jb (JB (J6 a)) (JB (J6 b)))))],[Xa a,Xa b],[],144⟩
  | _,_ => none
theorem JsP:Ql Tryz.prog 112 (JU JEs JSN) := by
  refine JI (JE JWg 112) fun ps ls r hr hn _ => ?_
  unfold JSN at hr
  split at hr
  · cases hr; exact ⟨_,JlC _ _ (JkF (by exact hn)),fun _ => rfl⟩
  · cases hr
def JeK:List (Nat × JY) := (112,JU JEs JSN) :: JmY
theorem JT8:Known Tryz.prog (JC JeK) JLY := J7 JWg JsP
def JIv:Tpl := ⟨[.one (.int .i64),.one (.int .i64),.one (.int .i64),.one (.int .i64)],[],0⟩
def JHK (a b c d:Int):Int := bif decide (Qk a b < Qk c d) then -1 else bif decide (Qk a b > Qk c d) then 1 else IntKind.i64.wrap (Qk a b * JF4 (Jb (JB (J6 a)) (JB (J6 b))) (Jb (JB (J6 c)) (JB (J6 d))))
def JHg (a b c d:Int):List Prop := [decide (Qk a b < Qk c d) = false → decide (Qk a b > Qk c d) = false → (-9223372036854775808 ≤ a ∧ a < 9223372036854775808) ∧ (-9223372036854775808 ≤ b ∧ b < 9223372036854775808) ∧ (-9223372036854775808 ≤ c ∧ c < 9223372036854775808) ∧ (-9223372036854775808 ≤ d ∧ d < 9223372036854775808) ∧ List.length (Jb (JB (J6 a)) (JB (J6 b))) ≤ 1000000]
theorem JdG (a b c d:Int) (ha:Xa a) (hb:Xa b) (hc:Xa c) (hd:Xa d):(JHK a b c d) = KC (a * b) (c * d) := by
  unfold JHK
  obtain ⟨x1,x2,x3⟩ := JCi (Qt ha) (Qt hb)
  obtain ⟨y1,y2,y3⟩ := JCi (Qt hc) (Qt hd)
  have h0 := JOa x1 y1 x2 y2
  rw [x3,y3] at h0
  unfold Jaq at h0
  unfold Jb
  rw [h0,Xu a ha,Xu b hb,Xu c hc,Xu d hd]
  have s1 := JKH a b
  have s2 := JKH c d
  generalize (if a < 0 then -a else a) * (if b < 0 then -b else b) = X at *
  generalize (if c < 0 then -c else c) * (if d < 0 then -d else d) = Y at *
  generalize a * b = P at *
  generalize c * d = Q at *
  have w:∀ x:Int,-1 ≤ x ∧ x ≤ 1 → IntKind.i64.wrap x = x := fun x h => X6 (by omega) (by omega)
  have hcm:KC X Y = -1 ∧ X < Y ∨ KC X Y = 0 ∧ X = Y ∨ KC X Y = 1 ∧ Y < X := by unfold KC; (repeat' split) <;> omega
  have hcp:KC P Q = -1 ∧ P < Q ∨ KC P Q = 0 ∧ P = Q ∨ KC P Q = 1 ∧ Q < P := by unfold KC; (repeat' split) <;> omega
  clear h0
  generalize KC X Y = m at *
  generalize KC P Q = n at *
  rcases s1 with ⟨e1,p1⟩ | ⟨e1,p1,q1⟩ | ⟨e1,p1,q1⟩ <;> rcases s2 with ⟨e2,p2⟩ | ⟨e2,p2,q2⟩ | ⟨e2,p2,q2⟩ <;> rw [e1,e2]
  · show IntKind.i64.wrap (0 * m) = n; rw [w _ (by omega)]; omega
  · show (-1:Int) = n; omega
  · show (1:Int) = n; omega
  · show (1:Int) = n; omega
  · show IntKind.i64.wrap (1 * m) = n; rw [w _ (by omega)]; omega
  · show (1:Int) = n; omega
  · show (-1:Int) = n; omega
  · show (-1:Int) = n; omega
  · show IntKind.i64.wrap (-1 * m) = n; rw [w _ (by omega)]; omega
theorem Jq9 {a:Int} {b:Int} {c:Int} {d:Int} (hW:∀ q ∈ ([Xa a,Xa b,Xa c,Xa d]:List Prop),q):∀ q ∈ (JHg a b c d),q := by
  simp only [awc,awn,and_true] at hW
  intro q hq
  unfold JHg at hq
  simp only [List.mem_cons,List.not_mem_nil,or_false] at hq
  obtain ⟨ha,hb,hc,hd⟩ := hW
  subst hq
  intro _ _
  refine ⟨ha,hb,hc,hd,?_⟩
  obtain ⟨a1,a2⟩ := Qt ha
  obtain ⟨b1,b2⟩ := Qt hb
  have la:(JB (J6 a)).length ≤ 4 := by rw [JB,KT]; exact (Y2 a1 a2 (j := 0) (by omega)).2
  have lb:(JB (J6 b)).length ≤ 4 := by rw [JB,KT]; exact (Y2 b1 b2 (j := 0) (by omega)).2
  unfold Jb
  rw [JIb]
  have := JLJ (Z0 (JB (J6 a)) (JB (J6 b)) (JB (J6 a)).length) (Z0 (JB (J6 a)) (JB (J6 b)) (JB (J6 a)).length).length
  rw [Xf] at this
  rw [Xf]
  omega
theorem JqA (a b c d:Int) (hNeeds:∀ pN ∈ (JHg a b c d),pN):Runs (Jm (JC JeK) JLY 81) (JIv.args [.i a,.i b,.i c,.i d]) (JIv.memo [.i a,.i b,.i c,.i d] []) JIv.n (SV.one (Ci (JHK a b c d))) ([]) :=
  Runs.of1 (ps := (JHg a b c d)) (by kernel_rfl) hNeeds
def JX5:List Pm → Qs → Option CRes
  | [.i a,.i b,.i c,.i d],[] => some ⟨SV.one (Ci (JHK a b c d)),
 [],[Xa a,Xa b,Xa c,Xa d],[],394⟩
  | _,_ => none
theorem JvD:Ql Tryz.prog 81 (JU JIv JX5) := by
  refine JI (JE JT8 81) fun ps ls r hr hn _ => ?_
  unfold JX5 at hr
  split at hr
  · cases hr; exact ⟨_,JqA _ _ _ _ (Jq9 (by exact hn)),fun _ => rfl⟩
  · cases hr
def JID:List (Nat × JY) := (81,JU JIv JX5) :: JeK
theorem JXq:Known Tryz.prog (JC JID) JLY := J7 JT8 JvD
def JQ6 (A O:Dg) (i:Nat):Fam Nat Unit where
  k := 20
  E k := [(8,ent 1000000000 (.one (I (Int.ofNat k)))),(7,ent 1000000001 (.one (U (Xq (dg A i) A O i k).2))),(6,ent 1000000002 (.one (I (Int.ofNat i)))),(5,ent 1000000003 (.one (.wh 40))),(0,ent 0 (.one (.wh 0))),(1,ent 2 (.one (.wh 0)))]
  M k := [JBm 40 1000000004 (Xq (dg A i) A O i k).1,JBm 0 1 A]
  out _ := .leaf (.exit 2) [(7,ent 43 (.one (U (Xq (dg A i) A O i A.length).2))),(6,ent 44 (.one (I (Int.ofNat i)))),(5,ent 45 (.one (.wh 40))),(0,ent 0 (.one (.wh 0))),(1,ent 2 (.one (.wh 0)))] [JBm 40 46 (Xq (dg A i) A O i A.length).1,JBm 0 1 A]
  fin _ := ()
  next k _ := k + 1
  J k := k ≤ A.length ∧ i < A.length ∧ jK A ∧ jK O ∧ O.length = A.length + A.length ∧ A.length + A.length ≤ 1000000
  μ k := A.length - k
section
variable (A O:Dg) (i k:Nat)
def JdR:Prop:= decide (Int.ofNat k < Int.ofNat (List.length A)) = true
def JRf:Prop:= (IntKind.i64.wrap (Int.ofNat i + Int.ofNat k)).toNat < List.length (Xq (dg A i) A O i k).fst
def Jeg:List Int:= List.getD (Xq (dg A i) A O i k).fst (IntKind.i64.wrap (Int.ofNat i + Int.ofNat k)).toNat []
def Jfd:Int:= IntKind.u64.wrap (IntKind.u64.wrap ((Jeg A O i k).getD 0 0 + IntKind.u64.wrap ((List.getD A (Int.ofNat i).toNat []).getD 0 0 * (List.getD A (Int.ofNat k).toNat []).getD 0 0)) + (Xq (dg A i) A O i k).snd)
end
def JRX (A:Dg) (O:Dg) (i k:Nat):List Prop := [JdR A k → 0 ≤ IntKind.i64.wrap (Int.ofNat i + Int.ofNat k) ∧ JRf A O i k ∧ JRf A O i k ∧ 0 ≤ Int.ofNat i ∧ (Int.ofNat i).toNat < List.length A ∧ (Int.ofNat i).toNat < List.length A ∧ 0 ≤ Int.ofNat k ∧ (Int.ofNat k).toNat < List.length A ∧ (Int.ofNat k).toNat < List.length A ∧ 0 ≤ IntKind.i64.wrap (Int.ofNat i + Int.ofNat k) ∧ JRf A O i k ∧ JRf A O i k,JdR A k → ((JQ6 A O i).next k 0 ≤ List.length A ∧ i < List.length A ∧ (∀ (i:Nat),0 ≤ dg A i ∧ dg A i < 65536) ∧ (∀ (i:Nat),0 ≤ dg O i ∧ dg O i < 65536) ∧ List.length O = List.length A + List.length A ∧ List.length A + List.length A ≤ 1000000) ∧ (JQ6 A O i).μ ((JQ6 A O i).next k 0) < (JQ6 A O i).μ k ∧ (JQ6 A O i).fin ((JQ6 A O i).next k 0) = (JQ6 A O i).fin k ∧ Int.ofNat ((JQ6 A O i).next k 0) = IntKind.i64.wrap (Int.ofNat k + 1) ∧ (Xq (dg A i) A O i ((JQ6 A O i).next k 0)).snd = JV BinOp.shr IntKind.u64 (Jfd A O i k) 16 ∧ Int.ofNat i = Int.ofNat i ∧ (Xq (dg A i) A O i ((JQ6 A O i).next k 0)).fst = List.set (Xq (dg A i) A O i k).fst (IntKind.i64.wrap (Int.ofNat i + Int.ofNat k)).toNat (JM3 1 0 0 [Zg BinOp.and IntKind.u64 (Jfd A O i k) 65535] (Jeg A O i k)),decide (Int.ofNat k < Int.ofNat (List.length A)) = false → (Xq (dg A i) A O i (List.length A)).snd = (Xq (dg A i) A O i k).snd ∧ Int.ofNat i = Int.ofNat i ∧ (Xq (dg A i) A O i (List.length A)).fst = (Xq (dg A i) A O i k).fst]
theorem Jpw (A O:Dg) (i k:Nat) (hNeeds:∀ pN ∈ (JRX A O i k),pN):Q4 (Xd (JQ6 A O i) (QX Tryz.prog (JC JID) JLY 138 1) 39 k) :=
  Q4.of (ps := (JRX A O i k)) (by kernel_rfl) (by kernel_rfl) hNeeds
theorem JkY (A O:Dg) (i:Nat):Qw (JQ6 A O i) (QX Tryz.prog (JC JID) JLY 138 1) 39 := by
  intro k hJ
  have hJ' := hJ
  obtain ⟨h1,h2,hA,hO,h3,h4⟩:k ≤ A.length ∧ i < A.length ∧ jK A ∧ jK O ∧ O.length = A.length + A.length ∧ A.length + A.length ≤ 1000000 := hJ
  have hl:List.length (Xq (dg A i) A O i k).fst = A.length + A.length := by rw [WQ,h3]
  refine Jpw A O i k fun q hq => ?_
  unfold JRX at hq
  simp only [List.mem_cons,List.not_mem_nil,or_false] at hq
  have ew:IntKind.i64.wrap (Int.ofNat i + Int.ofNat k) = Int.ofNat (i + k) := by rw [X6 (by simp; omega) (by simp; omega)]; simp
  have ew2:(IntKind.i64.wrap (Int.ofNat i + Int.ofNat k)).toNat = i + k := by rw [ew]; rfl
  have es:JdR A k → k < A.length := fun h => by simpa [JdR] using h
  have e2:Jeg A O i k = (Xq (dg A i) A O i k).1.getD (i + k) [] := by unfold Jeg; rw [ew2]
  rcases hq with rfl | rfl | rfl
  · intro h
    have hk := es h
    have e1:JRf A O i k := by unfold JRf; rw [ew2,hl]; omega
    have e0:0 ≤ IntKind.i64.wrap (Int.ofNat i + Int.ofNat k) := by rw [ew]; exact Int.natCast_nonneg _
    exact ⟨e0,e1,e1,by simp,h2,h2,by simp,hk,hk,e0,e1,e1⟩
  · intro h
    have hk := es h
    obtain ⟨hr,hc⟩ := JKh (i := i) (hA i) hA hO k (by omega)
    obtain ⟨d1,d2⟩ := hr (i + k)
    obtain ⟨p1,p2⟩ := JXP (hA i) (hA k)
    have e3:Jfd A O i k = dg (Xq (dg A i) A O i k).1 (i + k) + dg A i * dg A k + (Xq (dg A i) A O i k).2 := by
      unfold Jfd
      rw [e2]
      show IntKind.u64.wrap (IntKind.u64.wrap (dg (Xq (dg A i) A O i k).1 (i + k) + IntKind.u64.wrap (dg A i * dg A k)) + _) = _
      rw [W2 p1 (by omega),W2 (x := _ + dg A i * dg A k) (by omega) (by omega),W2 (by omega) (by omega)]
    have e4:0 ≤ dg (Xq (dg A i) A O i k).1 (i + k) + dg A i * dg A k + (Xq (dg A i) A O i k).2 := by omega
    refine ⟨⟨hk,h2,hA,hO,h3,h4⟩,?_,trivial,?_,?_,trivial,?_⟩
    · show A.length - (k + 1) < A.length - k; omega
    · rw [X6 (by simp; omega) (by simp; omega)]; rfl
    · rw [e3,JrI _ e4]; rfl
    · rw [e3,Ju9 _ e4 (by omega),ew2]; rfl
  · intro h
    have hk:k = A.length := by simp at h; omega
    subst hk
    exact ⟨rfl,trivial,rfl⟩
def Jxz:QE := fun env mem m => match JvZ env mem m with
  | some x => some x
  | none => (match JN1 [.int .u64] env mem 0,JN1 [.int .u64] env mem 5,Wi env 6 with
    | some A,some O,some i => jk (JQ6 A O i.toNat) 39 (fun _ _ => some 0) env mem m
    | _,_,_ => none)
def Jnd:FuncId → Nat → Option QE := JA9 JLY 138 7 Jxz
theorem JaI:Known Tryz.prog (JC JID) Jnd := by
  refine Qe 1 JXq (by kernel_rfl) (Qv fun env mem m x h => ?_)
  unfold Jxz at h
  have hlen:(QW Tryz.prog 138).length = 2 := by kernel_rfl
  split at h
  · rename_i h1
    cases h
    unfold JvZ at h1
    split at h1
    · exact ⟨_,XG (Qc Zz JMy (by omega)) (JY6 _ _ _ _),h1⟩
    · cases h1
  · split at h
    · exact ⟨_,XG (Qc Zz JXq (by omega)) (JkY _ _ _),h⟩
    · cases h
def JIM (A:Dg):Fam Nat Unit where
  k := 20
  E i := [(6,ent 1000000000 (.one (I (Int.ofNat i)))),(5,ent 1000000001 (.one (.wh 14))),(0,ent 0 (.one (.wh 0))),(1,ent 2 (.one (.wh 0)))]
  M i := [JBm 14 1000000002 (Z0 A A i),JBm 0 1 A]
  out _ := .leaf (.exit 0) [(5,ent 16 (.one (.wh 14)))] [JBm 14 17 (Z0 A A A.length),JBm 0 1 A]
  fin _ := ()
  next i _ := i + 1
  J i := i ≤ A.length ∧ jK A ∧ A.length + A.length ≤ 1000000
  μ i := A.length - i
section
variable (A:Dg) (i:Nat)
def JdM:Prop:= decide (Int.ofNat i < Int.ofNat (List.length A)) = true
def Jt8:Prop:= List.length A + List.length A ≤ 1000000
def JHb:Int:= IntKind.i64.wrap (Int.ofNat (Int.ofNat i).toNat + Int.ofNat (List.length A))
def JSq:Prop:= (JHb A i).toNat < List.length (Xq (dg A (Int.ofNat i).toNat) A (Z0 A A i) (Int.ofNat i).toNat (List.length A)).fst
def Jfc:List Int:= List.getD (Xq (dg A (Int.ofNat i).toNat) A (Z0 A A i) (Int.ofNat i).toNat (List.length A)).fst (JHb A i).toNat []
end
def JRM (A:Dg) (i:Nat):List Prop := [JdM A i → (0 ≤ List.length A ∧ (Int.ofNat i).toNat < List.length A ∧ (∀ (i:Nat),0 ≤ dg A i ∧ dg A i < 65536) ∧ (∀ (i_1:Nat),0 ≤ dg (Z0 A A i) i_1 ∧ dg (Z0 A A i) i_1 < 65536) ∧ List.length (Z0 A A i) = List.length A + List.length A ∧ Jt8 A) ∧ Int.ofNat 0 = 0 ∧ (Xq (dg A (Int.ofNat i).toNat) A (Z0 A A i) (Int.ofNat i).toNat 0).snd = 0 ∧ Int.ofNat (Int.ofNat i).toNat = Int.ofNat i ∧ (Xq (dg A (Int.ofNat i).toNat) A (Z0 A A i) (Int.ofNat i).toNat 0).fst = Z0 A A i ∧ 0 ≤ JHb A i ∧ JSq A i ∧ JSq A i ∧ 0 ≤ JHb A i ∧ JSq A i ∧ JSq A i,JdM A i → ((JIM A).next i 0 ≤ List.length A ∧ (∀ (i:Nat),0 ≤ dg A i ∧ dg A i < 65536) ∧ Jt8 A) ∧ (JIM A).μ ((JIM A).next i 0) < (JIM A).μ i ∧ (JIM A).fin ((JIM A).next i 0) = (JIM A).fin i ∧ Int.ofNat ((JIM A).next i 0) = IntKind.i64.wrap (Int.ofNat (Int.ofNat i).toNat + 1) ∧ Z0 A A ((JIM A).next i 0) = List.set (Xq (dg A (Int.ofNat i).toNat) A (Z0 A A i) (Int.ofNat i).toNat (List.length A)).fst (JHb A i).toNat (JM3 1 0 0 [IntKind.u64.wrap ((Jfc A i).getD 0 0 + (Xq (dg A (Int.ofNat i).toNat) A (Z0 A A i) (Int.ofNat i).toNat (List.length A)).snd)] (Jfc A i)),decide (Int.ofNat i < Int.ofNat (List.length A)) = false → Z0 A A (List.length A) = Z0 A A i]
theorem Jou (A:Dg) (i:Nat) (hNeeds:∀ pN ∈ (JRM A i),pN):Q4 (Xd (JIM A) (QX Tryz.prog (JC JID) Jnd 138 0) 13 i) :=
  Q4.of (ps := (JRM A i)) (by kernel_rfl) (by kernel_rfl) hNeeds
theorem Jjg (A:Dg):Qw (JIM A) (QX Tryz.prog (JC JID) Jnd 138 0) 13 := by
  intro i hJ
  obtain ⟨h1,hA,h4⟩:i ≤ A.length ∧ jK A ∧ A.length + A.length ≤ 1000000 := hJ
  have e0:(Int.ofNat i).toNat = i := rfl
  have e1:JHb A i = Int.ofNat (i + A.length) := by unfold JHb; rw [e0,X6 (by simp; omega) (by simp; omega)]; simp
  have e2:(JHb A i).toNat = i + A.length := by rw [e1]; rfl
  have hl := Xf A A i
  have hn:List.length (Xq (dg A i) A (Z0 A A i) i A.length).fst = A.length + A.length := by rw [WQ,hl]
  have es:JdM A i → i < A.length := fun h => by simpa [JdM] using h
  have e3:Jfc A i = (Xq (dg A i) A (Z0 A A i) i A.length).1.getD (i + A.length) [] := by unfold Jfc; rw [e2,e0]
  refine Jou A i fun q hq => ?_
  unfold JRM at hq
  simp only [List.mem_cons,List.not_mem_nil,or_false,e0] at hq
  rcases hq with rfl | rfl | rfl
  · intro h
    have hi := es h
    have e4:JSq A i := by unfold JSq; rw [e2,e0,hn]; omega
    have e5:0 ≤ JHb A i := by rw [e1]; exact Int.natCast_nonneg _
    exact ⟨⟨Nat.zero_le _,hi,hA,JCh hA hA i (by omega),hl,h4⟩,rfl,rfl,trivial,rfl,e5,e4,e4,e5,e4,e4⟩
  · intro h
    have hi := es h
    obtain ⟨hr,c1,c2⟩ := JKh (i := i) (hA i) hA (JCh hA hA i (by omega)) A.length (by omega)
    obtain ⟨d1,d2⟩ := hr (i + A.length)
    refine ⟨⟨hi,hA,h4⟩,?_,trivial,?_,?_⟩
    · show A.length - (i + 1) < A.length - i; omega
    · rw [X6 (by simp; omega) (by simp; omega)]; rfl
    · rw [e2,e3]
      have:IntKind.u64.wrap (dg (Xq (dg A i) A (Z0 A A i) i A.length).1 (i + A.length) + (Xq (dg A i) A (Z0 A A i) i A.length).2) = dg (Xq (dg A i) A (Z0 A A i) i A.length).1 (i + A.length) + (Xq (dg A i) A (Z0 A A i) i A.length).2 := W2 (by omega) (by omega)
      show _ = List.set _ _ [IntKind.u64.wrap (dg (Xq (dg A i) A (Z0 A A i) i A.length).1 (i + A.length) + (Xq (dg A i) A (Z0 A A i) i A.length).2)]
      rw [this]; rfl
  · intro h
    have:i = A.length := by simp at h; omega
    rw [this]
def Jxs:QE := fun env mem m => match JnY env mem m with
  | some x => some x
  | none => (match JN1 [.int .u64] env mem 0 with
    | some A => jk (JIM A) 13 (fun _ _ => some 0) env mem m
    | _ => none)
def Jc6:FuncId → Nat → Option QE := JA9 Jnd 138 3 Jxs
theorem JWC:Known Tryz.prog (JC JID) Jc6 := by
  refine Qe 0 JaI (by kernel_rfl) (Qv fun env mem m x h => ?_)
  unfold Jxs at h
  have hlen:(QW Tryz.prog 138).length = 2 := by kernel_rfl
  split at h
  · rename_i h1
    cases h
    unfold JnY at h1
    split at h1
    · exact ⟨_,XG (Qc Zz JMn (by omega)) (JW0 _ _),h1⟩
    · cases h1
  · split at h
    · exact ⟨_,XG (Qc Zz JaI (by omega)) (Jjg _),h⟩
    · cases h
def JK5:Tpl := ⟨[.one (.wh 0),.one (.wh 0)],[(0,.row false 140 1 1 [.int .u64])],2⟩
def QM (A:LL):Dg := JGj (Z0 A A A.length)
def JHM (A:LL):Int := IntKind.i64.wrap (Int.ofNat A.length + Int.ofNat A.length)
def JHF (A:LL):List Prop := [0 ≤ JHM A,((JHM A).toNat + 0) * 8 ≤ 140737488355328,(JHM A).toNat + 0 ≤ 9223372036854775807,0 ≤ A.length ∧ (∀ (i:Nat),0 ≤ dg A i ∧ dg A i < 65536) ∧ A.length + A.length ≤ 1000000,Int.ofNat 0 = 0,Z0 A A 0 = List.replicate (JHM A).toNat [0],List.length (Z0 A A A.length) ≤ 1000000]
theorem JqB {A:LL} (hW:∀ q ∈ ([jK A,A.length + A.length ≤ 1000000]:List Prop),q):∀ q ∈ (JHF A),q := by
  simp only [awc,awn,and_true] at hW
  intro q hq
  unfold JHF at hq
  simp only [List.mem_cons,List.not_mem_nil,or_false] at hq
  obtain ⟨hA,h⟩ := hW
  have e:JHM A = Int.ofNat (A.length + A.length) := by unfold JHM; rw [X6 (by simp; omega) (by simp; omega)]; simp
  have e2:(JHM A).toNat = A.length + A.length := by rw [e]; rfl
  rcases hq with rfl | rfl | rfl | rfl | rfl | rfl | rfl
  · rw [e]; exact Int.natCast_nonneg _
  · rw [e2]; omega
  · rw [e2]; omega
  · exact ⟨Nat.zero_le _,hA,h⟩
  · rfl
  · rw [e2]; rfl
  · rw [Xf]; exact h
theorem Jpn (A:LL) (hNeeds:∀ pN ∈ (JHF A),pN):Runs (Jm (JC JID) Jc6 138) (JK5.args []) (JK5.memo [] [A]) JK5.n (SV.one (SC.wh 39)) ([(39,Obj.row false 140 1 (RowC.lst 42 [CK.int IntKind.u64] (QM A))),(0,Obj.row false 140 1 (RowC.lst 1 [CK.int IntKind.u64] A))]) :=
  Runs.of1 (ps := (JHF A)) (by kernel_rfl) hNeeds
def Jb7:List Pm → Qs → Option CRes
  | [],[A] => some ⟨SV.one (SC.wh 39),
 [(39,Obj.row false 140 1 (RowC.lst 42 [CK.int IntKind.u64] (QM A))),(0,Obj.row false 140 1 (RowC.lst 1 [CK.int IntKind.u64] A))],[jK A,A.length + A.length ≤ 1000000],[],61⟩
  | _,_ => none
theorem Jvd:Ql Tryz.prog 138 (JU JK5 Jb7) := by
  refine JI (JE JWC 138) fun ps ls r hr hn _ => ?_
  unfold Jb7 at hr
  split at hr
  · cases hr; exact ⟨_,Jpn _ (JqB (by exact hn)),fun _ => rfl⟩
  · cases hr
def JSs:List (Nat × JY) := (138,orS (JU JK5 Jb7) (JU JGA JNk)) :: JID
theorem JYQ:Known Tryz.prog (JC JSs) Jc6 := J7 JWC (JZa Jvd Jnq)
def rtF (X:Dg):Fam Nat Unit where
  k := 20
  E j := [(6,ent 1000000000 (.one (I (62 - Int.ofNat j)))),(5,ent 1000000001 (.one (U (fr 63 (val X) j)))),(0,ent 0 (.one (.wh 0)))]
  M j := [JBm 0 1 X]
  out _ := .leaf (.exit 0) [(5,ent 7 (.one (U (fr 63 (val X) 63)))),(0,ent 0 (.one (.wh 0)))] [JBm 0 1 X]
  fin _ := ()
  next j _ := j + 1
  J j := j ≤ 63 ∧ jK X ∧ JHD X ∧ X.length ≤ 1000000 ∧ val X < 85070591730234615865843651857942052864
  μ j := 63 - j
section
variable (X:Dg) (j:Nat)
def JtF:Prop:= decide (62 - Int.ofNat j ≥ 0) = true
def JnU:Prop:= 0 ≤ IntKind.u64.wrap (62 - Int.ofNat j)
def JF2:Int:= Zg BinOp.or IntKind.u64 (fr 63 (val X) j) (JV BinOp.shl IntKind.u64 1 (IntKind.u64.wrap (62 - Int.ofNat j)))
def Jsl:Bool:= decide (JF4 (QM (JB (JF2 X j))) X ≤ 0)
end
def JXz (X:Dg) (j:Nat):List Prop := [JtF j → JnU j ∧ 0 ≤ JF2 X j ∧ JF2 X j < 18446744073709551616 ∧ (∀ (i:Nat),0 ≤ dg (JB (JF2 X j)) i ∧ dg (JB (JF2 X j)) i < 65536) ∧ List.length (JB (JF2 X j)) + List.length (JB (JF2 X j)) ≤ 1000000 ∧ List.length (QM (JB (JF2 X j))) ≤ 1000000 ∧ (Jsl X j = true → JnU j),JtF j → ((rtF X).next j 0 ≤ 63 ∧ (∀ (i:Nat),0 ≤ dg X i ∧ dg X i < 65536) ∧ (List.length X ≠ 0 → dg X (List.length X - 1) ≠ 0) ∧ List.length X ≤ 1000000 ∧ val X < 85070591730234615865843651857942052864) ∧ (rtF X).μ ((rtF X).next j 0) < (rtF X).μ j ∧ (rtF X).fin ((rtF X).next j 0) = (rtF X).fin j ∧ 62 - Int.ofNat ((rtF X).next j 0) = IntKind.i64.wrap (62 - Int.ofNat j - 1) ∧ fr 63 (val X) ((rtF X).next j 0) = bif Jsl X j then JF2 X j else fr 63 (val X) j,decide (62 - Int.ofNat j ≥ 0) = false → fr 63 (val X) 63 = fr 63 (val X) j]
theorem JsE (X:Dg) (j:Nat) (hNeeds:∀ pN ∈ (JXz X j),pN):Q4 (Xd (rtF X) (QX Tryz.prog (JC JSs) Jc6 174 0) 7 j) :=
  Q4.of (ps := (JXz X j)) (by kernel_rfl) (by kernel_rfl) hNeeds
theorem sqD {n:Int} (h:0 ≤ n ∧ n < 18446744073709551616) {X:Dg} (hX:jK X) (nX:JHD X):JF4 (QM (JB n)) X = KC (n * n) (val X) ∧ jK (JB n) ∧ (JB n).length ≤ 4 ∧ (QM (JB n)).length ≤ 8 := by
  obtain ⟨x1,x2,x3⟩ := JCi h h
  have h0 := JOa x1 hX x2 nX
  rw [x3] at h0
  have hl:(JB n).length ≤ 4 := by rw [JB,KT]; exact (Y2 h.1 h.2 (j := 0) (by omega)).2
  refine ⟨h0,Kn _ _,hl,?_⟩
  show (JGj _).length ≤ 8
  rw [JIb]
  have := JLJ (Z0 (JB n) (JB n) (JB n).length) (Z0 (JB n) (JB n) (JB n).length).length
  rw [Xf] at this
  rw [Xf]
  omega
theorem JqF (X:Dg):Qw (rtF X) (QX Tryz.prog (JC JSs) Jc6 174 0) 7 := by
  intro j hJ
  obtain ⟨h1,hX,nX,h3,h4⟩:j ≤ 63 ∧ jK X ∧ JHD X ∧ X.length ≤ 1000000 ∧ val X < 85070591730234615865843651857942052864 := hJ
  have v0 := (JNn hX).1
  have v1:val X < 2 ^ 63 * 2 ^ 63 := h4
  have es:JtF j → j < 63 := fun h => by
    have h:decide (62 - Int.ofNat j ≥ 0) = true := h
    rw [decide_eq_true_eq] at h
    have:(0:Int) ≤ 62 - (j:Int) := h
    omega
  have ew:j < 63 → IntKind.u64.wrap (62 - Int.ofNat j) = ((63 - 1 - j:Nat):Int) := fun h => by
    have e:Int.ofNat j = (j:Int) := rfl
    rw [e,W2 (by omega) (by omega)]
    omega
  have e2:j < 63 → JF2 X j = fr 63 (val X) j + 2 ^ (63 - 1 - j) ∧ 0 ≤ JF2 X j ∧ JF2 X j < 18446744073709551616 := fun h => by
    have := JtD v0 v1 h (by omega)
    unfold JF2
    rw [ew h,this.1]
    exact ⟨rfl,this.2⟩
  refine JsE X j fun q hq => ?_
  unfold JXz at hq
  simp only [List.mem_cons,List.not_mem_nil,or_false] at hq
  rcases hq with rfl | rfl | rfl
  · intro h
    have hj := es h
    obtain ⟨e3,b1,b2⟩ := e2 hj
    obtain ⟨_,d2,d3,d4⟩ := sqD ⟨b1,b2⟩ hX nX
    have e1:JnU j := by unfold JnU; rw [ew hj]; exact Int.natCast_nonneg _
    exact ⟨e1,b1,b2,d2,by omega,by omega,fun _ => e1⟩
  · intro h
    have hj := es h
    obtain ⟨e3,b1,b2⟩ := e2 hj
    obtain ⟨d1,_,_,_⟩ := sqD ⟨b1,b2⟩ hX nX
    refine ⟨⟨hj,hX,nX,h3,h4⟩,?_,trivial,?_,?_⟩
    · show 63 - (j + 1) < 63 - j; omega
    · have e:Int.ofNat j = (j:Int) := rfl
      have e':Int.ofNat (j + 1) = (j:Int) + 1 := rfl
      show 62 - Int.ofNat (j + 1) = _
      rw [e,e',X6 (by omega) (by omega)]
      omega
    · show fr 63 (val X) (j + 1) = _
      unfold Jsl
      rw [d1,Jet,e3]
      rfl
  · intro h
    have h:decide (62 - Int.ofNat j ≥ 0) = false := h
    rw [decide_eq_false_iff_not] at h
    have h:¬ (62 - (j:Int) ≥ 0) := h
    have:j = 63 := by omega
    rw [this]
def rtL:QE := fun env mem m => match JN1 [.int .u64] env mem 0 with
  | some X => jk (rtF X) 7 (fun _ _ => some 0) env mem m
  | none => none
def JUg:FuncId → Nat → Option QE := JA9 Jc6 174 3 rtL
theorem JcC:Known Tryz.prog (JC JSs) JUg := by
  refine Qe 0 JYQ (by kernel_rfl) (Qv fun env mem m x h => ?_)
  unfold rtL at h
  have hlen:(QW Tryz.prog 174).length = 1 := by kernel_rfl
  split at h
  · exact ⟨_,XG (Qc Zz JYQ (by omega)) (JqF _),h⟩
  · cases h
def JEp:Tpl := ⟨[.one (.wh 0)],[(0,.row false 140 1 1 [.int .u64])],2⟩
section
variable (X:LL)
def JLF:Bool:= JF4 (Jb (JB (fr 63 (val X) 63)) (JB (fr 63 (val X) 63))) X == 0
def Jgu:Int:= JF4 X (Jb (JB (fr 63 (val X) 63)) (JB (IntKind.u64.wrap (fr 63 (val X) 63 + 1))))
def JKk:Int:= bif decide (Jgu X > 0) then 1 else -1
def JCj:Int:= IntKind.u64.wrap (fr 63 (val X) 63 + 1)
end
def JDs (X:LL):List Prop := [0 ≤ 63 ∧ (∀ (i:Nat),0 ≤ dg X i ∧ dg X i < 65536) ∧ (X.length ≠ 0 → dg X (X.length - 1) ≠ 0) ∧ X.length ≤ 1000000 ∧ val X < 85070591730234615865843651857942052864,Int.ofNat 62 = 62,fr 63 (val X) 0 = 0,0 ≤ fr 63 (val X) 63,fr 63 (val X) 63 < 18446744073709551616,0 ≤ JCj X,JCj X < 18446744073709551616,∀ (i:Nat),0 ≤ dg (JB (fr 63 (val X) 63)) i ∧ dg (JB (fr 63 (val X) 63)) i < 65536,∀ (i:Nat),0 ≤ dg (JB (JCj X)) i ∧ dg (JB (JCj X)) i < 65536,List.length (JB (fr 63 (val X) 63)) + List.length (JB (JCj X)) ≤ 1000000,X.length ≤ 1000000,0 ≤ fr 63 (val X) 63,fr 63 (val X) 63 < 18446744073709551616,0 ≤ fr 63 (val X) 63,fr 63 (val X) 63 < 18446744073709551616,∀ (i:Nat),0 ≤ dg (JB (fr 63 (val X) 63)) i ∧ dg (JB (fr 63 (val X) 63)) i < 65536,∀ (i:Nat),0 ≤ dg (JB (fr 63 (val X) 63)) i ∧ dg (JB (fr 63 (val X) 63)) i < 65536,List.length (JB (fr 63 (val X) 63)) + List.length (JB (fr 63 (val X) 63)) ≤ 1000000,List.length (Jb (JB (fr 63 (val X) 63)) (JB (fr 63 (val X) 63))) ≤ 1000000]
theorem Jme {X:LL} (hW:∀ q ∈ ([jK X,JHD X,X.length ≤ 1000000,val X < 85070591730234615865843651857942052864]:List Prop),q):∀ q ∈ (JDs X),q := by
  simp only [awc,awn,and_true] at hW
  unfold JDs
  simp only [awc,awn,and_true]
  obtain ⟨hX,nX,h3,h4⟩ := hW
  have v0 := (JNn hX).1
  have v1:val X < 2 ^ 63 * 2 ^ 63 := h4
  obtain ⟨r0,r1⟩ := Jst v0 v1 (j := 63) (by omega)
  have e63:(2:Int) ^ 63 = 9223372036854775808 := rfl
  rw [e63] at r1
  have e1:JCj X = fr 63 (val X) 63 + 1 := W2 (by omega) (by omega)
  have l0:∀ n:Int,0 ≤ n → n < 18446744073709551616 → (JB n).length ≤ 4 := fun n a b => by rw [JB,KT]; exact (Y2 a b (j := 0) (by omega)).2
  have l1 := l0 (fr 63 (val X) 63) r0 (by omega)
  have l2 := l0 (JCj X) (by omega) (by omega)
  have l3:(Jb (JB (fr 63 (val X) 63)) (JB (fr 63 (val X) 63))).length ≤ 8 := (sqD ⟨r0,by omega⟩ hX nX).2.2.2
  exact ⟨⟨by omega,hX,nX,h3,h4⟩,rfl,rfl,r0,by omega,by omega,by omega,Kn _ _,Kn _ _,by omega,h3,r0,by omega,r0,by omega,Kn _ _,Kn _ _,by omega,by omega⟩
theorem JjN (X:LL) (hNeeds:∀ pN ∈ (JDs X),pN):Runs (Jm (JC JSs) JUg 174) (JEp.args []) (JEp.memo [] [X]) JEp.n (SV.tup [(false,[SC.int IntKind.u64 (SI.v (fr 63 (val X) 63))]),(false,[Cb (JLF X)]),(false,[Ci (JKk X)])]) ([(0,Obj.row false 140 1 (RowC.lst 1 [CK.int IntKind.u64] X))]) :=
  Runs.of1 (ps := (JDs X)) (by kernel_rfl) hNeeds
def JST:List Pm → Qs → Option CRes
  | [],[X] => some ⟨SV.tup [(false,[SC.int IntKind.u64 (SI.v (fr 63 (val X) 63))]),(false,[Cb (JLF X)]),(false,[Ci (JKk X)])],
 [(0,Obj.row false 140 1 (RowC.lst 1 [CK.int IntKind.u64] X))],[jK X,JHD X,X.length ≤ 1000000,val X < 85070591730234615865843651857942052864],[],360⟩
  | _,_ => none
theorem Jun:Ql Tryz.prog 174 (JU JEp JST) := by
  refine JI (JE JcC 174) fun ps ls r hr hn _ => ?_
  unfold JST at hr
  split at hr
  · cases hr; exact ⟨_,JjN _ (Jme (by exact hn)),fun _ => rfl⟩
  · cases hr
def JfB:List (Nat × JY) := (174,JU JEp JST) :: JSs
theorem JT9:Known Tryz.prog (JC JfB) JUg := J7 JcC Jun
def Wy:Tpl := ⟨[.one (.bool),.one (.int .u64),.one (.bool),.one (.int .i64),.one (.int .i64)],[],0⟩
section
variable (neg:Bool) (q:Int) (exact:Bool) (half mode:Int)
def Xe:Int:= bif bif mode == 0 then neg && !exact else bif mode == 1 then !neg && !exact else neg && decide (half > 0) || !neg && decide (half ≥ 0) then IntKind.u64.wrap (q + 1) else q
def ja:Int:= bif decide (q > 9223372036854775808) then 0 else bif neg then bif decide (Xe neg q exact half mode > 9223372036854775808) then 0 else bif Xe neg q exact half mode == 0 then 0 else IntKind.i64.wrap (IntKind.i64.wrap (0 - IntKind.i64.wrap (IntKind.u64.wrap (Xe neg q exact half mode - 1))) - 1) else bif decide (Xe neg q exact half mode > 9223372036854775807) then 0 else IntKind.i64.wrap (Xe neg q exact half mode)
def jZ:Bool:= bif decide (q > 9223372036854775808) then false else bif neg then !decide (Xe neg q exact half mode > 9223372036854775808) else !decide (Xe neg q exact half mode > 9223372036854775807)
end
theorem JbS (neg:Bool) (q:Int) (exact:Bool) (half mode:Int):Runs (Jm (JC JfB) JUg 166) (Wy.args [.b neg,.i q,.b exact,.i half,.i mode]) (Wy.memo [.b neg,.i q,.b exact,.i half,.i mode] []) Wy.n (SV.tup [(false,[Ci (ja neg q exact half mode)]),(false,[Cb (jZ neg q exact half mode)])]) ([]) :=
  Runs.of1 (ps := []) (by kernel_rfl) (by simp)
def JH5:List Pm → Qs → Option CRes
  | [.b neg,.i q,.b exact,.i half,.i mode],[] => some ⟨SV.tup [(false,[Ci (ja neg q exact half mode)]),(false,[Cb (jZ neg q exact half mode)])],
 [],[],[],74⟩
  | _,_ => none
theorem JhX:Ql Tryz.prog 166 (JU Wy JH5) := by
  refine JI (JE JT9 166) fun ps ls r hr hn _ => ?_
  unfold JH5 at hr
  split at hr
  · cases hr; exact ⟨_,JbS _ _ _ _ _,fun _ => rfl⟩
  · cases hr
def JMx:List (Nat × JY) := (166,JU Wy JH5) :: JfB
theorem JJ0:Known Tryz.prog (JC JMx) JUg := J7 JT9 JhX
def JG4:Tpl := ⟨[.one (.int .i64),.one (.int .i64),.one (.int .i64)],[],0⟩
def qA (a b mode:Int):Int := bif decide (a < 0) || decide (b < 0) || !(mode == 0 || mode == 1 || mode == 2) then 0 else ja false (fr 63 (val (Jb (JB (J6 a)) (JB (J6 b)))) 63) (JLF (Jb (JB (J6 a)) (JB (J6 b)))) (JKk (Jb (JB (J6 a)) (JB (J6 b)))) mode
def JI3 (a b mode:Int):Bool := bif decide (a < 0) || decide (b < 0) || !(mode == 0 || mode == 1 || mode == 2) then false else jZ false (fr 63 (val (Jb (JB (J6 a)) (JB (J6 b)))) 63) (JLF (Jb (JB (J6 a)) (JB (J6 b)))) (JKk (Jb (JB (J6 a)) (JB (J6 b)))) mode
def JE4 (a b mode:Int):List Prop := [(decide (a < 0) || decide (b < 0) || !(mode == 0 || mode == 1 || mode == 2)) = false → (-9223372036854775808 ≤ a ∧ a < 9223372036854775808) ∧ (-9223372036854775808 ≤ b ∧ b < 9223372036854775808) ∧ (∀ (i:Nat),0 ≤ dg (Jb (JB (J6 a)) (JB (J6 b))) i ∧ dg (Jb (JB (J6 a)) (JB (J6 b))) i < 65536) ∧ (List.length (Jb (JB (J6 a)) (JB (J6 b))) ≠ 0 → dg (Jb (JB (J6 a)) (JB (J6 b))) (List.length (Jb (JB (J6 a)) (JB (J6 b))) - 1) ≠ 0) ∧ List.length (Jb (JB (J6 a)) (JB (J6 b))) ≤ 1000000 ∧ val (Jb (JB (J6 a)) (JB (J6 b))) < 85070591730234615865843651857942052864]
theorem Jjl {a:Int} {b:Int} {mode:Int} (hW:∀ q ∈ ([Xa a,Xa b]:List Prop),q):∀ q ∈ (JE4 a b mode),q := by
  simp only [awc,awn,and_true] at hW
  unfold JE4
  simp only [awc,awn,and_true]
  obtain ⟨ha,hb⟩ := hW
  intro h
  simp only [Bool.or_eq_false_iff,decide_eq_false_iff_not] at h
  obtain ⟨⟨a0,b0⟩,_⟩ := h
  have a1 := Qt ha
  have b1 := Qt hb
  obtain ⟨x1,x2,x3⟩ := JCi a1 b1
  have la:(JB (J6 a)).length ≤ 4 := by rw [JB,KT]; exact (Y2 a1.1 a1.2 (j := 0) (by omega)).2
  have lb:(JB (J6 b)).length ≤ 4 := by rw [JB,KT]; exact (Y2 b1.1 b1.2 (j := 0) (by omega)).2
  refine ⟨ha,hb,x1,x2,?_,?_⟩
  · show (JGj _).length ≤ _
    rw [JIb]
    have := JLJ (Z0 (JB (J6 a)) (JB (J6 b)) (JB (J6 a)).length) (Z0 (JB (J6 a)) (JB (J6 b)) (JB (J6 a)).length).length
    rw [Xf] at this
    rw [Xf]
    omega
  · have e:val (Jb (JB (J6 a)) (JB (J6 b))) = a * b := by
      show val (Jaq _ _) = _
      rw [x3,Xu a ha,Xu b hb,if_neg a0,if_neg b0]
    rw [e]
    obtain ⟨_,h2⟩ := Kh 9223372036854775807 9223372036854775807 (x := a) (y := b) ⟨by omega,by omega⟩ ⟨by omega,by omega⟩ (by omega)
    omega
theorem Jmj (a b mode:Int) (hNeeds:∀ pN ∈ (JE4 a b mode),pN):Runs (Jm (JC JMx) JUg 168) (JG4.args [.i a,.i b,.i mode]) (JG4.memo [.i a,.i b,.i mode] []) JG4.n (SV.tup [(false,[Ci (qA a b mode)]),(false,[Cb (JI3 a b mode)])]) ([]) :=
  Runs.of1 (ps := (JE4 a b mode)) (by kernel_rfl) hNeeds
def JQp:List Pm → Qs → Option CRes
  | [.i a,.i b,.i mode],[] => some ⟨SV.tup [(false,[Ci (qA a b mode)]),(false,[Cb (JI3 a b mode)])],
 [],[Xa a,Xa b],[],625⟩
  | _,_ => none
theorem Jsk:Ql Tryz.prog 168 (JU JG4 JQp) := by
  refine JI (JE JJ0 168) fun ps ls r hr hn _ => ?_
  unfold JQp at hr
  split at hr
  · cases hr; exact ⟨_,Jmj _ _ _ (Jjl (by exact hn)),fun _ => rfl⟩
  · cases hr
def Jg3:List (Nat × JY) := (168,JU JG4 JQp) :: JMx
theorem JTl:Known Tryz.prog (JC Jg3) JUg := J7 JJ0 Jsk
def JGZ:Tpl := ⟨[.one (.int .i64),.one (.int .i64)],[],0⟩
def JEQ (a:Int):List Prop := [-9223372036854775808 ≤ a ∧ a < 9223372036854775808,-9223372036854775808 ≤ 1 ∧ Int.ofNat 1 < 9223372036854775808]
theorem Jlq {a:Int} (hW:∀ q ∈ ([Xa a]:List Prop),q):∀ q ∈ (JEQ a),q := by
  simp only [awc,awn,and_true] at hW
  unfold JEQ
  simp only [awc,awn,and_true]
  exact ⟨hW,by decide⟩
theorem Jld (a mode:Int) (hNeeds:∀ pN ∈ (JEQ a),pN):Runs (Jm (JC Jg3) JUg 146) (JGZ.args [.i a,.i mode]) (JGZ.memo [.i a,.i mode] []) JGZ.n (SV.tup [(false,[Ci (qA a 1 mode)]),(false,[Cb (JI3 a 1 mode)])]) ([]) :=
  Runs.of1 (ps := (JEQ a)) (by kernel_rfl) hNeeds
def JRi:List Pm → Qs → Option CRes
  | [.i a,.i mode],[] => some ⟨SV.tup [(false,[Ci (qA a 1 mode)]),(false,[Cb (JI3 a 1 mode)])],
 [],[Xa a],[],634⟩
  | _,_ => none
theorem Jtq:Ql Tryz.prog 146 (JU JGZ JRi) := by
  refine JI (JE JTl 146) fun ps ls r hr hn _ => ?_
  unfold JRi at hr
  split at hr
  · cases hr; exact ⟨_,Jld _ _ (Jlq (by exact hn)),fun _ => rfl⟩
  · cases hr
def JL2:List (Nat × JY) := (146,JU JGZ JRi) :: Jg3
theorem JT5:Known Tryz.prog (JC JL2) JUg := J7 JTl Jtq
def ovF (a b m:Int) (X D:Dg):Fam Nat Unit where
  k := 20
  E j := [(14,ent 1000000000 (.one (I (62 - Int.ofNat j)))),(13,ent 1000000001 (.one (U (fr 63 (val X / val D) j)))),(12,ent 301 (.one (.wh 280))),(11,ent 273 (.one (.wh 250))),(0,ent 0 (.one (I a))),(1,ent 2 (.one (I b))),(3,ent 6 (.one (I m)))]
  M j := [JBm 280 283 D,JBm 250 253 X]
  out _ := .leaf (.exit 0) [(13,ent 305 (.one (U (fr 63 (val X / val D) 63)))),(12,ent 301 (.one (.wh 280))),(11,ent 273 (.one (.wh 250))),(0,ent 0 (.one (I a))),(1,ent 2 (.one (I b))),(3,ent 6 (.one (I m)))] [JBm 280 283 D,JBm 250 253 X]
  fin _ := ()
  next j _ := j + 1
  J j := j ≤ 63 ∧ jK X ∧ JHD X ∧ jK D ∧ JHD D ∧ X.length ≤ 100 ∧ D.length ≤ 100 ∧ 0 < val D ∧ val X < 85070591730234615865843651857942052864
  μ j := 63 - j
theorem WB {A B:Dg} (hA:jK A) (hB:jK B):jK (Jb A B) ∧ JHD (Jb A B) ∧ val (Jb A B) = val A * val B ∧ (Jb A B).length ≤ A.length + B.length := by
  refine ⟨Jhq (JCh hA hB _ (Nat.le_refl _)),Jd5 _,?_,?_⟩
  · show val (JGj _) = _
    rw [Jiv,JX7 _ (Nat.le_refl _),JDT]
  · show (JGj _).length ≤ _
    rw [JIb]
    have := JLJ (Z0 A B A.length) (Z0 A B A.length).length
    rw [Xf] at this
    rw [Xf]
    omega
theorem JFW {n:Int} (h:0 ≤ n ∧ n < 18446744073709551616):jK (JB n) ∧ (JB n).length ≤ 4 ∧ jK (QM (JB n)) ∧ JHD (QM (JB n)) ∧ val (QM (JB n)) = n * n ∧ (QM (JB n)).length ≤ 8 := by
  have hl:(JB n).length ≤ 4 := by rw [JB,KT]; exact (Y2 h.1 h.2 (j := 0) (by omega)).2
  obtain ⟨x1,x2,x3,x4⟩ := WB (Kn n (nd n)) (Kn n (nd n))
  have e:val (j4 n (nd n)) = n := JLM h.1 h.2
  rw [e] at x3
  exact ⟨Kn _ _,hl,x1,x2,x3,by have:(j4 n (nd n)).length ≤ 4 := hl; exact Nat.le_trans x4 (by omega)⟩
theorem JEo {n:Int} (h:0 ≤ n ∧ n < 18446744073709551616):jK (JB n) ∧ JHD (JB n) ∧ val (JB n) = n ∧ (JB n).length ≤ 4 := by
  obtain ⟨_,h2,_⟩ := JFW h
  refine ⟨Kn _ _,fun hl => ?_,JLM h.1 h.2,h2⟩
  have hlen:(JB n).length = nd n := by rw [JB,KT]
  rw [hlen] at hl ⊢
  have h3 := (Y2 h.1 h.2 (j := nd n - 1) (by omega)).1.2 (by omega)
  show dg (j4 n (nd n)) (nd n - 1) ≠ 0
  rw [JeU,if_pos (by omega)]
  have h4:¬ 0 < n / 65536 ^ nd n := fun h5 => by have := (Y2 h.1 h.2 (j := nd n) (by omega)).1.1 h5; omega
  have h6 := Jdn n (nd n - 1)
  rw [show nd n - 1 + 1 = nd n by omega] at h6
  have h7:0 ≤ n / 65536 ^ (nd n - 1) := by omega
  omega
section
variable (X D:Dg) (j:Nat)
def Jrt:Prop:= decide (62 - Int.ofNat j ≥ 0) = true
def JnE:Prop:= 0 ≤ IntKind.u64.wrap (62 - Int.ofNat j)
def Jmw:Int:= fr 63 (val X / val D) j
def JAE:Int:= Zg BinOp.or IntKind.u64 (Jmw X D j) (JV BinOp.shl IntKind.u64 1 (IntKind.u64.wrap (62 - Int.ofNat j)))
def Jsd:Bool:= decide (JF4 (Jb (QM (JB (JAE X D j))) D) X ≤ 0)
end
def JWK (a b m:Int) (X:Dg) (D:Dg) (j:Nat):List Prop := [Jrt j → JnE j ∧ 0 ≤ JAE X D j ∧ JAE X D j < 18446744073709551616 ∧ (∀ (i:Nat),0 ≤ dg (JB (JAE X D j)) i ∧ dg (JB (JAE X D j)) i < 65536) ∧ List.length (JB (JAE X D j)) + List.length (JB (JAE X D j)) ≤ 1000000 ∧ (∀ (i:Nat),0 ≤ dg (QM (JB (JAE X D j))) i ∧ dg (QM (JB (JAE X D j))) i < 65536) ∧ (∀ (i:Nat),0 ≤ dg D i ∧ dg D i < 65536) ∧ List.length (QM (JB (JAE X D j))) + List.length D ≤ 1000000 ∧ List.length (Jb (QM (JB (JAE X D j))) D) ≤ 1000000 ∧ (Jsd X D j = true → JnE j),Jrt j → ((ovF a b m X D).next j 0 ≤ 63 ∧ (∀ (i:Nat),0 ≤ dg X i ∧ dg X i < 65536) ∧ (List.length X ≠ 0 → dg X (List.length X - 1) ≠ 0) ∧ (∀ (i:Nat),0 ≤ dg D i ∧ dg D i < 65536) ∧ (List.length D ≠ 0 → dg D (List.length D - 1) ≠ 0) ∧ List.length X ≤ 100 ∧ List.length D ≤ 100 ∧ 0 < val D ∧ val X < 85070591730234615865843651857942052864) ∧ (ovF a b m X D).μ ((ovF a b m X D).next j 0) < (ovF a b m X D).μ j ∧ (ovF a b m X D).fin ((ovF a b m X D).next j 0) = (ovF a b m X D).fin j ∧ 62 - Int.ofNat ((ovF a b m X D).next j 0) = IntKind.i64.wrap (62 - Int.ofNat j - 1) ∧ fr 63 (val X / val D) ((ovF a b m X D).next j 0) = bif Jsd X D j then JAE X D j else Jmw X D j,decide (62 - Int.ofNat j ≥ 0) = false → fr 63 (val X / val D) 63 = Jmw X D j]
theorem Jtk (a b m:Int) (X D:Dg) (j:Nat) (hNeeds:∀ pN ∈ (JWK a b m X D j),pN):Q4 (Xd (ovF a b m X D) (QX Tryz.prog (JC JL2) JUg 143 0) 304 j) :=
  Q4.of (ps := (JWK a b m X D j)) (by kernel_rfl) (by kernel_rfl) hNeeds
theorem JyW {p q r:Prop} (hp:p) (hq:q) (hr:r):∀ x ∈ [p,q,r],x := by
  intro x hx
  rcases List.mem_cons.1 hx with rfl | hx
  · exact hp
  rcases List.mem_cons.1 hx with rfl | hx
  · exact hq
  rcases List.mem_cons.1 hx with rfl | hx
  · exact hr
  · cases hx
theorem Jqf (a b m:Int) (X D:Dg):Qw (ovF a b m X D) (QX Tryz.prog (JC JL2) JUg 143 0) 304 := by
  intro j hJ
  obtain ⟨h1,hX,nX,hD,nD,lX,lD,d0,x1⟩:j ≤ 63 ∧ jK X ∧ JHD X ∧ jK D ∧ JHD D ∧ X.length ≤ 100 ∧ D.length ≤ 100 ∧ 0 < val D ∧ val X < 85070591730234615865843651857942052864 := hJ
  have x0 := (JNn hX).1
  have v0:0 ≤ val X / val D := Int.ediv_nonneg x0 (Int.le_of_lt d0)
  have v1:val X / val D < 2 ^ 63 * 2 ^ 63 := by
    have := Int.ediv_le_self (val D) x0
    have e:(2:Int) ^ 63 * 2 ^ 63 = 85070591730234615865843651857942052864 := rfl
    omega
  have es:Jrt j → j < 63 := fun h => by
    have h:decide (62 - Int.ofNat j ≥ 0) = true := h
    rw [decide_eq_true_eq] at h
    have:(0:Int) ≤ 62 - (j:Int) := h
    omega
  have ew:j < 63 → IntKind.u64.wrap (62 - Int.ofNat j) = ((63 - 1 - j:Nat):Int) := fun h => by
    have e:Int.ofNat j = (j:Int) := rfl
    rw [e,W2 (by omega) (by omega)]
    omega
  have e2:j < 63 → JAE X D j = fr 63 (val X / val D) j + 2 ^ (63 - 1 - j) ∧ 0 ≤ JAE X D j ∧ JAE X D j < 18446744073709551616 := fun h => by
    have := JtD v0 v1 h (by omega)
    unfold JAE Jmw
    rw [ew h,this.1]
    exact ⟨rfl,this.2⟩
  refine Jtk a b m X D j ?_
  unfold JWK
  refine JyW ?_ ?_ ?_
  · intro h
    have hj := es h
    obtain ⟨e3,b1,b2⟩ := e2 hj
    obtain ⟨q1,q2,q3,q4,q5,q6⟩ := JFW ⟨b1,b2⟩
    obtain ⟨p1,p2,p3,p4⟩ := WB q3 hD
    have e1:JnE j := by unfold JnE; rw [ew hj]; exact Int.natCast_nonneg _
    exact ⟨e1,b1,b2,q1,by omega,q3,hD,by omega,by omega,fun _ => e1⟩
  · intro h
    have hj := es h
    obtain ⟨e3,b1,b2⟩ := e2 hj
    obtain ⟨q1,q2,q3,q4,q5,q6⟩ := JFW ⟨b1,b2⟩
    obtain ⟨p1,p2,p3,p4⟩ := WB q3 hD
    refine ⟨⟨hj,hX,nX,hD,nD,lX,lD,d0,x1⟩,?_,rfl,?_,?_⟩
    · show 63 - (j + 1) < 63 - j; omega
    · have e:Int.ofNat j = (j:Int) := rfl
      have e':Int.ofNat (j + 1) = (j:Int) + 1 := rfl
      show 62 - Int.ofNat (j + 1) = _
      rw [e,e',X6 (by omega) (by omega)]
      omega
    · show fr 63 (val X / val D) (j + 1) = _
      unfold Jsd
      rw [JOa p1 hX p2 nX,p3,q5,Jet,e3]
      have hle:decide ((fr 63 (val X / val D) j + 2 ^ (63 - 1 - j)) * (fr 63 (val X / val D) j + 2 ^ (63 - 1 - j)) * val D ≤ val X) = decide ((fr 63 (val X / val D) j + 2 ^ (63 - 1 - j)) * (fr 63 (val X / val D) j + 2 ^ (63 - 1 - j)) ≤ val X / val D) :=
        decide_eq_decide.2 (Int.le_ediv_iff_mul_le d0).symm
      rw [hle]
      rfl
  · intro h
    rw [decide_eq_false_iff_not] at h
    have h:¬ (62 - (j:Int) ≥ 0) := h
    have:j = 63 := by omega
    rw [this]; rfl
def ovL:QE := fun env mem m => match JN1 [.int .u64] env mem 11,JN1 [.int .u64] env mem 12,Wi env 0,Wi env 1,Wi env 3 with
  | some X,some D,some a,some b,some md => jk (ovF a b md X D) 304 (fun _ _ => some 0) env mem m
  | _,_,_,_,_ => none
def KK:FuncId → Nat → Option QE := JA9 JUg 143 8 ovL
theorem Jcr:Known Tryz.prog (JC JL2) KK := by
  refine Qe 0 JT5 (by kernel_rfl) (Qv fun env mem m x h => ?_)
  unfold ovL at h
  have hlen:(QW Tryz.prog 143).length = 1 := by kernel_rfl
  split at h
  · exact ⟨_,XG (Qc Zz JT5 (by omega)) (Jqf _ _ _ _ _),h⟩
  · cases h
theorem Ji8 {a b:Int} (ha:Xa a) (hb:Xa b) (la:J6 a ≤ 2147483648) (lb:J6 b ≤ 2147483648):jK (Jb (JB (J6 a)) (JB (J6 b))) ∧ JHD (Jb (JB (J6 a)) (JB (J6 b))) ∧ val (Jb (JB (J6 a)) (JB (J6 b))) = J6 a * J6 b ∧ (Jb (JB (J6 a)) (JB (J6 b))).length ≤ 8 ∧ 0 ≤ J6 a * J6 b ∧ J6 a * J6 b ≤ 4611686018427387904 := by
  obtain ⟨a1,a2,a3,a4⟩ := JEo (Qt ha)
  obtain ⟨b1,b2,b3,b4⟩ := JEo (Qt hb)
  obtain ⟨p1,p2,p3,p4⟩ := WB a1 b1
  rw [a3,b3] at p3
  have := Kh 2147483648 2147483648 (x := J6 a) (y := J6 b) ⟨(Qt ha).1,la⟩ ⟨(Qt hb).1,lb⟩ (by omega)
  exact ⟨p1,p2,p3,by omega,this.1,by omega⟩
def JG6:Tpl := ⟨[.one (.int .i64),.one (.int .i64),.one (.int .i64),.one (.int .i64)],[],0⟩
section
variable (a b n m:Int)
def Qx:Int:= fr 63 (val (QM (Jb (JB (J6 a)) (JB (J6 b)))) / val (JB (IntKind.u64.wrap n))) 63
def j8:Int:= bif decide (J6 a > 2147483648) || decide (J6 b > 2147483648) || decide (n < 1) || decide (n > 4611686018427387904) || !(m == 0 || m == 1 || m == 2) then 0 else ja (decide (Qk a b < 0)) (Qx a b n) (JF4 (Jb (QM (JB (Qx a b n))) (JB (IntKind.u64.wrap n))) (QM (Jb (JB (J6 a)) (JB (J6 b)))) == 0) (JF4 (Jb (JB 4) (QM (Jb (JB (J6 a)) (JB (J6 b))))) (Jb (QM (JB (IntKind.u64.wrap (IntKind.u64.wrap (2 * Qx a b n) + 1)))) (JB (IntKind.u64.wrap n)))) m
def JUy:Bool:= bif decide (J6 a > 2147483648) || decide (J6 b > 2147483648) || decide (n < 1) || decide (n > 4611686018427387904) || !(m == 0 || m == 1 || m == 2) then false else jZ (decide (Qk a b < 0)) (Qx a b n) (JF4 (Jb (QM (JB (Qx a b n))) (JB (IntKind.u64.wrap n))) (QM (Jb (JB (J6 a)) (JB (J6 b)))) == 0) (JF4 (Jb (JB 4) (QM (Jb (JB (J6 a)) (JB (J6 b))))) (Jb (QM (JB (IntKind.u64.wrap (IntKind.u64.wrap (2 * Qx a b n) + 1)))) (JB (IntKind.u64.wrap n)))) m
def Y9:Int:= IntKind.u64.wrap (IntKind.u64.wrap (2 * Qx a b n) + 1)
end
def JDc (a b n m:Int):List Prop :=
 [(decide (J6 a > 2147483648) || decide (J6 b > 2147483648) || decide (n < 1) || decide (n > 4611686018427387904) || !(m == 0 || m == 1 || m == 2)) = false → (-9223372036854775808 ≤ a ∧ a < 9223372036854775808) ∧ (-9223372036854775808 ≤ b ∧ b < 9223372036854775808) ∧ (∀ (i:Nat),0 ≤ dg (Jb (JB (J6 a)) (JB (J6 b))) i ∧ dg (Jb (JB (J6 a)) (JB (J6 b))) i < 65536) ∧ List.length (Jb (JB (J6 a)) (JB (J6 b))) + List.length (Jb (JB (J6 a)) (JB (J6 b))) ≤ 1000000 ∧ 0 ≤ IntKind.u64.wrap n ∧ IntKind.u64.wrap n < 18446744073709551616 ∧ (0 ≤ 63 ∧ (∀ (i:Nat),0 ≤ dg (QM (Jb (JB (J6 a)) (JB (J6 b)))) i ∧ dg (QM (Jb (JB (J6 a)) (JB (J6 b)))) i < 65536) ∧ (List.length (QM (Jb (JB (J6 a)) (JB (J6 b)))) ≠ 0 → dg (QM (Jb (JB (J6 a)) (JB (J6 b)))) (List.length (QM (Jb (JB (J6 a)) (JB (J6 b)))) - 1) ≠ 0) ∧ (∀ (i:Nat),0 ≤ dg (JB (IntKind.u64.wrap n)) i ∧ dg (JB (IntKind.u64.wrap n)) i < 65536) ∧ (List.length (JB (IntKind.u64.wrap n)) ≠ 0 → dg (JB (IntKind.u64.wrap n)) (List.length (JB (IntKind.u64.wrap n)) - 1) ≠ 0) ∧ List.length (QM (Jb (JB (J6 a)) (JB (J6 b)))) ≤ 100 ∧ List.length (JB (IntKind.u64.wrap n)) ≤ 100 ∧ 0 < val (JB (IntKind.u64.wrap n)) ∧ val (QM (Jb (JB (J6 a)) (JB (J6 b)))) < 85070591730234615865843651857942052864) ∧ Int.ofNat 62 = 62 ∧ fr 63 (val (QM (Jb (JB (J6 a)) (JB (J6 b)))) / val (JB (IntKind.u64.wrap n))) 0 = 0 ∧ 0 ≤ Qx a b n ∧ Qx a b n < 18446744073709551616 ∧ 0 ≤ Y9 a b n ∧ Y9 a b n < 18446744073709551616 ∧ Int.ofNat 0 ≤ 4 ∧ Int.ofNat 4 < 18446744073709551616 ∧ (∀ (i:Nat),Int.ofNat 0 ≤ dg (JB 4) i ∧ dg (JB 4) i < 65536) ∧ (∀ (i:Nat),0 ≤ dg (QM (Jb (JB (J6 a)) (JB (J6 b)))) i ∧ dg (QM (Jb (JB (J6 a)) (JB (J6 b)))) i < 65536) ∧ 1 + List.length (QM (Jb (JB (J6 a)) (JB (J6 b)))) ≤ 1000000 ∧ (∀ (i:Nat),0 ≤ dg (JB (Y9 a b n)) i ∧ dg (JB (Y9 a b n)) i < 65536) ∧ List.length (JB (Y9 a b n)) + List.length (JB (Y9 a b n)) ≤ 1000000 ∧ (∀ (i:Nat),0 ≤ dg (QM (JB (Y9 a b n))) i ∧ dg (QM (JB (Y9 a b n))) i < 65536) ∧ (∀ (i:Nat),0 ≤ dg (JB (IntKind.u64.wrap n)) i ∧ dg (JB (IntKind.u64.wrap n)) i < 65536) ∧ List.length (QM (JB (Y9 a b n))) + List.length (JB (IntKind.u64.wrap n)) ≤ 1000000 ∧ List.length (Jb (JB 4) (QM (Jb (JB (J6 a)) (JB (J6 b))))) ≤ 1000000 ∧ (∀ (i:Nat),0 ≤ dg (JB (Qx a b n)) i ∧ dg (JB (Qx a b n)) i < 65536) ∧ List.length (JB (Qx a b n)) + List.length (JB (Qx a b n)) ≤ 1000000 ∧ (∀ (i:Nat),0 ≤ dg (QM (JB (Qx a b n))) i ∧ dg (QM (JB (Qx a b n))) i < 65536) ∧ (∀ (i:Nat),0 ≤ dg (JB (IntKind.u64.wrap n)) i ∧ dg (JB (IntKind.u64.wrap n)) i < 65536) ∧ List.length (QM (JB (Qx a b n))) + List.length (JB (IntKind.u64.wrap n)) ≤ 1000000 ∧ List.length (Jb (QM (JB (Qx a b n))) (JB (IntKind.u64.wrap n))) ≤ 1000000]
theorem JjH {a:Int} {b:Int} {n:Int} {m:Int} (hW:∀ q ∈ ([Xa a,Xa b,Xa n]:List Prop),q):∀ q ∈ (JDc a b n m),q := by
  simp only [awc,awn,and_true] at hW
  unfold JDc
  simp only [awc,awn,and_true]
  obtain ⟨ha,hb,hn⟩ := hW
  intro h
  simp only [Bool.or_eq_false_iff,decide_eq_false_iff_not] at h
  obtain ⟨A1,A2,A3,A4,A5,A6⟩ := Ji8 ha hb (by omega) (by omega)
  have ew:IntKind.u64.wrap n = n := W2 (by omega) (by omega)
  obtain ⟨D1,D2,D3,D4⟩ := JEo (n := n) ⟨by omega,by omega⟩
  rw [ew]
  have hX:QM (Jb (JB (J6 a)) (JB (J6 b))) = Jb (Jb (JB (J6 a)) (JB (J6 b))) (Jb (JB (J6 a)) (JB (J6 b))) := rfl
  obtain ⟨X1,X2,X3,X4⟩ := WB A1 A1
  rw [← hX] at X1 X2 X3 X4
  rw [A3] at X3
  have hp := Kh 4611686018427387904 4611686018427387904 (x := J6 a * J6 b) (y := J6 a * J6 b) ⟨A5,A6⟩ ⟨A5,A6⟩ (by omega)
  have hx1:val (QM (Jb (JB (J6 a)) (JB (J6 b)))) < 85070591730234615865843651857942052864 := by rw [X3]; omega
  have es:Qx a b n = fr 63 (val (QM (Jb (JB (J6 a)) (JB (J6 b)))) / n) 63 := by unfold Qx; rw [ew,D3]
  have hv:0 ≤ val (QM (Jb (JB (J6 a)) (JB (J6 b)))) / n := Int.ediv_nonneg (by rw [X3]; omega) (by omega)
  have hv1:val (QM (Jb (JB (J6 a)) (JB (J6 b)))) / n < 2 ^ 63 * 2 ^ 63 := by
    have := Int.ediv_le_self n (show 0 ≤ val (QM (Jb (JB (J6 a)) (JB (J6 b)))) by rw [X3]; omega)
    have e:(2:Int) ^ 63 * 2 ^ 63 = 85070591730234615865843651857942052864 := rfl
    omega
  have hq := Jst hv hv1 (j := 63) (by omega)
  rw [← es] at hq
  have e63:(2:Int) ^ 63 = 9223372036854775808 := rfl
  have hs:Y9 a b n = 2 * Qx a b n + 1 := by
    unfold Y9
    rw [W2 (x := 2 * Qx a b n) (by omega) (by omega),W2 (by omega) (by omega)]
  obtain ⟨q1,q2,q3,q4,q5,q6⟩ := JFW (n := Y9 a b n) ⟨by omega,by omega⟩
  obtain ⟨s1,s2,s3,s4,s5,s6⟩ := JFW (n := Qx a b n) ⟨by omega,by omega⟩
  obtain ⟨F1,F2,F3,F4⟩ := JEo (n := 4) ⟨by omega,by omega⟩
  obtain ⟨g1,g2,g3,g4⟩ := WB F1 X1
  obtain ⟨k1,k2,k3,k4⟩ := WB s3 D1
  exact ⟨ha,hb,A1,by omega,by omega,by omega,⟨by omega,X1,X2,D1,D2,by omega,by omega,by omega,hx1⟩,rfl,rfl,by omega,by omega,by omega,by omega,by decide,by decide,F1,X1,by omega,q1,by omega,q3,D1,by omega,by omega,s1,by omega,s3,D1,by omega,by omega⟩
theorem Jly (a b n m:Int) (hNeeds:∀ pN ∈ (JDc a b n m),pN):Runs (Jm (JC JL2) KK 143) (JG6.args [.i a,.i b,.i n,.i m]) (JG6.memo [.i a,.i b,.i n,.i m] []) JG6.n (SV.tup [(false,[Ci (j8 a b n m)]),(false,[Cb (JUy a b n m)])]) ([]) :=
  Runs.of1 (ps := (JDc a b n m)) (by kernel_rfl) hNeeds
def JRd:List Pm → Qs → Option CRes
  | [.i a,.i b,.i n,.i m],[] => some ⟨SV.tup [(false,[Ci (j8 a b n m)]),(false,[Cb (JUy a b n m)])],
 [],[Xa a,Xa b,Xa n],[],922⟩
  | _,_ => none
theorem JsX:Ql Tryz.prog 143 (JU JG6 JRd) := by
  refine JI (JE Jcr 143) fun ps ls r hr hn _ => ?_
  unfold JRd at hr
  split at hr
  · cases hr; exact ⟨_,Jly _ _ _ _ (JjH (by exact hn)),fun _ => rfl⟩
  · cases hr
def Jeh:List (Nat × JY) := (143,JU JG6 JRd) :: JL2
theorem JTT:Known Tryz.prog (JC Jeh) KK := J7 Jcr JsX
def X5 (n:Int):Int := fr 63 n 63
theorem Je9 {n:Int} (h0:0 ≤ n) (h1:n < 9223372036854775808):0 ≤ X5 n ∧ X5 n * X5 n ≤ n ∧ n < (X5 n + 1) * (X5 n + 1) ∧ X5 n ≤ 3037000499 := by
  obtain ⟨a,b,c,d⟩ := JdH (T := 63) h0 (show n < 2 ^ 63 * 2 ^ 63 from by have:(2:Int) ^ 63 * 2 ^ 63 = 85070591730234615865843651857942052864 := rfl; omega)
  have:fr 63 n 63 ≤ 3037000499 := by
    rcases Int.lt_or_le 3037000499 (fr 63 n 63) with h | h
    · have := Int.mul_le_mul (show (3037000500:Int) ≤ fr 63 n 63 by omega) (show (3037000500:Int) ≤ fr 63 n 63 by omega) (by omega) a
      omega
    · exact h
  exact ⟨a,b,c,this⟩
theorem Jod {n:Int} (h0:0 ≤ n) (h:Xa n):val (Jb (JB (J6 n)) (JB (J6 1))) = n := by
  show val (Jaq _ _) = _
  rw [(JCi (Qt h) (Qt (a := 1) (by decide))).2.2,Xu n h,Xu 1 (by decide),if_neg (by omega),if_neg (by omega),Int.mul_one]
theorem Jqi {n m:Int} (h0:0 ≤ n) (h:Xa n) (hm:m = 0 ∨ m = 1 ∨ m = 2):JI3 n 1 m = true ∧ qA n 1 m = if (m = 1 ∧ X5 n * X5 n ≠ n) ∨ (m = 2 ∧ X5 n * (X5 n + 1) < n) then X5 n + 1 else X5 n := by
  obtain ⟨a,b,c,d⟩ := Je9 h0 h.2
  obtain ⟨x1,x2,x3⟩ := JCi (Qt h) (Qt (a := 1) (by decide))
  have vX := Jod h0 h
  have X1:jK (Jb (JB (J6 n)) (JB (J6 1))) := x1
  have X2:JHD (Jb (JB (J6 n)) (JB (J6 1))) := x2
  have hc:(decide (n < 0) || decide ((1:Int) < 0) || !(m == 0 || m == 1 || m == 2)) = false := by
    rw [decide_eq_false (by omega)]
    rcases hm with rfl | rfl | rfl <;> rfl
  have es:fr 63 (val (Jb (JB (J6 n)) (JB (J6 1)))) 63 = X5 n := by rw [vX]; rfl
  have e0:JLF (Jb (JB (J6 n)) (JB (J6 1))) = decide (X5 n * X5 n = n) := by
    unfold JLF
    rw [es]
    have:JF4 (Jb (JB (X5 n)) (JB (X5 n))) (Jb (JB (J6 n)) (JB (J6 1))) = _ := (sqD ⟨a,by omega⟩ X1 X2).1
    rw [this,vX]
    rcases JCe (X5 n * X5 n) n with ⟨g1,g2⟩ | ⟨g1,g2⟩ | ⟨g1,g2⟩ <;> rw [g2] <;> simp <;> omega
  have e1:JKk (Jb (JB (J6 n)) (JB (J6 1))) = if X5 n * (X5 n + 1) < n then 1 else -1 := by
    unfold JKk Jgu
    rw [es,W2 (by omega) (by omega)]
    obtain ⟨y1,y2,y3⟩ := JCi (a := X5 n) (b := X5 n + 1) ⟨a,by omega⟩ ⟨by omega,by omega⟩
    have:JF4 (Jb (JB (J6 n)) (JB (J6 1))) (Jb (JB (X5 n)) (JB (X5 n + 1))) = _ := JOa X1 y1 X2 y2
    have y4:val (Jb (JB (X5 n)) (JB (X5 n + 1))) = _ := y3
    rw [this,vX,y4]
    rcases JCe n (X5 n * (X5 n + 1)) with ⟨g1,g2⟩ | ⟨g1,g2⟩ | ⟨g1,g2⟩ <;> rw [g2]
    · rw [if_neg (by omega)]; rfl
    · rw [if_neg (by omega)]; rfl
    · rw [if_pos (by omega)]; rfl
  unfold qA JI3
  rw [hc,cond_false,cond_false,es,e0,e1]
  have es0:Xe false (X5 n) (decide (X5 n * X5 n = n)) (if X5 n * (X5 n + 1) < n then 1 else -1) m = if (m = 1 ∧ X5 n * X5 n ≠ n) ∨ (m = 2 ∧ X5 n * (X5 n + 1) < n) then X5 n + 1 else X5 n := by
    unfold Xe
    have w:IntKind.u64.wrap (X5 n + 1) = X5 n + 1 := W2 (by omega) (by omega)
    rw [w]
    rcases hm with rfl | rfl | rfl
    · rfl
    · by_cases h:X5 n * X5 n = n
      · simp [h]
      · simp [h]
    · by_cases h:X5 n * (X5 n + 1) < n
      · simp [h]
      · simp [h]
  have hb:0 ≤ (if (m = 1 ∧ X5 n * X5 n ≠ n) ∨ (m = 2 ∧ X5 n * (X5 n + 1) < n) then X5 n + 1 else X5 n) ∧ (if (m = 1 ∧ X5 n * X5 n ≠ n) ∨ (m = 2 ∧ X5 n * (X5 n + 1) < n) then X5 n + 1 else X5 n) ≤ 3037000500 := by split <;> omega
  unfold ja jZ
  rw [es0,decide_eq_false (by omega)]
  generalize (if (m = 1 ∧ X5 n * X5 n ≠ n) ∨ (m = 2 ∧ X5 n * (X5 n + 1) < n) then X5 n + 1 else X5 n) = v at *
  simp only [cond_false]
  rw [decide_eq_false (by omega),cond_false,X6 (by omega) (by omega)]
  exact ⟨rfl,rfl⟩
end
end Go.Proofs.YtmbfbhimdkjkoaaGreat
