/-
  Texts of one claim, laid together. Conditions: none.
-/
import Derived.Test.YtmbfbhimdkjkoaaGreatMfce52620
set_option linter.all false
set_option maxRecDepth 1000000
namespace Go.Proofs.YtmbfbhimdkjkoaaGreat
noncomputable section
open Go.SX Go.RowKit
def JIu:Tpl := ⟨[.one (.int .i64)],[],0⟩
theorem Joc (k:Int):Runs (Jr (JB Je3) XL 30) (JIu.args [.i k]) (JIu.memo [.i k] []) JIu.n (SV.one (Cb (J5 k))) ([]) :=
  Runs.of1 (ps := []) (by kernel_rfl) (by simp)
def JYW:List Pm → Qm → Option CRes
  | [.i k],[] => some ⟨SV.one (Cb (J5 k)),
 [],[],[],8⟩
  | _,_ => none
theorem Jtf:Qg Tryz.prog 30 (JS JIu JYW) := by
  refine JH (JD JSs 30) fun ps ls r hr hn _ => ?_
  unfold JYW at hr
  split at hr
  · cases hr; exact ⟨_,Joc _,fun _ => rfl⟩
  · cases hr
def JkW:List (Nat × JY) := (30,JS JIu JYW) :: Je3
theorem JYl:Known Tryz.prog (JB JkW) XL := J7 JSs Jtf
def JJI:Tpl := ⟨[.one (.int .i64),.one (.int .i64)],[],0⟩
theorem JoM (n m:Int):Runs (Jr (JB JkW) XL 55) (JJI.args [.i n,.i m]) (JJI.memo [.i n,.i m] []) JJI.n (SV.one (Cb (Jc n m))) ([]) :=
  Runs.of1 (ps := []) (by kernel_rfl) (by simp)
def JXy:List Pm → Qm → Option CRes
  | [.i n,.i m],[] => some ⟨SV.one (Cb (Jc n m)),
 [],[],[],11⟩
  | _,_ => none
theorem JtX:Qg Tryz.prog 55 (JS JJI JXy) := by
  refine JH (JD JYl 55) fun ps ls r hr hn _ => ?_
  unfold JXy at hr
  split at hr
  · cases hr; exact ⟨_,JoM _ _,fun _ => rfl⟩
  · cases hr
def Jj0:List (Nat × JY) := (55,JS JJI JXy) :: JkW
theorem JVK:Known Tryz.prog (JB Jj0) XL := J7 JYl JtX
def Wy:Tpl := ⟨[.agg [.int .i64,.int .i64,.int .i64]],[],0⟩
def Ku (a b c:Int):Bool :=
 Jc a 1048576 && Jc b 1048576 && Jc c 1048576
theorem Jai (a b c:Int):Runs (Jr (JB Jj0) XL 41) (Wy.args [.i a,.i b,.i c]) (Wy.memo [.i a,.i b,.i c] []) Wy.n (SV.one (Cb (Ku a b c))) ([]) :=
  Runs.of1 (ps := []) (by kernel_rfl) (by simp)
def JH0:List Pm → Qm → Option CRes
  | [.i a,.i b,.i c],[] => some ⟨SV.one (Cb (Ku a b c)),
 [],[],[],53⟩
  | _,_ => none
theorem JhA:Qg Tryz.prog 41 (JS Wy JH0) := by
  refine JH (JD JVK 41) fun ps ls r hr hn _ => ?_
  unfold JH0 at hr
  split at hr
  · cases hr; exact ⟨_,Jai _ _ _,fun _ => rfl⟩
  · cases hr
def JLT:List (Nat × JY) := (41,JS Wy JH0) :: Jj0
theorem JIS:Known Tryz.prog (JB JLT) XL := J7 JVK JhA
def kP:Tpl := ⟨[.one (.int .i64)],[],0⟩
def JC7 (p:Int):Bool :=
 p == 17 || p == 18 || p == 19
theorem JeQ (p:Int):Runs (Jr (JB JLT) XL 42) (kP.args [.i p]) (kP.memo [.i p] []) kP.n (SV.one (Cb (JC7 p))) ([]) :=
  Runs.of1 (ps := []) (by kernel_rfl) (by simp)
def JJe:List Pm → Qm → Option CRes
  | [.i p],[] => some ⟨SV.one (Cb (JC7 p)),
 [],[],[],12⟩
  | _,_ => none
theorem Jkf:Qg Tryz.prog 42 (JS kP JJe) := by
  refine JH (JD JIS 42) fun ps ls r hr hn _ => ?_
  unfold JJe at hr
  split at hr
  · cases hr; exact ⟨_,JeQ _,fun _ => rfl⟩
  · cases hr
def JQd:List (Nat × JY) := (42,JS kP JJe) :: JLT
theorem JLE:Known Tryz.prog (JB JQd) XL := J7 JIS Jkf
def JD1:Tpl := ⟨[.one (.int .i64),.agg [.int .i64,.int .i64,.int .i64]],[],0⟩
theorem Jgb (p a b c:Int):Runs (Jr (JB JQd) XL 77) (JD1.args [.i p,.i a,.i b,.i c]) (JD1.memo [.i p,.i a,.i b,.i c] []) JD1.n (SV.tup [(true,[Ci (J3 p a b c),Ci (J4 p a b c)]),(false,[Ci (J9 p a b c)]),(false,[Cb (Kg p)])]) ([]) :=
  Runs.of1 (ps := []) (by kernel_rfl) (by simp)
def JLy:List Pm → Qm → Option CRes
  | [.i p,.i a,.i b,.i c],[] => some ⟨SV.tup [(true,[Ci (J3 p a b c),Ci (J4 p a b c)]),(false,[Ci (J9 p a b c)]),(false,[Cb (Kg p)])],
 [],[],[],66⟩
  | _,_ => none
theorem JnB:Qg Tryz.prog 77 (JS JD1 JLy) := by
  refine JH (JD JLE 77) fun ps ls r hr hn _ => ?_
  unfold JLy at hr
  split at hr
  · cases hr; exact ⟨_,Jgb _ _ _ _,fun _ => rfl⟩
  · cases hr
def JWN:List (Nat × JY) := (77,JS JD1 JLy) :: JQd
theorem JO0:Known Tryz.prog (JB JWN) XL := J7 JLE JnB
def JIq:Tpl := ⟨[.one (.int .i64),.agg [.int .i64,.int .i64,.int .i64]],[],0⟩
theorem JoL (p a b c:Int):Runs (Jr (JB JWN) XL 78) (JIq.args [.i p,.i a,.i b,.i c]) (JIq.memo [.i p,.i a,.i b,.i c] []) JIq.n (SV.agg [Ci (J3 p a b c),Ci (J4 p a b c)]) ([]) :=
  Runs.of1 (ps := []) (by kernel_rfl) (by simp)
def JX1:List Pm → Qm → Option CRes
  | [.i p,.i a,.i b,.i c],[] => some ⟨SV.agg [Ci (J3 p a b c),Ci (J4 p a b c)],
 [],[],[],95⟩
  | _,_ => none
theorem JtN:Qg Tryz.prog 78 (JS JIq JX1) := by
  refine JH (JD JO0 78) fun ps ls r hr hn _ => ?_
  unfold JX1 at hr
  split at hr
  · cases hr; exact ⟨_,JoL _ _ _ _,fun _ => rfl⟩
  · cases hr
def Jjo:List (Nat × JY) := (78,JS JIq JX1) :: JWN
theorem JZf:Known Tryz.prog (JB Jjo) XL := J7 JO0 JtN
def JON:Tpl := ⟨[.one (.int .i64),.agg [.int .i64,.int .i64,.int .i64]],[],0⟩
theorem Jr6 (p a b c:Int):Runs (Jr (JB Jjo) XL 56) (JON.args [.i p,.i a,.i b,.i c]) (JON.memo [.i p,.i a,.i b,.i c] []) JON.n (SV.one (Ci (J9 p a b c))) ([]) :=
  Runs.of1 (ps := []) (by kernel_rfl) (by simp)
def Jcq:List Pm → Qm → Option CRes
  | [.i p,.i a,.i b,.i c],[] => some ⟨SV.one (Ci (J9 p a b c)),
 [],[],[],90⟩
  | _,_ => none
theorem Jvg:Qg Tryz.prog 56 (JS JON Jcq) := by
  refine JH (JD JZf 56) fun ps ls r hr hn _ => ?_
  unfold Jcq at hr
  split at hr
  · cases hr; exact ⟨_,Jr6 _ _ _ _,fun _ => rfl⟩
  · cases hr
def Jqm:List (Nat × JY) := (56,JS JON Jcq) :: Jjo
theorem Jas:Known Tryz.prog (JB Jqm) XL := J7 JZf Jvg
def zH:Tpl := ⟨[.one (.int .i64),.agg [.int .i64,.int .i64],.one (.int .i64)],[],0⟩
theorem JeM (p u w h:Int):Runs (Jr (JB Jqm) XL 76) (zH.args [.i p,.i u,.i w,.i h]) (zH.memo [.i p,.i u,.i w,.i h] []) zH.n (SV.tup [(true,[Ci (JR p u w h),Ci (JP p u w h),Ci (JQ p u w h)]),(false,[Cb (Kg p)])]) ([]) :=
  Runs.of1 (ps := []) (by kernel_rfl) (by simp)
def JIo:List Pm → Qm → Option CRes
  | [.i p,.i u,.i w,.i h],[] => some ⟨SV.tup [(true,[Ci (JR p u w h),Ci (JP p u w h),Ci (JQ p u w h)]),(false,[Cb (Kg p)])],
 [],[],[],65⟩
  | _,_ => none
theorem JkH:Qg Tryz.prog 76 (JS zH JIo) := by
  refine JH (JD Jas 76) fun ps ls r hr hn _ => ?_
  unfold JIo at hr
  split at hr
  · cases hr; exact ⟨_,JeM _ _ _ _,fun _ => rfl⟩
  · cases hr
def JRC:List (Nat × JY) := (76,JS zH JIo) :: Jqm
theorem JKo:Known Tryz.prog (JB JRC) XL := J7 Jas JkH
def JIA:Tpl := ⟨[.one (.int .i64),.agg [.int .i64,.int .i64],.one (.int .i64)],[],0⟩
theorem Jn4 (p u w h:Int):Runs (Jr (JB JRC) XL 53) (JIA.args [.i p,.i u,.i w,.i h]) (JIA.memo [.i p,.i u,.i w,.i h] []) JIA.n (SV.agg [Ci (JR p u w h),Ci (JP p u w h),Ci (JQ p u w h)]) ([]) :=
  Runs.of1 (ps := []) (by kernel_rfl) (by simp)
def JXi:List Pm → Qm → Option CRes
  | [.i p,.i u,.i w,.i h],[] => some ⟨SV.agg [Ci (JR p u w h),Ci (JP p u w h),Ci (JQ p u w h)],
 [],[],[],96⟩
  | _,_ => none
theorem Jtr:Qg Tryz.prog 53 (JS JIA JXi) := by
  refine JH (JD JKo 53) fun ps ls r hr hn _ => ?_
  unfold JXi at hr
  split at hr
  · cases hr; exact ⟨_,Jn4 _ _ _ _,fun _ => rfl⟩
  · cases hr
def JiC:List (Nat × JY) := (53,JS JIA JXi) :: JRC
theorem JYA:Known Tryz.prog (JB JiC) XL := J7 JKo Jtr
def JMl:Tpl := ⟨[.agg [.int .i64,.int .i64],.agg [.int .i64,.int .i64],.one (.bool)],[],0⟩
section
variable (a b c d:Int) (e:Bool)
def JAg:Int:=
 bif decide (J8 a b a b > J8 c d c d) then J8 c d c d else J8 a b a b
def Wu:Int:=
 IntKind.i64.wrap (IntKind.i64.wrap ((bif decide (J8 a b a b > J8 c d c d) then J8 a b a b else J8 c d c d) - JAg a b c d) - 16)
def Jfm:Bool:=
 bif decide (JAg a b c d < 64) then false else bif decide (Wu a b c d > 0) && decide (JHJ (Wu a b c d) (Wu a b c d) 64 (JAg a b c d) > 0) then false else bif e then a == c && b == d else !(JE a b c d == 0 && decide (J8 a b c d > 0))
def Jcl:Prop:=
 decide (Wu a b c d > 0) = true
def JKK:List Prop:=
 [decide (JAg a b c d < 64) = false → (Jcl a b c d → -9223372036854775808 ≤ Wu a b c d ∧ Wu a b c d < 9223372036854775808) ∧ (Jcl a b c d → -9223372036854775808 ≤ Wu a b c d ∧ Wu a b c d < 9223372036854775808) ∧ (Jcl a b c d → -9223372036854775808 ≤ 64 ∧ Int.ofNat 64 < 9223372036854775808) ∧ (Jcl a b c d → -9223372036854775808 ≤ JAg a b c d ∧ JAg a b c d < 9223372036854775808)]
end
theorem Jqs {a:Int} {b:Int} {c:Int} {d:Int}:∀ q ∈ (JKK a b c d),q := by
  intro q hq
  unfold JKK at hq
  simp only [List.mem_cons,List.not_mem_nil,or_false] at hq
  subst hq
  intro _
  have h0:XT (JAg a b c d) := by
    unfold JAg
    cases decide (J8 a b a b > J8 c d c d)
    · exact Jk _
    · exact Jk _
  have h1:XT (Wu a b c d) := Jk _
  exact ⟨fun _ => h1,fun _ => h1,fun _ => ⟨by decide,by decide⟩,fun _ => h0⟩
theorem Jpg (a b c d:Int) (e:Bool) (hNeeds:∀ pN ∈ (JKK a b c d),pN):Runs (Jr (JB JiC) XL 58) (JMl.args [.i a,.i b,.i c,.i d,.b e]) (JMl.memo [.i a,.i b,.i c,.i d,.b e] []) JMl.n (SV.one (Cb (Jfm a b c d e))) ([]) :=
  Runs.of1 (ps := (JKK a b c d)) (by kernel_rfl) hNeeds
def JcX:List Pm → Qm → Option CRes
  | [.i a,.i b,.i c,.i d,.b e],[] => some ⟨SV.one (Cb (Jfm a b c d e)),
 [],[],[],539⟩
  | _,_ => none
theorem JvI:Qg Tryz.prog 58 (JS JMl JcX) := by
  refine JH (JD JYA 58) fun ps ls r hr hn _ => ?_
  unfold JcX at hr
  split at hr
  · cases hr; exact ⟨_,Jpg _ _ _ _ _ (fun p hp => Jqs p hp),fun _ => rfl⟩
  · cases hr
def Jsy:List (Nat × JY) := (58,JS JMl JcX) :: JiC
theorem Jc6:Known Tryz.prog (JB Jsy) XL := J7 JYA JvI
def zq:Tpl := ⟨[.agg pI],[],0⟩
theorem JcE (k bl f0 f1 f2 t0 t1 t2 p c0 c1 c2 d:Int) (fu:Bool) (fe:Int) (pr:Bool) (si ra be n sp:Int) (on:Bool):Runs (Jr (JB Jsy) XL 57) (zq.args [.i k,.i bl,.i f0,.i f1,.i f2,.i t0,.i t1,.i t2,.i p,.i c0,.i c1,.i c2,.i d,.b fu,.i fe,.b pr,.i si,.i ra,.i be,.i n,.i sp,.b on]) (zq.memo [.i k,.i bl,.i f0,.i f1,.i f2,.i t0,.i t1,.i t2,.i p,.i c0,.i c1,.i c2,.i d,.b fu,.i fe,.b pr,.i si,.i ra,.i be,.i n,.i sp,.b on] []) zq.n (SV.tup [(true,[Ci (J0 (J3 p f0 f1 f2) (J3 p c0 c1 c2)),Ci (J0 (J4 p f0 f1 f2) (J4 p c0 c1 c2))]),(true,[Ci (J0 (J3 p t0 t1 t2) (J3 p c0 c1 c2)),Ci (J0 (J4 p t0 t1 t2) (J4 p c0 c1 c2))])]) ([]) :=
  Runs.of1 (ps := []) (by kernel_rfl) (by simp)
def JIX:List Pm → Qm → Option CRes
  | [.i k,.i bl,.i f0,.i f1,.i f2,.i t0,.i t1,.i t2,.i p,.i c0,.i c1,.i c2,.i d,.b fu,.i fe,.b pr,.i si,.i ra,.i be,.i n,.i sp,.b on],[] => some ⟨SV.tup [(true,[Ci (J0 (J3 p f0 f1 f2) (J3 p c0 c1 c2)),Ci (J0 (J4 p f0 f1 f2) (J4 p c0 c1 c2))]),(true,[Ci (J0 (J3 p t0 t1 t2) (J3 p c0 c1 c2)),Ci (J0 (J4 p t0 t1 t2) (J4 p c0 c1 c2))])],
 [],[],[],401⟩
  | _,_ => none
theorem JiE:Qg Tryz.prog 57 (JS zq JIX) := by
  refine JH (JD Jc6 57) fun ps ls r hr hn _ => ?_
  unfold JIX at hr
  split at hr
  · cases hr; exact ⟨_,JcE _ _ _ _ _ _ _ _ _ _ _ _ _ _ _ _ _ _ _ _ _ _,fun _ => rfl⟩
  · cases hr
def JQ5:List (Nat × JY) := (57,JS zq JIX) :: Jsy
theorem JKr:Known Tryz.prog (JB JQ5) XL := J7 Jc6 JiE
def JCT:Tpl := ⟨[.agg pI],[],0⟩
def W2 (k f0 f1 f2 t0 t1 t2 p c0 c1 c2 d:Int) (fu:Bool):Int :=
 bif k != 3 || !JC7 p || !Ku f0 f1 f2 || !Ku t0 t1 t2 || !Ku c0 c1 c2 || d != 1 && d != -1 || J9 p f0 f1 f2 != J9 p c0 c1 c2 then 1 else bif !Jfm (J0 (J3 p f0 f1 f2) (J3 p c0 c1 c2)) (J0 (J4 p f0 f1 f2) (J4 p c0 c1 c2)) (J0 (J3 p t0 t1 t2) (J3 p c0 c1 c2)) (J0 (J4 p t0 t1 t2) (J4 p c0 c1 c2)) fu then 12 else 0
theorem JgW (k bl f0 f1 f2 t0 t1 t2 p c0 c1 c2 d:Int) (fu:Bool) (fe:Int) (pr:Bool) (si ra be n sp:Int) (on:Bool):Runs (Jr (JB JQ5) XL 44) (JCT.args [.i k,.i bl,.i f0,.i f1,.i f2,.i t0,.i t1,.i t2,.i p,.i c0,.i c1,.i c2,.i d,.b fu,.i fe,.b pr,.i si,.i ra,.i be,.i n,.i sp,.b on]) (JCT.memo [.i k,.i bl,.i f0,.i f1,.i f2,.i t0,.i t1,.i t2,.i p,.i c0,.i c1,.i c2,.i d,.b fu,.i fe,.b pr,.i si,.i ra,.i be,.i n,.i sp,.b on] []) JCT.n (SV.one (Ci (W2 k f0 f1 f2 t0 t1 t2 p c0 c1 c2 d fu))) ([]) :=
  Runs.of1 (ps := []) (by kernel_rfl) (by simp)
def JMX:List Pm → Qm → Option CRes
  | [.i k,.i bl,.i f0,.i f1,.i f2,.i t0,.i t1,.i t2,.i p,.i c0,.i c1,.i c2,.i d,.b fu,.i fe,.b pr,.i si,.i ra,.i be,.i n,.i sp,.b on],[] => some ⟨SV.one (Ci (W2 k f0 f1 f2 t0 t1 t2 p c0 c1 c2 d fu)),
 [],[],[],1394⟩
  | _,_ => none
theorem JoB:Qg Tryz.prog 44 (JS JCT JMX) := by
  refine JH (JD JKr 44) fun ps ls r hr hn _ => ?_
  unfold JMX at hr
  split at hr
  · cases hr; exact ⟨_,JgW _ _ _ _ _ _ _ _ _ _ _ _ _ _ _ _ _ _ _ _ _ _,fun _ => rfl⟩
  · cases hr
def JZv:List (Nat × JY) := (44,JS JCT JMX) :: JQ5
theorem JMs:Known Tryz.prog (JB JZv) XL := J7 JKr JoB
def JF8:Tpl := ⟨[.one (.int .i64),.one (.int .i64),.one (.int .i64)],[],0⟩
def KA (n m k:Int):Bool :=
 decide (n ≥ m) && decide (n ≤ k)
theorem Jk2 (n m k:Int):Runs (Jr (JB JZv) XL 39) (JF8.args [.i n,.i m,.i k]) (JF8.memo [.i n,.i m,.i k] []) JF8.n (SV.one (Cb (KA n m k))) ([]) :=
  Runs.of1 (ps := []) (by kernel_rfl) (by simp)
def JQX:List Pm → Qm → Option CRes
  | [.i n,.i m,.i k],[] => some ⟨SV.one (Cb (KA n m k)),
 [],[],[],10⟩
  | _,_ => none
theorem JrM:Qg Tryz.prog 39 (JS JF8 JQX) := by
  refine JH (JD JMs 39) fun ps ls r hr hn _ => ?_
  unfold JQX at hr
  split at hr
  · cases hr; exact ⟨_,Jk2 _ _ _,fun _ => rfl⟩
  · cases hr
def Jf9:List (Nat × JY) := (39,JS JF8 JQX) :: JZv
theorem JSe:Known Tryz.prog (JB Jf9) XL := J7 JMs JrM
def JA0:Tpl := ⟨[.agg pI],[],0⟩
def JGM:List GK := [.v Jx]
section
variable (x:List GC)
def JQu:Int:=
 bif J5 (xi x 0) then xi x 2 else 0
def JPJ:Int:=
 bif J5 (xi x 0) then xi x 3 else 0
def JRu:Int:=
 bif J5 (xi x 0) then xi x 4 else 0
def JR3:Int:=
 bif J5 (xi x 0) then xi x 5 else 0
def JRO:Int:=
 bif J5 (xi x 0) then xi x 6 else 0
def JRW:Int:=
 bif J5 (xi x 0) then xi x 7 else 0
def JS2:Int:=
 bif bif xi x 0 == 1 then xi x 0 == 1 else bif xi x 0 == 2 then xi x 0 == 2 else xi x 0 == 3 then xi x 8 else 0
def JPa:Int:=
 bif xi x 0 == 2 then 0 else bif xi x 0 == 3 then xi x 9 else 0
def JMP:Int:=
 bif xi x 0 == 2 then 0 else bif xi x 0 == 3 then xi x 10 else 0
def JM0:Int:=
 bif xi x 0 == 2 then 0 else bif xi x 0 == 3 then xi x 11 else 0
def JLo:Int:=
 bif xi x 0 == 2 then 0 else bif xi x 0 == 3 then xi x 12 else 0
def JLL:Bool:=
 bif xi x 0 == 2 then false else xi x 0 == 3 && xb x 13
def JM2:Int:=
 bif KA (xi x 0) 2 6 then xi x 14 else 0
def JLl:Bool:=
 KA (xi x 0) 2 6 && xb x 15
def JLi:Int:=
 bif bif xi x 0 == 1 then xi x 0 == 1 else bif xi x 0 == 2 then xi x 0 == 2 else xi x 0 == 3 then xi x 16 else 0
def JLz:Int:=
 bif bif xi x 0 == 1 then xi x 0 == 1 else bif xi x 0 == 2 then xi x 0 == 2 else xi x 0 == 3 then xi x 17 else 0
def JM9:Int:=
 bif xi x 0 == 2 then xi x 18 else bif xi x 0 == 3 then xi x 18 else 0
def JMF:Int:=
 bif xi x 0 == 2 then 0 else bif xi x 0 == 3 then 0 else bif bif xi x 0 == 6 then xi x 0 == 6 else bif xi x 0 == 7 then xi x 0 == 7 else xi x 0 == 11 then xi x 19 else bif xi x 0 == 8 then xi x 19 else bif bif xi x 0 == 9 then xi x 0 == 9 else xi x 0 == 10 then xi x 19 else 0
def JLx:Int:=
 bif xi x 0 == 2 then 0 else bif xi x 0 == 3 then 0 else bif bif xi x 0 == 6 then xi x 0 == 6 else bif xi x 0 == 7 then xi x 0 == 7 else xi x 0 == 11 then 0 else bif xi x 0 == 8 then xi x 20 else 0
def JMf:Bool:=
 bif xi x 0 == 2 then false else bif xi x 0 == 3 then false else bif bif xi x 0 == 6 then xi x 0 == 6 else bif xi x 0 == 7 then xi x 0 == 7 else xi x 0 == 11 then false else bif xi x 0 == 8 then false else (bif xi x 0 == 9 then xi x 0 == 9 else xi x 0 == 10) && xb x 21
end
theorem Jcv (x:List GC):Runs (Jr (JB Jf9) XL 40) (JA0.args (Je JGM [.v x])) (JA0.memo (Je JGM [.v x]) []) JA0.n (SV.agg [Ci (xi x 0),Ci (xi x 1),Ci (JQu x),Ci (JPJ x),Ci (JRu x),Ci (JR3 x),Ci (JRO x),Ci (JRW x),Ci (JS2 x),Ci (JPa x),Ci (JMP x),Ci (JM0 x),Ci (JLo x),Cb (JLL x),Ci (JM2 x),Cb (JLl x),Ci (JLi x),Ci (JLz x),Ci (JM9 x),Ci (JMF x),Ci (JLx x),Cb (JMf x)]) ([]) :=
  Runs.of1 (ps := []) (by kernel_rfl) (by simp)
def JIK:List Gm → Qm → Option CRes
  | [.v x],[] => some ⟨SV.agg [Ci (xi x 0),Ci (xi x 1),Ci (JQu x),Ci (JPJ x),Ci (JRu x),Ci (JR3 x),Ci (JRO x),Ci (JRW x),Ci (JS2 x),Ci (JPa x),Ci (JMP x),Ci (JM0 x),Ci (JLo x),Cb (JLL x),Ci (JM2 x),Cb (JLl x),Ci (JLi x),Ci (JLz x),Ci (JM9 x),Ci (JMF x),Ci (JLx x),Cb (JMf x)],
 [],[],[],307⟩
  | _,_ => none
theorem JiV:Qg Tryz.prog 40 (Z4 JGM JA0 JIK) := by
  refine QZ (JD JSe 40) fun ps ls r hr hn _ => ?_
  unfold JIK at hr
  split at hr
  · cases hr; exact ⟨_,Jcv _,fun _ => rfl⟩
  · cases hr
def JPh:List (Nat × JY) := (40,Z4 JGM JA0 JIK) :: Jf9
theorem JL3:Known Tryz.prog (JB JPh) XL := J7 JSe JiV
def JCN:Tpl := ⟨[.agg pI],[],0⟩
def JJh:List GK := [.v Jx]
def JVN (x:List GC):Bool :=
 bif xi x 0 == 5 then xb x 15 else bif xi x 0 == 6 then xb x 15 && KA (xi x 19) 3 4 else bif xi x 0 == 7 then KA (xi x 19) 0 60000 else bif xi x 0 == 8 then KA (xi x 19) 3 5 && KA (xi x 20) 0 30000 && (xi x 19 != 5 || xi x 20 == 0) else bif xi x 0 == 9 then KA (xi x 19) 7 8 else bif xi x 0 == 10 then KA (xi x 19) 0 15 else bif xi x 0 == 11 then KA (xi x 19) 0 32 else true
theorem Jhc (x:List GC):Runs (Jr (JB JPh) XL 43) (JCN.args (Je JJh [.v x])) (JCN.memo (Je JJh [.v x]) []) JCN.n (SV.one (Cb (JVN x))) ([]) :=
  Runs.of1 (ps := []) (by kernel_rfl) (by simp)
def JLa:List Gm → Qm → Option CRes
  | [.v x],[] => some ⟨SV.one (Cb (JVN x)),
 [],[],[],158⟩
  | _,_ => none
theorem Jns:Qg Tryz.prog 43 (Z4 JJh JCN JLa) := by
  refine QZ (JD JL3 43) fun ps ls r hr hn _ => ?_
  unfold JLa at hr
  split at hr
  · cases hr; exact ⟨_,Jhc _,fun _ => rfl⟩
  · cases hr
def JZd:List (Nat × JY) := (43,Z4 JJh JCN JLa) :: JPh
theorem JMn:Known Tryz.prog (JB JZd) XL := J7 JL3 Jns
def JCR:Tpl := ⟨[.agg pI],[],0⟩
def JJz:List GK := [.v Jx]
def Qr (x:List GC):Bool :=
 bif !KA (xi x 0) 1 14 || !KA (xi x 1) 0 1999 || !(xi x 0 == xi x 0 && (xi x 1 == xi x 1 && (JQu (J1 x) == xi x 2 && (JPJ (J1 x) == xi x 3 && (JRu (J1 x) == xi x 4 && (JR3 (J1 x) == xi x 5 && (JRO (J1 x) == xi x 6 && (JRW (J1 x) == xi x 7 && (JS2 (J1 x) == xi x 8 && (JPa (J1 x) == xi x 9 && (JMP (J1 x) == xi x 10 && (JM0 (J1 x) == xi x 11 && (JLo (J1 x) == xi x 12 && (JLL (J1 x) == xb x 13 && (JM2 (J1 x) == xi x 14 && (JLl (J1 x) == xb x 15 && (JLi (J1 x) == xi x 16 && (JLz (J1 x) == xi x 17 && (JM9 (J1 x) == xi x 18 && (JMF (J1 x) == xi x 19 && (JLx (J1 x) == xi x 20 && JMf (J1 x) == xb x 21))))))))))))))))))))) || !Ku (xi x 2) (xi x 3) (xi x 4) || !Ku (xi x 5) (xi x 6) (xi x 7) || !KA (xi x 18) 0 1000 || !KA (xi x 16) (-1) 1 then false else bif KA (xi x 0) 2 6 && !KA (xi x 14) 1 60000000 then false else bif xi x 16 == 0 && (xi x 17 != 0 || xi x 8 != 0 && xi x 0 != 3) || xi x 16 != 0 && (!JC7 (xi x 8) || !KA (xi x 17) 0 32768) then false else JVN (J1 x) && (xi x 0 != 3 || W2 (xi x 0) (xi x 2) (xi x 3) (xi x 4) (xi x 5) (xi x 6) (xi x 7) (xi x 8) (xi x 9) (xi x 10) (xi x 11) (xi x 12) (xb x 13) == 0)
theorem Jg5 (x:List GC):Runs (Jr (JB JZd) XL 29) (JCR.args (Je JJz [.v x])) (JCR.memo (Je JJz [.v x]) []) JCR.n (SV.one (Cb (Qr x))) ([]) :=
  Runs.of1 (ps := []) (by kernel_rfl) (by simp)
def JMb:List Gm → Qm → Option CRes
  | [.v x],[] => some ⟨SV.one (Cb (Qr x)),
 [],[],[],2172⟩
  | _,_ => none
theorem Jnc:Qg Tryz.prog 29 (Z4 JJz JCR JMb) := by
  refine QZ (JD JMn 29) fun ps ls r hr hn _ => ?_
  unfold JMb at hr
  split at hr
  · cases hr; exact ⟨_,Jg5 _,fun _ => rfl⟩
  · cases hr
def JVi:List (Nat × JY) := (29,Z4 JJz JCR JMb) :: JZd
theorem JNg:Known Tryz.prog (JB JVi) XL := J7 JMn Jnc
theorem JsD (a b c d:Int) (e:Bool):(decide (J8 a b a b < 64) || decide (J8 c d c d < 64) || !jL (J8 a b a b) (J8 c d c d) || e && !(a == c && b == d) || !e && XF a b c d) = !Jfm a b c d e := by
  have hx:XT (J8 a b a b) := Jk _
  have hy:XT (J8 c d c d) := Jk _
  unfold Jfm
  have e0:JAg a b c d = if J8 c d c d < J8 a b a b then J8 c d c d else J8 a b a b := by
    unfold JAg
    by_cases g:J8 a b a b > J8 c d c d
    · rw [decide_eq_true g,cond_true,if_pos g]
    · rw [decide_eq_false g,cond_false,if_neg g]
  have e1:Wu a b c d = WN (J8 a b a b) (J8 c d c d) := by
    unfold Wu WN
    rw [e0]
    by_cases g:J8 a b a b > J8 c d c d
    · rw [decide_eq_true g,cond_true,if_neg (show ¬ J8 c d c d > J8 a b a b by omega)]
    · rw [decide_eq_false g,cond_false]
      by_cases g2:J8 c d c d > J8 a b a b
      · rw [if_pos g2]
      · rw [if_neg g2,show J8 c d c d = J8 a b a b by omega]
  have hm:XT (if J8 c d c d < J8 a b a b then J8 c d c d else J8 a b a b) := by split <;> assumption
  have hs:XT (WN (J8 a b a b) (J8 c d c d)) := Jk _
  have e2:(decide (Wu a b c d > 0) && decide (JHJ (Wu a b c d) (Wu a b c d) 64 (JAg a b c d) > 0)) = !jL (J8 a b a b) (J8 c d c d) := by
    unfold jL JZJ
    rw [e1,e0,JcW _ _ _ _ hs hs (by decide) hm,JdD _ _ _ _ hs hs (by decide) hm]
    generalize K6 _ _ = k
    generalize WN _ _ = s
    rw [Bool.eq_iff_iff]
    simp
  have e3:decide (JAg a b c d < 64) = (decide (J8 a b a b < 64) || decide (J8 c d c d < 64)) := by
    rw [e0,Bool.eq_iff_iff]
    simp only [Bool.or_eq_true,decide_eq_true_eq]
    split <;> omega
  have e4:XF a b c d = (JE a b c d == 0 && decide (J8 a b c d > 0)) := rfl
  rw [e2,e3,e4]
  generalize (decide (J8 a b a b < 64) || decide (J8 c d c d < 64)) = u
  generalize jL _ _ = v
  generalize (JE a b c d == 0 && decide (J8 a b c d > 0)) = w
  generalize (a == c && b == d) = z
  revert u v w z e
  decide
theorem Jfg (p:Int):JC7 p = Kg p := by
  unfold Kg JC7
  rw [Bool.or_assoc]
theorem JFu (a b c:Int):Ku a b c = XG a b c := by
  unfold Ku XG Jc
  rw [show IntKind.i64.wrap (0 - 1048576) = -1048576 from by decide]
theorem JYs (k f0 f1 f2 t0 t1 t2 p c0 c1 c2 d:Int) (fu:Bool):XZ k f0 f1 f2 t0 t1 t2 p c0 c1 c2 d fu = W2 k f0 f1 f2 t0 t1 t2 p c0 c1 c2 d fu := by
  unfold XZ W2
  rw [JsD,Jfg,JFu,JFu,JFu]
  rfl
theorem JkD (k x1 x2 x3 x4 x5 x6 x7 x8 x9 x10 x11 x12 x14 x16 x17 x18 x19 x20 ac:Int) (b13 b15 b21 w1 w2 p:Bool) (h1:x2 = 0 → x3 = 0 → x4 = 0 → w1 = true) (h2:x5 = 0 → x6 = 0 → x7 = 0 → w2 = true) :
    (bif decide (x1 < 0) || decide (x1 ≥ 2000) then false
  else
   bif J5 k then
   bif
   !w1 || !w2 || x20 != 0 || b21 ||
   !bif x16 == 0 then x17 == 0 && (x8 == 0 || k == 3)
   else (k == 1 || k == 2 || k == 3) && p && (x16 == 1 || x16 == -1) && decide (x17 ≥ 0) && decide (x17 ≤ 32768) then
   false
   else
   bif k == 3 then bif ac != 0 then false else (bif k == 6 then bif x19 != 3 && x19 != 4 then false else (bif k == 1 then x14 == 0 && !b15 && x18 == 0 else bif decide (x14 < 1) || decide (x14 > 60000000) then false else bif bif k == 2 then k == 2 else k == 3 then decide (x18 ≥ 0) && decide (x18 ≤ 1000) else bif bif k == 5 then k == 5 else k == 6 then x18 == 0 && b15 else x18 == 0) else bif x19 != 0 then false else (bif k == 1 then x14 == 0 && !b15 && x18 == 0 else bif decide (x14 < 1) || decide (x14 > 60000000) then false else bif bif k == 2 then k == 2 else k == 3 then decide (x18 ≥ 0) && decide (x18 ≤ 1000) else bif bif k == 5 then k == 5 else k == 6 then x18 == 0 && b15 else x18 == 0))
   else bif !(x9 == 0 && (x10 == 0 && x11 == 0)) || x12 != 0 || b13 then false else (bif k == 6 then bif x19 != 3 && x19 != 4 then false else (bif k == 1 then x14 == 0 && !b15 && x18 == 0 else bif decide (x14 < 1) || decide (x14 > 60000000) then false else bif bif k == 2 then k == 2 else k == 3 then decide (x18 ≥ 0) && decide (x18 ≤ 1000) else bif bif k == 5 then k == 5 else k == 6 then x18 == 0 && b15 else x18 == 0) else bif x19 != 0 then false else (bif k == 1 then x14 == 0 && !b15 && x18 == 0 else bif decide (x14 < 1) || decide (x14 > 60000000) then false else bif bif k == 2 then k == 2 else k == 3 then decide (x18 ≥ 0) && decide (x18 ≤ 1000) else bif bif k == 5 then k == 5 else k == 6 then x18 == 0 && b15 else x18 == 0))
   else
   bif
   !(k == k && (x1 == x1 && (x2 == 0 && (x3 == 0 && (x4 == 0 && (x5 == 0 && (x6 == 0 && (x7 == 0 && (x8 == 0 && (x9 == 0 && (x10 == 0 && (x11 == 0 && (x12 == 0 && (b13 == false && (x14 == 0 && (b15 == false && (x16 == 0 && (x17 == 0 && (x18 == 0 && (x19 == x19 && (x20 == x20 && b21 == b21))))))))))))))))))))) then
   false
   else
   bif k == 8 then !b21 && decide (x19 ≥ 3) && decide (x19 ≤ 5) && decide (x20 ≥ 0) && decide (x20 ≤ 30000) && (x19 != 5 || x20 == 0)
   else
   bif k == 9 then x20 == 0 && (x19 == 7 || x19 == 8)
   else
   bif k == 10 then x20 == 0 && decide (x19 ≥ 0) && decide (x19 < 16)
   else
   bif k == 7 then !b21 && x20 == 0 && decide (x19 ≥ 0) && decide (x19 ≤ 60000)
   else
   bif k == 11 then !b21 && x20 == 0 && decide (x19 ≥ 0) && decide (x19 ≤ 32)
   else (bif k == 12 then k == 12 else bif k == 13 then k == 13 else k == 14) && (!b21 && x20 == 0 && x19 == 0)) =
    (bif
   !(decide (k ≥ 1) && decide (k ≤ 14)) || !(decide (x1 ≥ 0) && decide (x1 ≤ 1999)) ||
   !(k == k && (x1 == x1 &&
   ((bif J5 k then x2 else 0) == x2 &&
   ((bif J5 k then x3 else 0) == x3 &&
   ((bif J5 k then x4 else 0) == x4 &&
   ((bif J5 k then x5 else 0) == x5 &&
   ((bif J5 k then x6 else 0) == x6 &&
   ((bif J5 k then x7 else 0) == x7 &&
   ((bif bif k == 1 then k == 1 else bif k == 2 then k == 2 else k == 3 then x8 else 0) == x8 &&
   ((bif k == 2 then 0 else bif k == 3 then x9 else 0) == x9 &&
   ((bif k == 2 then 0 else bif k == 3 then x10 else 0) == x10 &&
   ((bif k == 2 then 0 else bif k == 3 then x11 else 0) == x11 &&
   ((bif k == 2 then 0 else bif k == 3 then x12 else 0) == x12 &&
   ((bif k == 2 then false else k == 3 && b13) == b13 &&
   ((bif (decide (k ≥ 2) && decide (k ≤ 6)) then x14 else 0) == x14 &&
   (((decide (k ≥ 2) && decide (k ≤ 6)) && b15) == b15 &&
   ((bif bif k == 1 then k == 1 else bif k == 2 then k == 2 else k == 3 then x16 else 0) == x16 &&
   ((bif bif k == 1 then k == 1 else bif k == 2 then k == 2 else k == 3 then x17 else 0) == x17 &&
   ((bif k == 2 then x18 else bif k == 3 then x18 else 0) == x18 &&
   ((bif k == 2 then 0 else bif k == 3 then 0 else bif bif k == 6 then k == 6 else bif k == 7 then k == 7 else k == 11 then x19 else bif k == 8 then x19 else bif bif k == 9 then k == 9 else k == 10 then x19 else 0) == x19 &&
   ((bif k == 2 then 0 else bif k == 3 then 0 else bif bif k == 6 then k == 6 else bif k == 7 then k == 7 else k == 11 then 0 else bif k == 8 then x20 else 0) == x20 &&
   (bif k == 2 then false else bif k == 3 then false else bif bif k == 6 then k == 6 else bif k == 7 then k == 7 else k == 11 then false else bif k == 8 then false else (bif k == 9 then k == 9 else k == 10) && b21) == b21))))))))))))))))))))) ||
   !w1 || !w2 || !(decide (x18 ≥ 0) && decide (x18 ≤ 1000)) || !(decide (x16 ≥ -1) && decide (x16 ≤ 1)) then
   false
  else
   bif (decide (k ≥ 2) && decide (k ≤ 6)) && !(decide (x14 ≥ 1) && decide (x14 ≤ 60000000)) then false
   else
   bif x16 == 0 && (x17 != 0 || x8 != 0 && k != 3) || x16 != 0 && (!p || !(decide (x17 ≥ 0) && decide (x17 ≤ 32768))) then false
   else (bif k == 5 then b15 else bif k == 6 then b15 && (decide (x19 ≥ 3) && decide (x19 ≤ 4)) else bif k == 7 then (decide (x19 ≥ 0) && decide (x19 ≤ 60000)) else bif k == 8 then (decide (x19 ≥ 3) && decide (x19 ≤ 5)) && (decide (x20 ≥ 0) && decide (x20 ≤ 30000)) && (x19 != 5 || x20 == 0) else bif k == 9 then (decide (x19 ≥ 7) && decide (x19 ≤ 8)) else bif k == 10 then (decide (x19 ≥ 0) && decide (x19 ≤ 15)) else bif k == 11 then (decide (x19 ≥ 0) && decide (x19 ≤ 32)) else true) && (k != 3 || ac == 0)) := by
  have hk:k < 1 ∨ 14 < k ∨ k = 1 ∨ k = 2 ∨ k = 3 ∨ k = 4 ∨ k = 5 ∨ k = 6 ∨ k = 7 ∨ k = 8 ∨ k = 9 ∨ k = 10 ∨ k = 11 ∨ k = 12 ∨ k = 13 ∨ k = 14 := by omega
  have two:∀ a b:Bool,(a = true ↔ b = true) → a = b := fun a b h => Bool.eq_iff_iff.2 h
  rcases hk with hk | hk | rfl | rfl | rfl | rfl | rfl | rfl | rfl | rfl | rfl | rfl | rfl | rfl | rfl | rfl
  · have e:∀ c:Int,1 ≤ c → c ≤ 14 → (k == c) = false := fun c h h' => by simpa using (by omega:¬ k = c)
    have c0:J5 k = false := by
      unfold J5
      rw [Bool.and_eq_false_iff,decide_eq_false_iff_not,decide_eq_false_iff_not]; omega
    have c1:(decide (k ≥ 1) && decide (k ≤ 14)) = false := by
      rw [Bool.and_eq_false_iff,decide_eq_false_iff_not,decide_eq_false_iff_not]; omega
    simp only [c0,c1,e 8 (by decide) (by decide),e 9 (by decide) (by decide),e 10 (by decide) (by decide),e 7 (by decide) (by decide),e 11 (by decide) (by decide),e 12 (by decide) (by decide),e 13 (by decide) (by decide),e 14 (by decide) (by decide),Bool.not_false,Bool.true_or,cond_true,cond_false,Bool.false_and]
    cases (decide (x1 < 0) || decide (x1 ≥ 2000)) <;> simp
  · have e:∀ c:Int,1 ≤ c → c ≤ 14 → (k == c) = false := fun c h h' => by simpa using (by omega:¬ k = c)
    have c0:J5 k = false := by
      unfold J5
      rw [Bool.and_eq_false_iff,decide_eq_false_iff_not,decide_eq_false_iff_not]; omega
    have c1:(decide (k ≥ 1) && decide (k ≤ 14)) = false := by
      rw [Bool.and_eq_false_iff,decide_eq_false_iff_not,decide_eq_false_iff_not]; omega
    simp only [c0,c1,e 8 (by decide) (by decide),e 9 (by decide) (by decide),e 10 (by decide) (by decide),e 7 (by decide) (by decide),e 11 (by decide) (by decide),e 12 (by decide) (by decide),e 13 (by decide) (by decide),e 14 (by decide) (by decide),Bool.not_false,Bool.true_or,cond_true,cond_false,Bool.false_and]
    cases (decide (x1 < 0) || decide (x1 ≥ 2000)) <;> simp
  all_goals
    refine two _ _ ?_
    simp only [show ∀ a b:Int,(a == b) = decide (a = b) from fun a b => rfl,bne]
    simp (config := {decide := true}) [J5,-Bool.not_eq_true]
    try grind
theorem JlC (x:List GC):QY x = Qr x := by
  have h1:xi x 2 = 0 → xi x 3 = 0 → xi x 4 = 0 → XG (xi x 2) (xi x 3) (xi x 4) = true := fun a b c => by rw [a,b,c]; rfl
  have h2:xi x 5 = 0 → xi x 6 = 0 → xi x 7 = 0 → XG (xi x 5) (xi x 6) (xi x 7) = true := fun a b c => by rw [a,b,c]; rfl
  have := JkD (xi x 0) (xi x 1) (xi x 2) (xi x 3) (xi x 4) (xi x 5) (xi x 6) (xi x 7) (xi x 8) (xi x 9) (xi x 10) (xi x 11) (xi x 12) (xi x 14) (xi x 16) (xi x 17) (xi x 18) (xi x 19) (xi x 20)
    (XZ (xi x 0) (xi x 2) (xi x 3) (xi x 4) (xi x 5) (xi x 6) (xi x 7) (xi x 8) (xi x 9) (xi x 10) (xi x 11) (xi x 12) (xb x 13)) (xb x 13) (xb x 15) (xb x 21) (XG (xi x 2) (xi x 3) (xi x 4)) (XG (xi x 5) (xi x 6) (xi x 7)) (Kg (xi x 8)) h1 h2
  refine (show QY x = _ from this).trans ?_
  unfold Qr
  rw [JFu,JFu,Jfg,← JYs]
  rfl
def Juc:List (Nat × Nat × Nat × Nat) := [(74,30,40,22)]
def JHE (S:FuncId → Option JY) (L:FuncId → Nat → Option QG) (f:FuncId):JY := JvT Juc (Jee JbU (Jbk Tryz.prog (Jb1 Tryz.prog S L 100 10) 100 (L f) f))
theorem KD {S:FuncId → Option JY} {L:FuncId → Nat → Option QG} (hk:Known Tryz.prog S L) (f:FuncId):Qg Tryz.prog f (JHE S L f) := JuB Juc (Jb6 JbU (JgC X5 hk 100 10 f))
def JFY:Tpl := ⟨[.one (.int .i64),.agg pI],[],0⟩
def JNd:List GK := [.i,.v Jx]
section
variable (pl:Int) (x:List GC)
def JL:Int:=
 bif xi x 0 == 3 then J3 pl (xi x 9) (xi x 10) (xi x 11) else 0
def JM:Int:=
 bif xi x 0 == 3 then J4 pl (xi x 9) (xi x 10) (xi x 11) else 0
def JJ:Int:=
 bif xi x 0 == 3 then xi x 12 else 0
def QF:Bool:=
 xi x 0 == 3 && xb x 13
end
theorem Jkc (pl:Int) (x:List GC):Runs (JHE (JB JVi) XL 84) (JFY.args (Je JNd [.i pl,.v x])) (JFY.memo (Je JNd [.i pl,.v x]) []) JFY.n (SV.agg [Ci (J3 pl (xi x 2) (xi x 3) (xi x 4)),Ci (J4 pl (xi x 2) (xi x 3) (xi x 4)),Ci (J3 pl (xi x 5) (xi x 6) (xi x 7)),Ci (J4 pl (xi x 5) (xi x 6) (xi x 7)),Ci (JL pl x),Ci (JM pl x),Ci (JJ x),Cb (QF x)]) ([]) :=
  Runs.of1 (ps := []) (by kernel_rfl) (by simp)
def JR6:List Gm → Qm → Option CRes
  | [.i pl,.v x],[] => some ⟨SV.agg [Ci (J3 pl (xi x 2) (xi x 3) (xi x 4)),Ci (J4 pl (xi x 2) (xi x 3) (xi x 4)),Ci (J3 pl (xi x 5) (xi x 6) (xi x 7)),Ci (J4 pl (xi x 5) (xi x 6) (xi x 7)),Ci (JL pl x),Ci (JM pl x),Ci (JJ x),Cb (QF x)],
 [],[],[],382⟩
  | _,_ => none
theorem Jss:Qg Tryz.prog 84 (Z4 JNd JFY JR6) := by
  refine QZ (KD JNg 84) fun ps ls r hr hn _ => ?_
  unfold JR6 at hr
  split at hr
  · cases hr; exact ⟨_,Jkc _ _,fun _ => rfl⟩
  · cases hr
def JeK:List (Nat × JY) := (84,Z4 JNd JFY JR6) :: JVi
theorem JTh:Known Tryz.prog (JB JeK) XL := J7 JNg Jss
def JCQ:Tpl := ⟨[.one (.int .i64),.agg pI],[],0⟩
def JKD:List GK := [.i,.v Jx]
def ZH (pl:Int) (x:List GC):Bool :=
 xb x 13 || !(J3 pl (xi x 2) (xi x 3) (xi x 4) == J3 pl (xi x 5) (xi x 6) (xi x 7) && J4 pl (xi x 2) (xi x 3) (xi x 4) == J4 pl (xi x 5) (xi x 6) (xi x 7))
theorem JfP (pl:Int) (x:List GC):Runs (JHE (JB JeK) XL 61) (JCQ.args (Je JKD [.i pl,.v x])) (JCQ.memo (Je JKD [.i pl,.v x]) []) JCQ.n (SV.one (Cb (ZH pl x))) ([]) :=
  Runs.of1 (ps := []) (by kernel_rfl) (by simp)
def JLR:List Gm → Qm → Option CRes
  | [.i pl,.v x],[] => some ⟨SV.one (Cb (ZH pl x)),
 [],[],[],229⟩
  | _,_ => none
theorem JnW:Qg Tryz.prog 61 (Z4 JKD JCQ JLR) := by
  refine QZ (KD JTh 61) fun ps ls r hr hn _ => ?_
  unfold JLR at hr
  split at hr
  · cases hr; exact ⟨_,JfP _ _,fun _ => rfl⟩
  · cases hr
def JZt:List (Nat × JY) := (61,Z4 JKD JCQ JLR) :: JeK
theorem JOn:Known Tryz.prog (JB JZt) XL := J7 JTh JnW
def JCF:Tpl := ⟨[.one (.int .i64),.one (.int .i64),.agg pI],[],0⟩
def JKV:List GK := [.i,.i,.v Jx]
def JFP (pl:Int) (x:List GC):Int :=
 J8 (J0 (J3 pl (xi x 5) (xi x 6) (xi x 7)) (J3 pl (xi x 2) (xi x 3) (xi x 4))) (J0 (J4 pl (xi x 5) (xi x 6) (xi x 7)) (J4 pl (xi x 2) (xi x 3) (xi x 4))) (J0 (J3 pl (xi x 5) (xi x 6) (xi x 7)) (J3 pl (xi x 2) (xi x 3) (xi x 4))) (J0 (J4 pl (xi x 5) (xi x 6) (xi x 7)) (J4 pl (xi x 2) (xi x 3) (xi x 4)))
def ZI (pl ra:Int) (x:List GC):Bool :=
 xi x 0 == 2 && decide (JFP pl x > 0) && decide (JFP pl x ≥ IntKind.i64.wrap (ra * ra)) && J9 pl (xi x 2) (xi x 3) (xi x 4) == J9 pl (xi x 5) (xi x 6) (xi x 7)
theorem Jgo (pl ra:Int) (x:List GC):Runs (JHE (JB JZt) XL 59) (JCF.args (Je JKV [.i pl,.i ra,.v x])) (JCF.memo (Je JKV [.i pl,.i ra,.v x]) []) JCF.n (SV.one (Cb (ZI pl ra x))) ([]) :=
  Runs.of1 (ps := []) (by kernel_rfl) (by simp)
def JLd:List Gm → Qm → Option CRes
  | [.i pl,.i ra,.v x],[] => some ⟨SV.one (Cb (ZI pl ra x)),
 [],[],[],488⟩
  | _,_ => none
theorem Jni:Qg Tryz.prog 59 (Z4 JKV JCF JLd) := by
  refine QZ (KD JOn 59) fun ps ls r hr hn _ => ?_
  unfold JLd at hr
  split at hr
  · cases hr; exact ⟨_,Jgo _ _ _,fun _ => rfl⟩
  · cases hr
def JXK:List (Nat × JY) := (59,Z4 JKV JCF JLd) :: JZt
theorem JMt:Known Tryz.prog (JB JXK) XL := J7 JOn Jni
def Y1:List (Nat × PO) := [(0,.blk 74 [(2,.bool),(3,.bool),(4,.int .i64),(5,.bool),(6,.bool),(7,.int .i64),(8,.int .i64),(9,.int .i64),(10,.int .i64),(11,.int .i64),(12,.int .i64),(13,.int .i64),(14,.int .i64),(15,.int .i64),(16,.int .i64),(17,.int .i64),(18,.int .i64),(19,.int .i64),(20,.int .i64),(21,.int .i64),(22,.int .i64),(23,.bool),(24,.int .i64),(25,.bool),(26,.int .i64),(27,.int .i64),(28,.int .i64),(29,.int .i64),(30,.int .i64),(31,.bool),(32,.wh 1),(33,.bool),(34,.int .i64),(35,.int .i64),(36,.int .i64),(37,.int .i64),(38,.int .i64),(39,.int .i64),(40,.int .i64),(41,.int .i64),(42,.int .i64),(43,.int .i64),(44,.int .i64),(45,.int .i64),(46,.int .i64),(47,.bool),(48,.int .i64),(49,.bool),(50,.int .i64),(51,.int .i64),(52,.int .i64),(53,.int .i64),(54,.int .i64),(55,.bool),(56,.int .i64),(57,.int .i64),(58,.bool),(59,.int .i64),(60,.int .i64)]),(1,.row true 40 22 61 Wc)]
def JG2:Tpl := ⟨[.one (.ptr 0 0),.agg pI,.agg [.int .i64,.int .i64],.agg [.int .i64,.int .i64]],Y1,62⟩
def JNM:List GK := [.v Jx,.i,.i,.i,.i,.b,.b,.i,.b,.b,.i,.i,.i,.v Jx,.b,.v Jx,.i,.i,.b,.i,.i]
section
variable (rcl rop:Bool) (rer:Int) (rmo ren:Bool) (rla0 rla1 rla2:Int) (x:List GC) (u0 u1:Int) (l:List GC) (has:Bool) (y:List GC) (st0 st1:Int) (rtr:Bool) (pn0 pn1:Int) (C:LL)
def KW:Int:=
 bif xi x 0 != 3 then 0 else xi x 8
def XI:Int:=
 bif xi x 0 != 3 then xi x 9 else JR (xi l 8) (J3 (xi l 8) (xi x 9) (xi x 10) (xi x 11)) (J4 (xi l 8) (xi x 9) (xi x 10) (xi x 11)) (J9 (xi l 8) (JR (xi l 8) u0 u1 (J9 (xi l 8) (xi x 2) (xi x 3) (xi x 4))) (JP (xi l 8) u0 u1 (J9 (xi l 8) (xi x 2) (xi x 3) (xi x 4))) (JQ (xi l 8) u0 u1 (J9 (xi l 8) (xi x 2) (xi x 3) (xi x 4))))
def XK:Int:=
 bif xi x 0 != 3 then xi x 10 else JP (xi l 8) (J3 (xi l 8) (xi x 9) (xi x 10) (xi x 11)) (J4 (xi l 8) (xi x 9) (xi x 10) (xi x 11)) (J9 (xi l 8) (JR (xi l 8) u0 u1 (J9 (xi l 8) (xi x 2) (xi x 3) (xi x 4))) (JP (xi l 8) u0 u1 (J9 (xi l 8) (xi x 2) (xi x 3) (xi x 4))) (JQ (xi l 8) u0 u1 (J9 (xi l 8) (xi x 2) (xi x 3) (xi x 4))))
def XN:Int:=
 bif xi x 0 != 3 then xi x 11 else JQ (xi l 8) (J3 (xi l 8) (xi x 9) (xi x 10) (xi x 11)) (J4 (xi l 8) (xi x 9) (xi x 10) (xi x 11)) (J9 (xi l 8) (JR (xi l 8) u0 u1 (J9 (xi l 8) (xi x 2) (xi x 3) (xi x 4))) (JP (xi l 8) u0 u1 (J9 (xi l 8) (xi x 2) (xi x 3) (xi x 4))) (JQ (xi l 8) u0 u1 (J9 (xi l 8) (xi x 2) (xi x 3) (xi x 4))))
def JgX:Jn:=
 [(0,Obj.blk 74 [(2,Cb rcl),(3,Cb rop),(4,Ci rer),(5,Cb rmo),(6,Cb ren),(7,Ci rla0),(8,Ci rla1),(9,Ci rla2),(10,Ci (xi l 0)),(11,Ci (xi l 1)),(12,Ci (xi l 2)),(13,Ci (xi l 3)),(14,Ci (xi l 4)),(15,Ci (xi l 5)),(16,Ci (xi l 6)),(17,Ci (xi l 7)),(18,Ci (xi l 8)),(19,Ci (xi l 9)),(20,Ci (xi l 10)),(21,Ci (xi l 11)),(22,Ci (xi l 12)),(23,Cb (xb l 13)),(24,Ci (xi l 14)),(25,Cb (xb l 15)),(26,Ci (xi l 16)),(27,Ci (xi l 17)),(28,Ci (xi l 18)),(29,Ci (xi l 19)),(30,Ci (xi l 20)),(31,Cb (xb l 21)),(32,SC.wh 1),(33,Cb has),(34,Ci (xi y 0)),(35,Ci (xi y 1)),(36,Ci (xi y 2)),(37,Ci (xi y 3)),(38,Ci (xi y 4)),(39,Ci (xi y 5)),(40,Ci (xi y 6)),(41,Ci (xi y 7)),(42,Ci (xi y 8)),(43,Ci (xi y 9)),(44,Ci (xi y 10)),(45,Ci (xi y 11)),(46,Ci (xi y 12)),(47,Cb (xb y 13)),(48,Ci (xi y 14)),(49,Cb (xb y 15)),(50,Ci (xi y 16)),(51,Ci (xi y 17)),(52,Ci (xi y 18)),(53,Ci (xi y 19)),(54,Ci (xi y 20)),(55,Cb (xb y 21)),(56,Ci st0),(57,Ci st1),(58,Cb rtr),(59,Ci pn0),(60,Ci pn1)]),(1,Obj.row true 40 22 (RowC.lst 61 Wc C))]
end
theorem Jj7 (x:List GC) (u0 u1 v0 v1:Int) (rcl rop:Bool) (rer:Int) (rmo ren:Bool) (rla0 rla1 rla2:Int) (l:List GC) (has:Bool) (y:List GC) (st0 st1:Int) (rtr:Bool) (pn0 pn1:Int) (C:LL):Runs (JHE (JB JXK) XL 88) (JG2.args (Je JNM [.v x,.i u0,.i u1,.i v0,.i v1,.b rcl,.b rop,.i rer,.b rmo,.b ren,.i rla0,.i rla1,.i rla2,.v l,.b has,.v y,.i st0,.i st1,.b rtr,.i pn0,.i pn1])) (JG2.memo (Je JNM [.v x,.i u0,.i u1,.i v0,.i v1,.b rcl,.b rop,.i rer,.b rmo,.b ren,.i rla0,.i rla1,.i rla2,.v l,.b has,.v y,.i st0,.i st1,.b rtr,.i pn0,.i pn1]) [C]) JG2.n (SV.agg [Ci (xi x 0),Ci (xi x 1),Ci (JR (xi l 8) u0 u1 (J9 (xi l 8) (xi x 2) (xi x 3) (xi x 4))),Ci (JP (xi l 8) u0 u1 (J9 (xi l 8) (xi x 2) (xi x 3) (xi x 4))),Ci (JQ (xi l 8) u0 u1 (J9 (xi l 8) (xi x 2) (xi x 3) (xi x 4))),Ci (JR (xi l 8) v0 v1 (J9 (xi l 8) (xi x 5) (xi x 6) (xi x 7))),Ci (JP (xi l 8) v0 v1 (J9 (xi l 8) (xi x 5) (xi x 6) (xi x 7))),Ci (JQ (xi l 8) v0 v1 (J9 (xi l 8) (xi x 5) (xi x 6) (xi x 7))),Ci (KW x),Ci (XI x u0 u1 l),Ci (XK x u0 u1 l),Ci (XN x u0 u1 l),Ci (xi x 12),Cb (xb x 13),Ci (xi x 14),Cb (xb x 15),SC.int IntKind.i64 (SI.c 0),SC.int IntKind.i64 (SI.c 0),Ci (xi x 18),Ci (xi x 19),Ci (xi x 20),Cb (xb x 21)]) (JgX rcl rop rer rmo ren rla0 rla1 rla2 l has y st0 st1 rtr pn0 pn1 C) :=
  Runs.of1 (ps := []) (by kernel_rfl) (by simp)
def JRe:List Gm → Qm → Option CRes
  | [.v x,.i u0,.i u1,.i v0,.i v1,.b rcl,.b rop,.i rer,.b rmo,.b ren,.i rla0,.i rla1,.i rla2,.v l,.b has,.v y,.i st0,.i st1,.b rtr,.i pn0,.i pn1],[C] => some ⟨SV.agg [Ci (xi x 0),Ci (xi x 1),Ci (JR (xi l 8) u0 u1 (J9 (xi l 8) (xi x 2) (xi x 3) (xi x 4))),Ci (JP (xi l 8) u0 u1 (J9 (xi l 8) (xi x 2) (xi x 3) (xi x 4))),Ci (JQ (xi l 8) u0 u1 (J9 (xi l 8) (xi x 2) (xi x 3) (xi x 4))),Ci (JR (xi l 8) v0 v1 (J9 (xi l 8) (xi x 5) (xi x 6) (xi x 7))),Ci (JP (xi l 8) v0 v1 (J9 (xi l 8) (xi x 5) (xi x 6) (xi x 7))),Ci (JQ (xi l 8) v0 v1 (J9 (xi l 8) (xi x 5) (xi x 6) (xi x 7))),Ci (KW x),Ci (XI x u0 u1 l),Ci (XK x u0 u1 l),Ci (XN x u0 u1 l),Ci (xi x 12),Cb (xb x 13),Ci (xi x 14),Cb (xb x 15),SC.int IntKind.i64 (SI.c 0),SC.int IntKind.i64 (SI.c 0),Ci (xi x 18),Ci (xi x 19),Ci (xi x 20),Cb (xb x 21)],
 JgX rcl rop rer rmo ren rla0 rla1 rla2 l has y st0 st1 rtr pn0 pn1 C,[],[],856⟩
  | _,_ => none
theorem JsA:Qg Tryz.prog 88 (Z4 JNM JG2 JRe) := by
  refine QZ (KD JMt 88) fun ps ls r hr hn _ => ?_
  unfold JRe at hr
  split at hr
  · cases hr; exact ⟨_,Jj7 _ _ _ _ _ _ _ _ _ _ _ _ _ _ _ _ _ _ _ _ _ _,fun _ => rfl⟩
  · cases hr
def JeZ:List (Nat × JY) := (88,Z4 JNM JG2 JRe) :: JXK
theorem JTi:Known Tryz.prog (JB JeZ) XL := J7 JMt JsA
def k9:Tpl := ⟨[.one (.ptr 0 0)],Y1,62⟩
def JGi:List GK := [.b,.b,.i,.b,.b,.i,.i,.i,.v Jx,.b,.v Jx,.i,.i,.b,.i,.i]
def JO (l:List GC):Int :=
 IntKind.i64.wrap (xi l 16 * xi l 17)
def JXz (rcl rop:Bool) (rer:Int) (rmo ren:Bool) (rla0 rla1 rla2:Int) (l:List GC) (has:Bool) (y:List GC) (st0 st1:Int) (rtr:Bool) (pn0 pn1:Int) (C:LL):Jn :=
 [(0,Obj.blk 74 [(2,Cb rcl),(3,Cb rop),(4,Ci rer),(5,Cb rmo),(6,Cb ren),(7,Ci rla0),(8,Ci rla1),(9,Ci rla2),(10,Ci (xi l 0)),(11,Ci (xi l 1)),(12,Ci (xi l 2)),(13,Ci (xi l 3)),(14,Ci (xi l 4)),(15,Ci (xi l 5)),(16,Ci (xi l 6)),(17,Ci (xi l 7)),(18,Ci (xi l 8)),(19,Ci (xi l 9)),(20,Ci (xi l 10)),(21,Ci (xi l 11)),(22,Ci (xi l 12)),(23,Cb (xb l 13)),(24,Ci (xi l 14)),(25,Cb (xb l 15)),(26,Ci (xi l 16)),(27,Ci (xi l 17)),(28,Ci (xi l 18)),(29,Ci (xi l 19)),(30,Ci (xi l 20)),(31,Cb (xb l 21)),(32,SC.wh 1),(33,Cb has),(34,Ci (xi y 0)),(35,Ci (xi y 1)),(36,Ci (xi y 2)),(37,Ci (xi y 3)),(38,Ci (xi y 4)),(39,Ci (xi y 5)),(40,Ci (xi y 6)),(41,Ci (xi y 7)),(42,Ci (xi y 8)),(43,Ci (xi y 9)),(44,Ci (xi y 10)),(45,Ci (xi y 11)),(46,Ci (xi y 12)),(47,Cb (xb y 13)),(48,Ci (xi y 14)),(49,Cb (xb y 15)),(50,Ci (xi y 16)),(51,Ci (xi y 17)),(52,Ci (xi y 18)),(53,Ci (xi y 19)),(54,Ci (xi y 20)),(55,Cb (xb y 21)),(56,Ci st0),(57,Ci st1),(58,Cb rtr),(59,Ci pn0),(60,Ci pn1)]),(1,Obj.row true 40 22 (RowC.lst 61 Wc C))]
theorem Je9 (rcl rop:Bool) (rer:Int) (rmo ren:Bool) (rla0 rla1 rla2:Int) (l:List GC) (has:Bool) (y:List GC) (st0 st1:Int) (rtr:Bool) (pn0 pn1:Int) (C:LL):Runs (JHE (JB JeZ) XL 85) (k9.args (Je JGi [.b rcl,.b rop,.i rer,.b rmo,.b ren,.i rla0,.i rla1,.i rla2,.v l,.b has,.v y,.i st0,.i st1,.b rtr,.i pn0,.i pn1])) (k9.memo (Je JGi [.b rcl,.b rop,.i rer,.b rmo,.b ren,.i rla0,.i rla1,.i rla2,.v l,.b has,.v y,.i st0,.i st1,.b rtr,.i pn0,.i pn1]) [C]) k9.n (SV.one (Ci (JO l))) (JXz rcl rop rer rmo ren rla0 rla1 rla2 l has y st0 st1 rtr pn0 pn1 C) :=
  Runs.of1 (ps := []) (by kernel_rfl) (by simp)
def JIp:List Gm → Qm → Option CRes
  | [.b rcl,.b rop,.i rer,.b rmo,.b ren,.i rla0,.i rla1,.i rla2,.v l,.b has,.v y,.i st0,.i st1,.b rtr,.i pn0,.i pn1],[C] => some ⟨SV.one (Ci (JO l)),
 JXz rcl rop rer rmo ren rla0 rla1 rla2 l has y st0 st1 rtr pn0 pn1 C,[],[],75⟩
  | _,_ => none
theorem Jl4:Qg Tryz.prog 85 (Z4 JGi k9 JIp) := by
  refine QZ (KD JTi 85) fun ps ls r hr hn _ => ?_
  unfold JIp at hr
  split at hr
  · cases hr; exact ⟨_,Je9 _ _ _ _ _ _ _ _ _ _ _ _ _ _ _ _ _,fun _ => rfl⟩
  · cases hr
def JR8:List (Nat × JY) := (85,Z4 JGi k9 JIp) :: JeZ
theorem JKu:Known Tryz.prog (JB JR8) XL := J7 JTi Jl4
def Wa:Tpl := ⟨[.one (.wh 0),.agg pI],[(0,.row false 40 22 1 Wc)],2⟩
def JCO:List GK := [.v Jx]
def Ys (x:List GC) (O:LL):LL :=
 bif xi x 0 == 2 && (xi x 2 == xi x 5 && (xi x 3 == xi x 6 && xi x 4 == xi x 7)) then O else O ++ [JHh x]
def qR (x:List GC) (O:LL):List Prop :=
 [(xi x 0 == 2 && (xi x 2 == xi x 5 && (xi x 3 == xi x 6 && xi x 4 == xi x 7))) = false → (O.length + 1) * 176 ≤ 140737488355328 ∧ O.length + 1 ≤ 9223372036854775807]
theorem Jdi {x:List GC} {O:LL} (hW:∀ q ∈ ([O.length ≤ 1000000]:List Prop),q):∀ q ∈ (qR x O),q := by
  simp only [awc,awn,and_true] at hW
  unfold qR
  simp only [awc,awn,and_true]
  exact fun _ => ⟨by omega,by omega⟩
theorem JcY (x:List GC) (O:LL) (hNeeds:∀ pN ∈ (qR x O),pN):Runs (JHE (JB JR8) XL 118) (Wa.args (Je JCO [.v x])) (Wa.memo (Je JCO [.v x]) [O]) Wa.n (SV.one (SC.wh 50)) ([(50,Obj.row false 40 22 (RowC.lst 49 Wc (Ys x O)))]) :=
  Runs.of1 (ps := (qR x O)) (by kernel_rfl) hNeeds
def JDy:List Gm → Qm → Option CRes
  | [.v x],[O] => some ⟨SV.one (SC.wh 50),
 [(50,Obj.row false 40 22 (RowC.lst 49 Wc (Ys x O)))],[O.length ≤ 1000000],[],51⟩
  | _,_ => none
theorem JWX:Qg Tryz.prog 118 (Z4 JCO Wa JDy) := by
  refine QZ (KD JKu 118) fun ps ls r hr hn _ => ?_
  unfold JDy at hr
  split at hr
  · cases hr; exact ⟨_,JcY _ _ (Jdi (by exact hn)),fun _ => rfl⟩
  · cases hr
def JP0:List (Nat × JY) := (118,Z4 JCO Wa JDy) :: JR8
theorem JLA:Known Tryz.prog (JB JP0) XL := J7 JKu JWX
def Wd:Tpl := ⟨[.one .nilsl,.agg pI],[],0⟩
def JDT:List GK := [.v Jx]
def YN (x:List GC):LL :=
 bif xi x 0 == 2 && (xi x 2 == xi x 5 && (xi x 3 == xi x 6 && xi x 4 == xi x 7)) then [] else [JHh x]
theorem JaY (x:List GC):Runs (JHE (JB JP0) XL 118) (Wd.args (Je JDT [.v x])) (Wd.memo (Je JDT [.v x]) []) Wd.n (SV.one (SC.wh 48)) ([(48,Obj.row false 40 22 (RowC.lst 47 Wc (YN x)))]) :=
  Runs.of1 (ps := []) (by kernel_rfl) (by simp)
def JGj:List Gm → Qm → Option CRes
  | [.v x],[] => some ⟨SV.one (SC.wh 48),
 [(48,Obj.row false 40 22 (RowC.lst 47 Wc (YN x)))],[],[],49⟩
  | _,_ => none
theorem Jh0:Qg Tryz.prog 118 (Z4 JDT Wd JGj) := by
  refine QZ (KD JLA 118) fun ps ls r hr hn _ => ?_
  unfold JGj at hr
  split at hr
  · cases hr; exact ⟨_,JaY _,fun _ => rfl⟩
  · cases hr
def jR:List (Nat × JY) := (118,orS (Z4 JDT Wd JGj) (Z4 JCO Wa JDy)) :: JP0
theorem JIj:Known Tryz.prog (JB jR) XL := J7 JLA (JLS Jh0 JWX)
section
variable (id tag:Nat) (xs:LL) (g:Nat → Nat) (rcl rop:Bool) (rer:Int) (rmo ren:Bool) (rla0 rla1 rla2:Int) (l x:List GC) (u0 u1 v0 v1:Int) (c:Nat) (has:Bool) (y:List GC) (st0 st1:Int) (rtr:Bool) (pn0 pn1:Int) (C:LL) (j:Nat) (O:LL) (r:List Int)
def Jk7:List (Nat × SC):=
  [(g 0,B rcl),(g 1,B rop),(g 2,I rer),(g 3,B rmo),(g 4,B ren),(g 5,I rla0),(g 6,I rla1),(g 7,I rla2),(g 8,I (xi l 0)),(g 9,I (xi l 1)),(g 10,I (xi l 2)),(g 11,I (xi l 3)),(g 12,I (xi l 4)),(g 13,I (xi l 5)),(g 14,I (xi l 6)),(g 15,I (xi l 7)),(g 16,I (xi l 8)),(g 17,I (xi l 9)),(g 18,I (xi l 10)),(g 19,I (xi l 11)),(g 20,I (xi l 12)),(g 21,B (xb l 13)),(g 22,I (xi l 14)),(g 23,B (xb l 15)),(g 24,I (xi l 16)),(g 25,I (xi l 17)),(g 26,I (xi l 18)),(g 27,I (xi l 19)),(g 28,I (xi l 20)),(g 29,B (xb l 21)),(g 30,.wh c),(g 31,B has),(g 32,I (xi y 0)),(g 33,I (xi y 1)),(g 34,I (xi y 2)),(g 35,I (xi y 3)),(g 36,I (xi y 4)),(g 37,I (xi y 5)),(g 38,I (xi y 6)),(g 39,I (xi y 7)),(g 40,I (xi y 8)),(g 41,I (xi y 9)),(g 42,I (xi y 10)),(g 43,I (xi y 11)),(g 44,I (xi y 12)),(g 45,B (xb y 13)),(g 46,I (xi y 14)),(g 47,B (xb y 15)),(g 48,I (xi y 16)),(g 49,I (xi y 17)),(g 50,I (xi y 18)),(g 51,I (xi y 19)),(g 52,I (xi y 20)),(g 53,B (xb y 21)),(g 54,I st0),(g 55,I st1),(g 56,B rtr),(g 57,I pn0),(g 58,I pn1)]
def Jtp:Nat × SX.Obj:= (id,.row true 40 22 (.lst tag CKi xs))
def Jpn:List GC:= [.i (xi x 0),.i (xi x 1),.i (JR (xi l 8) u0 u1 (J9 (xi l 8) (xi x 2) (xi x 3) (xi x 4))),.i (JP (xi l 8) u0 u1 (J9 (xi l 8) (xi x 2) (xi x 3) (xi x 4))),.i (JQ (xi l 8) u0 u1 (J9 (xi l 8) (xi x 2) (xi x 3) (xi x 4))),.i (JR (xi l 8) v0 v1 (J9 (xi l 8) (xi x 5) (xi x 6) (xi x 7))),.i (JP (xi l 8) v0 v1 (J9 (xi l 8) (xi x 5) (xi x 6) (xi x 7))),.i (JQ (xi l 8) v0 v1 (J9 (xi l 8) (xi x 5) (xi x 6) (xi x 7))),.i (KW x),.i (XI x u0 u1 (J1 l)),.i (XK x u0 u1 (J1 l)),.i (XN x u0 u1 (J1 l)),.i (xi x 12),.b (xb x 13),.i (xi x 14),.b (xb x 15),.i 0,.i 0,.i (xi x 18),.i (xi x 19),.i (xi x 20),.b (xb x 21)]
def rfS:LL:= bif J5 (r.getD 0 0) then Ys (Jpn l (JX r) pn0 pn1 pn0 pn1) O else O ++ [Jlp r]
def rfJ:LL:= (C.take j).foldl (rfS l pn0 pn1) []
def rfL:LL:= C.foldl (rfS l pn0 pn1) []
end
def rfF (l y:List GC) (rcl rop rmo ren has rtr:Bool) (rer rla0 rla1 rla2 st0 st1 pn0 pn1:Int) (C:LL):Fam Nat Unit where
  k := 120
  E j := [(4,ent 1000000000 (.one (I (Int.ofNat j)))),(3,ent 1000000001 (.one (.wh 70))),(0,ent 0 (.one (.ptr 0 0)))]
  M j := [(0,.blk 74 (Jk7 (fun k => k + 2) rcl rop rer rmo ren rla0 rla1 rla2 l 1 has y st0 st1 rtr pn0 pn1)),Jtp 1 61 C,YM 70 1000000002 (rfJ l pn0 pn1 C j)]
  out _ := .leaf (.exit 0) [(3,ent 66 (.one (.wh 70))),(0,ent 0 (.one (.ptr 0 0)))] [(0,.blk 74 (Jk7 (fun k => k + 2) rcl rop rer rmo ren rla0 rla1 rla2 l 1 has y st0 st1 rtr pn0 pn1)),Jtp 1 61 C,YM 70 71 (rfL l pn0 pn1 C)]
  fin _ := ()
  next j _ := j + 1
  J j := j ≤ C.length ∧ C.length ≤ 1000
  μ j := C.length - j
section
variable (l y:List GC) (rcl rop rmo ren has rtr:Bool) (rer rla0 rla1 rla2 st0 st1 pn0 pn1:Int) (C:LL) (j:Nat)
def Jm2:Prop:=
 decide (Int.ofNat j < Int.ofNat C.length) = true
def Jrb:Prop:=
 J5 ((C.getD (Int.ofNat j).toNat []).getD 0 0) = true
def Jsa:Prop:=
 J5 ((C.getD (Int.ofNat j).toNat []).getD 0 0) = false
def JqN:Int:=
 J9 (xi l 8) (xi (JX (C.getD (Int.ofNat j).toNat [])) 2) (xi (JX (C.getD (Int.ofNat j).toNat [])) 3) (xi (JX (C.getD (Int.ofNat j).toNat [])) 4)
def Jpv:Int:=
 J9 (xi l 8) (xi (JX (C.getD (Int.ofNat j).toNat [])) 5) (xi (JX (C.getD (Int.ofNat j).toNat [])) 6) (xi (JX (C.getD (Int.ofNat j).toNat [])) 7)
def JVl:List Prop:=
 [Jm2 C j → 0 ≤ Int.ofNat j ∧ (Int.ofNat j).toNat < C.length ∧ (Int.ofNat j).toNat < C.length ∧ (Jrb C j → (rfJ l pn0 pn1 C j).length ≤ 1000000) ∧ (Jsa C j → ((rfJ l pn0 pn1 C j).length + 1) * 176 ≤ 140737488355328 ∧ (rfJ l pn0 pn1 C j).length + 1 ≤ 9223372036854775807),Jm2 C j → (Jrb C j → ((rfF l y rcl rop rmo ren has rtr rer rla0 rla1 rla2 st0 st1 pn0 pn1 C).next j 0 ≤ C.length ∧ C.length ≤ 1000) ∧ (rfF l y rcl rop rmo ren has rtr rer rla0 rla1 rla2 st0 st1 pn0 pn1 C).μ ((rfF l y rcl rop rmo ren has rtr rer rla0 rla1 rla2 st0 st1 pn0 pn1 C).next j 0) < (rfF l y rcl rop rmo ren has rtr rer rla0 rla1 rla2 st0 st1 pn0 pn1 C).μ j ∧ (rfF l y rcl rop rmo ren has rtr rer rla0 rla1 rla2 st0 st1 pn0 pn1 C).fin ((rfF l y rcl rop rmo ren has rtr rer rla0 rla1 rla2 st0 st1 pn0 pn1 C).next j 0) = (rfF l y rcl rop rmo ren has rtr rer rla0 rla1 rla2 st0 st1 pn0 pn1 C).fin j ∧ Int.ofNat ((rfF l y rcl rop rmo ren has rtr rer rla0 rla1 rla2 st0 st1 pn0 pn1 C).next j 0) = IntKind.i64.wrap (Int.ofNat j + 1) ∧ rfJ l pn0 pn1 C ((rfF l y rcl rop rmo ren has rtr rer rla0 rla1 rla2 st0 st1 pn0 pn1 C).next j 0) = Ys [GC.i (xi (JX (C.getD (Int.ofNat j).toNat [])) 0),GC.i (xi (JX (C.getD (Int.ofNat j).toNat [])) 1),GC.i (JR (xi l 8) pn0 pn1 (JqN l C j)),GC.i (JP (xi l 8) pn0 pn1 (JqN l C j)),GC.i (JQ (xi l 8) pn0 pn1 (JqN l C j)),GC.i (JR (xi l 8) pn0 pn1 (Jpv l C j)),GC.i (JP (xi l 8) pn0 pn1 (Jpv l C j)),GC.i (JQ (xi l 8) pn0 pn1 (Jpv l C j)),GC.i (KW (JX (C.getD (Int.ofNat j).toNat []))),GC.i (XI (JX (C.getD (Int.ofNat j).toNat [])) pn0 pn1 (J1 l)),GC.i (XK (JX (C.getD (Int.ofNat j).toNat [])) pn0 pn1 (J1 l)),GC.i (XN (JX (C.getD (Int.ofNat j).toNat [])) pn0 pn1 (J1 l)),GC.i (xi (JX (C.getD (Int.ofNat j).toNat [])) 12),GC.b (xb (JX (C.getD (Int.ofNat j).toNat [])) 13),GC.i (xi (JX (C.getD (Int.ofNat j).toNat [])) 14),GC.b (xb (JX (C.getD (Int.ofNat j).toNat [])) 15),GC.i 0,GC.i 0,GC.i (xi (JX (C.getD (Int.ofNat j).toNat [])) 18),GC.i (xi (JX (C.getD (Int.ofNat j).toNat [])) 19),GC.i (xi (JX (C.getD (Int.ofNat j).toNat [])) 20),GC.b (xb (JX (C.getD (Int.ofNat j).toNat [])) 21)] (rfJ l pn0 pn1 C j)) ∧ (Jsa C j → ((rfF l y rcl rop rmo ren has rtr rer rla0 rla1 rla2 st0 st1 pn0 pn1 C).next j 1 ≤ C.length ∧ C.length ≤ 1000) ∧ (rfF l y rcl rop rmo ren has rtr rer rla0 rla1 rla2 st0 st1 pn0 pn1 C).μ ((rfF l y rcl rop rmo ren has rtr rer rla0 rla1 rla2 st0 st1 pn0 pn1 C).next j 1) < (rfF l y rcl rop rmo ren has rtr rer rla0 rla1 rla2 st0 st1 pn0 pn1 C).μ j ∧ (rfF l y rcl rop rmo ren has rtr rer rla0 rla1 rla2 st0 st1 pn0 pn1 C).fin ((rfF l y rcl rop rmo ren has rtr rer rla0 rla1 rla2 st0 st1 pn0 pn1 C).next j 1) = (rfF l y rcl rop rmo ren has rtr rer rla0 rla1 rla2 st0 st1 pn0 pn1 C).fin j ∧ Int.ofNat ((rfF l y rcl rop rmo ren has rtr rer rla0 rla1 rla2 st0 st1 pn0 pn1 C).next j 1) = IntKind.i64.wrap (Int.ofNat j + 1) ∧ rfJ l pn0 pn1 C ((rfF l y rcl rop rmo ren has rtr rer rla0 rla1 rla2 st0 st1 pn0 pn1 C).next j 1) = rfJ l pn0 pn1 C j ++ [Jlp (C.getD (Int.ofNat j).toNat [])]),decide (Int.ofNat j < Int.ofNat C.length) = false → rfL l pn0 pn1 C = rfJ l pn0 pn1 C j]
end
theorem Js7 (l y:List GC) (rcl rop rmo ren has rtr:Bool) (rer rla0 rla1 rla2 st0 st1 pn0 pn1:Int) (C:LL) (j:Nat) (hNeeds:∀ pN ∈ (JVl l y rcl rop rmo ren has rtr rer rla0 rla1 rla2 st0 st1 pn0 pn1 C j),pN):Q4 (Xh (rfF l y rcl rop rmo ren has rtr rer rla0 rla1 rla2 st0 st1 pn0 pn1 C) (QW Tryz.prog (JB jR) XL 87 0) 65 j) :=
  Q4.of (ps := (JVl l y rcl rop rmo ren has rtr rer rla0 rla1 rla2 st0 st1 pn0 pn1 C j)) (by kernel_rfl) (by kernel_rfl) hNeeds
theorem JVa (l:List GC) (pn0 pn1:Int) (C:LL) (j:Nat) (h:j < C.length):rfJ l pn0 pn1 C (j + 1) = rfS l pn0 pn1 (rfJ l pn0 pn1 C j) (C.getD j []) := by
  have e:C.getD j [] = C[j] := by simp [List.getD,List.getElem?_eq_getElem h]
  unfold rfJ
  rw [List.take_succ_eq_append_getElem h,List.foldl_append,e]
  rfl
theorem JmQ (l:List GC) (pn0 pn1:Int) (C:LL):rfJ l pn0 pn1 C C.length = rfL l pn0 pn1 C := by
  unfold rfJ; rw [List.take_length]; rfl
theorem Ju3 (l:List GC) (pn0 pn1:Int) (O:LL) (r:List Int):(rfS l pn0 pn1 O r).length ≤ O.length + 1 := by
  unfold rfS Ys
  cases J5 (r.getD 0 0)
  · rw [cond_false,List.length_append]; exact Nat.le_refl _
  · rw [cond_true]
    cases (_:Bool) && _
    · rw [cond_false,List.length_append]; exact Nat.le_refl _
    · rw [cond_true]; omega
theorem Jeg (l:List GC) (pn0 pn1:Int) (C:LL):∀ (j:Nat),j ≤ C.length → (rfJ l pn0 pn1 C j).length ≤ j
  | 0,_ => Nat.le_refl _
  | j + 1,h => by
    have h1 := Jeg l pn0 pn1 C j (by omega)
    have h2 := Ju3 l pn0 pn1 (rfJ l pn0 pn1 C j) (C.getD j [])
    rw [JVa _ _ _ _ _ (by omega)]; omega
theorem JnJ (l y:List GC) (rcl rop rmo ren has rtr:Bool) (rer rla0 rla1 rla2 st0 st1 pn0 pn1:Int) (C:LL):Z1 (rfF l y rcl rop rmo ren has rtr rer rla0 rla1 rla2 st0 st1 pn0 pn1 C) (QW Tryz.prog (JB jR) XL 87 0) 65 := by
  intro j hJ
  obtain ⟨h1,h2⟩:j ≤ C.length ∧ C.length ≤ 1000 := hJ
  refine Js7 l y rcl rop rmo ren has rtr rer rla0 rla1 rla2 st0 st1 pn0 pn1 C j ?_
  unfold JVl
  have hl := Jeg l pn0 pn1 C j h1
  have lt:Jm2 C j → j < C.length := by unfold Jm2; simp
  simp only [awc,awn,and_true]
  have e6 (h:j < C.length):IntKind.i64.wrap (Int.ofNat j + 1) = Int.ofNat (j + 1) := Zy (by simp; omega) (by simp; omega)
  refine ⟨fun h => ⟨by simp,lt h,lt h,fun _ => by omega,fun _ => ⟨by omega,by omega⟩⟩,fun h => ⟨fun h1 => ⟨⟨lt h,h2⟩,by have := lt h; show C.length - (j + 1) < C.length - j; omega,trivial,(e6 (lt h)).symm,?_⟩,fun h1 => ⟨⟨lt h,h2⟩,by have := lt h; show C.length - (j + 1) < C.length - j; omega,trivial,(e6 (lt h)).symm,?_⟩⟩,fun h => ?_⟩
  · show rfJ l pn0 pn1 C (j + 1) = _
    rw [JVa _ _ _ _ _ (lt h)]; unfold rfS
    unfold Jrb at h1
    rw [show J5 ((C.getD j []).getD 0 0) = true by simpa using h1]; rfl
  · show rfJ l pn0 pn1 C (j + 1) = _
    rw [JVa _ _ _ _ _ (lt h)]; unfold rfS
    unfold Jsa at h1
    rw [show J5 ((C.getD j []).getD 0 0) = false by simpa using h1]; rfl
  · have:j = C.length := by simp at h; omega
    rw [this]; exact (JmQ ..).symm
def JwS:QG := fun env mem m => match SX.JC mem 0,SX.JC mem 1 with
  | some (.blk _ ((_,.bool rcl) :: (_,.bool rop) :: (_,.int _ rer) :: (_,.bool rmo) :: (_,.bool ren) :: (_,.int _ rla0) :: (_,.int _ rla1) :: (_,.int _ rla2) :: r)),some (.row _ _ _ (.lst _ _ C)) => (match JbT Jx r with
    | some (l,_ :: (_,.bool has) :: r2) => (match JbT Jx r2 with
      | some (y,[(_,.int _ st0),(_,.int _ st1),(_,.bool rtr),(_,.int _ pn0),(_,.int _ pn1)]) => zD (rfF l y rcl.val rop.val rmo.val ren.val has.val rtr.val rer.val rla0.val rla1.val rla2.val st0.val st1.val pn0.val pn1.val C) 65 (fun _ _ => some 0) env mem m
      | _ => none)
    | _ => none)
  | _,_ => none
def Wr:FuncId → Nat → Option QG := JB6 XL 87 3 JwS
theorem Jc7:Known Tryz.prog (JB jR) Wr := by
  refine Qf 0 JIj (by kernel_rfl) (Qs fun env mem m x h => ?_)
  unfold JwS at h
  have hlen:(QU Tryz.prog 87).length = 1 := by kernel_rfl
  split at h
  · split at h
    · split at h
      · exact ⟨_,XW (Qc X5 JIj (by omega)) (JnJ _ _ _ _ _ _ _ _ _ _ _ _ _ _ _ _ _),h⟩
      · cases h
    · cases h
  · cases h
def JCJ:Tpl := ⟨[.one (.ptr 0 0)],Y1,62⟩
def JKL:List GK := [.b,.b,.i,.b,.b,.i,.i,.i,.v Jx,.b,.v Jx,.i,.i,.b,.i,.i]
def Z8 (l:List GC) (pn0 pn1:Int) (C:LL):LL :=
 rfL (J1 l) pn0 pn1 C
def JBU (l:List GC) (pn0 pn1:Int) (C:LL):List Prop :=
 [0 ≤ C.length ∧ C.length ≤ 1000,Int.ofNat 0 = 0,rfJ (J1 l) pn0 pn1 C 0 = []]
theorem Jfk {l:List GC} {pn0:Int} {pn1:Int} {C:LL} (hW:∀ q ∈ ([C.length ≤ 1000]:List Prop),q):∀ q ∈ (JBU l pn0 pn1 C),q := by
  simp only [awc,awn,and_true] at hW
  unfold JBU
  simp only [awc,awn,and_true]
  exact ⟨⟨Nat.zero_le _,hW⟩,rfl,rfl⟩
def Jbr (rcl rop:Bool) (rer:Int) (rmo ren:Bool) (rla0 rla1 rla2:Int) (l:List GC) (has:Bool) (y:List GC) (st0 st1:Int) (rtr:Bool) (pn0 pn1:Int) (C:LL):Jn :=
 [(0,Obj.blk 74 [(2,Cb rcl),(3,Cb rop),(4,Ci rer),(5,Cb rmo),(6,Cb ren),(7,Ci rla0),(8,Ci rla1),(9,Ci rla2),(10,Ci (xi l 0)),(11,Ci (xi l 1)),(12,Ci (xi l 2)),(13,Ci (xi l 3)),(14,Ci (xi l 4)),(15,Ci (xi l 5)),(16,Ci (xi l 6)),(17,Ci (xi l 7)),(18,Ci (xi l 8)),(19,Ci (xi l 9)),(20,Ci (xi l 10)),(21,Ci (xi l 11)),(22,Ci (xi l 12)),(23,Cb (xb l 13)),(24,Ci (xi l 14)),(25,Cb (xb l 15)),(26,Ci (xi l 16)),(27,Ci (xi l 17)),(28,Ci (xi l 18)),(29,Ci (xi l 19)),(30,Ci (xi l 20)),(31,Cb (xb l 21)),(194,SC.wh 192),(33,Cb has),(34,Ci (xi y 0)),(35,Ci (xi y 1)),(36,Ci (xi y 2)),(37,Ci (xi y 3)),(38,Ci (xi y 4)),(39,Ci (xi y 5)),(40,Ci (xi y 6)),(41,Ci (xi y 7)),(42,Ci (xi y 8)),(43,Ci (xi y 9)),(44,Ci (xi y 10)),(45,Ci (xi y 11)),(46,Ci (xi y 12)),(47,Cb (xb y 13)),(48,Ci (xi y 14)),(49,Cb (xb y 15)),(50,Ci (xi y 16)),(51,Ci (xi y 17)),(52,Ci (xi y 18)),(53,Ci (xi y 19)),(54,Ci (xi y 20)),(55,Cb (xb y 21)),(56,Ci st0),(57,Ci st1),(58,Cb rtr),(59,Ci pn0),(60,Ci pn1)]),(192,Obj.row true 40 22 (RowC.lit 193 [])),(1,Obj.row true 40 22 (RowC.lst 61 Wc C)),(70,Obj.row false 40 22 (RowC.lst 71 Wc (Z8 l pn0 pn1 C)))]
theorem Jha (rcl rop:Bool) (rer:Int) (rmo ren:Bool) (rla0 rla1 rla2:Int) (l:List GC) (has:Bool) (y:List GC) (st0 st1:Int) (rtr:Bool) (pn0 pn1:Int) (C:LL) (hNeeds:∀ pN ∈ (JBU l pn0 pn1 C),pN):Runs (JHE (JB jR) Wr 87) (JCJ.args (Je JKL [.b rcl,.b rop,.i rer,.b rmo,.b ren,.i rla0,.i rla1,.i rla2,.v l,.b has,.v y,.i st0,.i st1,.b rtr,.i pn0,.i pn1])) (JCJ.memo (Je JKL [.b rcl,.b rop,.i rer,.b rmo,.b ren,.i rla0,.i rla1,.i rla2,.v l,.b has,.v y,.i st0,.i st1,.b rtr,.i pn0,.i pn1]) [C]) JCJ.n (SV.one (SC.wh 70)) (Jbr rcl rop rer rmo ren rla0 rla1 rla2 l has y st0 st1 rtr pn0 pn1 C) :=
  Runs.of1 (ps := (JBU l pn0 pn1 C)) (by kernel_rfl) hNeeds
def JMC:List Gm → Qm → Option CRes
  | [.b rcl,.b rop,.i rer,.b rmo,.b ren,.i rla0,.i rla1,.i rla2,.v l,.b has,.v y,.i st0,.i st1,.b rtr,.i pn0,.i pn1],[C] => some ⟨SV.one (SC.wh 70),
 Jbr rcl rop rer rmo ren rla0 rla1 rla2 l has y st0 st1 rtr pn0 pn1 C,[C.length ≤ 1000],[],195⟩
  | _,_ => none
theorem Jnx:Qg Tryz.prog 87 (Z4 JKL JCJ JMC) := by
  refine QZ (KD Jc7 87) fun ps ls r hr hn _ => ?_
  unfold JMC at hr
  split at hr
  · cases hr; exact ⟨_,Jha _ _ _ _ _ _ _ _ _ _ _ _ _ _ _ _ _ (Jfk (by exact hn)),fun _ => rfl⟩
  · cases hr
def JVc:List (Nat × JY) := (87,Z4 JKL JCJ JMC) :: jR
theorem JOF:Known Tryz.prog (JB JVc) Wr := J7 Jc7 Jnx
theorem JLQ (l:List GC) (a b:Int) (C:LL):(Z8 l a b C).length ≤ C.length := by
  unfold Z8
  rw [← JmQ]
  exact Jeg _ _ _ _ _ (Nat.le_refl _)
theorem Jll {c:Bool} {a b:LL} (h:a.length ≤ 1) (h':b.length ≤ 1):(bif c then a else b).length ≤ 1 := by cases c <;> assumption
theorem JMm (x:List GC):(YN x).length ≤ 1 := by
  unfold YN
  repeat' first | exact Nat.le_refl _ | exact Nat.zero_le _ | refine Jll ?_ ?_
def JCZ:Tpl := ⟨[.one (.ptr 0 0),.agg pI],Y1,62⟩
def JKb:List GK := [.v Jx,.b,.b,.i,.b,.b,.i,.i,.i,.v Jx,.b,.v Jx,.i,.i,.b,.i,.i]
section
variable (x l:List GC) (rtr:Bool) (st1 st0:Int) (y:List GC) (q0:Nat) (has:Bool) (C:LL)
def WX:Int:=
 QX (J3 (xi l 8) (xi x 2) (xi x 3) (xi x 4)) (J4 (xi l 8) (xi x 2) (xi x 3) (xi x 4)) (J3 (xi l 8) (xi x 5) (xi x 6) (xi x 7)) (J4 (xi l 8) (xi x 5) (xi x 6) (xi x 7)) (JL (xi l 8) (J1 x)) (JM (xi l 8) (J1 x)) (JJ (J1 x)) (JO (J1 l))
def JCV:Int:=
 bif WX x l != 0 then WX x l else 0
def Yr:Int:=
 KY (J3 (xi l 8) (xi x 2) (xi x 3) (xi x 4)) (J4 (xi l 8) (xi x 2) (xi x 3) (xi x 4)) (J3 (xi l 8) (xi x 5) (xi x 6) (xi x 7)) (J4 (xi l 8) (xi x 5) (xi x 6) (xi x 7)) (JL (xi l 8) (J1 x)) (JM (xi l 8) (J1 x)) (JJ (J1 x)) (JO (J1 l))
def Yj:Int:=
 Ka (J3 (xi l 8) (xi x 2) (xi x 3) (xi x 4)) (J4 (xi l 8) (xi x 2) (xi x 3) (xi x 4)) (J3 (xi l 8) (xi x 5) (xi x 6) (xi x 7)) (J4 (xi l 8) (xi x 5) (xi x 6) (xi x 7)) (JL (xi l 8) (J1 x)) (JM (xi l 8) (J1 x)) (JJ (J1 x)) (JO (J1 l))
def JOP:LL:=
 bif QX (J3 (xi l 8) (xi x 2) (xi x 3) (xi x 4)) (J4 (xi l 8) (xi x 2) (xi x 3) (xi x 4)) (J3 (xi l 8) (xi x 5) (xi x 6) (xi x 7)) (J4 (xi l 8) (xi x 5) (xi x 6) (xi x 7)) (JL (xi l 8) (J1 x)) (JM (xi l 8) (J1 x)) (JJ (J1 x)) (JO (J1 l)) != 0 then [] else [[xi l 0,xi l 1,JR (xi l 8) (J3 (xi l 8) (xi l 2) (xi l 3) (xi l 4)) (J4 (xi l 8) (xi l 2) (xi l 3) (xi l 4)) (J9 (xi l 8) (xi l 2) (xi l 3) (xi l 4)),JP (xi l 8) (J3 (xi l 8) (xi l 2) (xi l 3) (xi l 4)) (J4 (xi l 8) (xi l 2) (xi l 3) (xi l 4)) (J9 (xi l 8) (xi l 2) (xi l 3) (xi l 4)),JQ (xi l 8) (J3 (xi l 8) (xi l 2) (xi l 3) (xi l 4)) (J4 (xi l 8) (xi l 2) (xi l 3) (xi l 4)) (J9 (xi l 8) (xi l 2) (xi l 3) (xi l 4)),JR (xi l 8) (Yr x l) (Yj x l) (J9 (xi l 8) (xi l 5) (xi l 6) (xi l 7)),JP (xi l 8) (Yr x l) (Yj x l) (J9 (xi l 8) (xi l 5) (xi l 6) (xi l 7)),JQ (xi l 8) (Yr x l) (Yj x l) (J9 (xi l 8) (xi l 5) (xi l 6) (xi l 7)),KW (J1 l),XI (J1 l) (J3 (xi l 8) (xi l 2) (xi l 3) (xi l 4)) (J4 (xi l 8) (xi l 2) (xi l 3) (xi l 4)) (J1 l),XK (J1 l) (J3 (xi l 8) (xi l 2) (xi l 3) (xi l 4)) (J4 (xi l 8) (xi l 2) (xi l 3) (xi l 4)) (J1 l),XN (J1 l) (J3 (xi l 8) (xi l 2) (xi l 3) (xi l 4)) (J4 (xi l 8) (xi l 2) (xi l 3) (xi l 4)) (J1 l),xi l 12,bif xb l 13 then 1 else 0,xi l 14,bif xb l 15 then 1 else 0,0,0,xi l 18,xi l 19,xi l 20,bif xb l 21 then 1 else 0]] ++ Z8 (J1 l) (Yr x l) (Yj x l) C
def JPG:Bool:=
 bif QX (J3 (xi l 8) (xi x 2) (xi x 3) (xi x 4)) (J4 (xi l 8) (xi x 2) (xi x 3) (xi x 4)) (J3 (xi l 8) (xi x 5) (xi x 6) (xi x 7)) (J4 (xi l 8) (xi x 5) (xi x 6) (xi x 7)) (JL (xi l 8) (J1 x)) (JM (xi l 8) (J1 x)) (JJ (J1 x)) (JO (J1 l)) != 0 then has else true
def Qt:Int:=
 bif QX (J3 (xi l 8) (xi x 2) (xi x 3) (xi x 4)) (J4 (xi l 8) (xi x 2) (xi x 3) (xi x 4)) (J3 (xi l 8) (xi x 5) (xi x 6) (xi x 7)) (J4 (xi l 8) (xi x 5) (xi x 6) (xi x 7)) (JL (xi l 8) (J1 x)) (JM (xi l 8) (J1 x)) (JJ (J1 x)) (JO (J1 l)) != 0 then xi y q0 else xi x q0
def JPR:Int:= Qt x l y 0
def JPP:Int:= Qt x l y 1
def JOv:Int:= Qt x l y 2
def JPA:Int:= Qt x l y 3
def JOu:Int:= Qt x l y 4
def JPn:Int:= Qt x l y 5
def JPT:Int:= Qt x l y 6
def JP4:Int:= Qt x l y 7
def JRr:Int:= Qt x l y 8
def JRg:Int:= Qt x l y 9
def JRw:Int:= Qt x l y 10
def JPb:Int:= Qt x l y 11
def JPQ:Int:= Qt x l y 12
def JBy:Bool:=
 bif QX (J3 (xi l 8) (xi x 2) (xi x 3) (xi x 4)) (J4 (xi l 8) (xi x 2) (xi x 3) (xi x 4)) (J3 (xi l 8) (xi x 5) (xi x 6) (xi x 7)) (J4 (xi l 8) (xi x 5) (xi x 6) (xi x 7)) (JL (xi l 8) (J1 x)) (JM (xi l 8) (J1 x)) (JJ (J1 x)) (JO (J1 l)) != 0 then xb y q0 else xb x q0
def JPD:Bool:= JBy x l y 13
def JPC:Int:= Qt x l y 14
def JRn:Bool:= JBy x l y 15
def JPq:Int:= Qt x l y 16
def JPs:Int:= Qt x l y 17
def JPj:Int:= Qt x l y 18
def JQw:Int:= Qt x l y 19
def JRc:Int:= Qt x l y 20
def JPZ:Bool:= JBy x l y 21
def JFW:Int:=
 bif QX (J3 (xi l 8) (xi x 2) (xi x 3) (xi x 4)) (J4 (xi l 8) (xi x 2) (xi x 3) (xi x 4)) (J3 (xi l 8) (xi x 5) (xi x 6) (xi x 7)) (J4 (xi l 8) (xi x 5) (xi x 6) (xi x 7)) (JL (xi l 8) (J1 x)) (JM (xi l 8) (J1 x)) (JJ (J1 x)) (JO (J1 l)) != 0 then st0 else KY (J3 (xi l 8) (xi x 2) (xi x 3) (xi x 4)) (J4 (xi l 8) (xi x 2) (xi x 3) (xi x 4)) (J3 (xi l 8) (xi x 5) (xi x 6) (xi x 7)) (J4 (xi l 8) (xi x 5) (xi x 6) (xi x 7)) (JL (xi l 8) (J1 x)) (JM (xi l 8) (J1 x)) (JJ (J1 x)) (JO (J1 l))
def JF5:Int:=
 bif QX (J3 (xi l 8) (xi x 2) (xi x 3) (xi x 4)) (J4 (xi l 8) (xi x 2) (xi x 3) (xi x 4)) (J3 (xi l 8) (xi x 5) (xi x 6) (xi x 7)) (J4 (xi l 8) (xi x 5) (xi x 6) (xi x 7)) (JL (xi l 8) (J1 x)) (JM (xi l 8) (J1 x)) (JJ (J1 x)) (JO (J1 l)) != 0 then st1 else Ka (J3 (xi l 8) (xi x 2) (xi x 3) (xi x 4)) (J4 (xi l 8) (xi x 2) (xi x 3) (xi x 4)) (J3 (xi l 8) (xi x 5) (xi x 6) (xi x 7)) (J4 (xi l 8) (xi x 5) (xi x 6) (xi x 7)) (JL (xi l 8) (J1 x)) (JM (xi l 8) (J1 x)) (JJ (J1 x)) (JO (J1 l))
def JPf:Bool:=
 QX (J3 (xi l 8) (xi x 2) (xi x 3) (xi x 4)) (J4 (xi l 8) (xi x 2) (xi x 3) (xi x 4)) (J3 (xi l 8) (xi x 5) (xi x 6) (xi x 7)) (J4 (xi l 8) (xi x 5) (xi x 6) (xi x 7)) (JL (xi l 8) (J1 x)) (JM (xi l 8) (J1 x)) (JJ (J1 x)) (JO (J1 l)) != 0 && rtr
def JEe:LL:=
 bif QX (J3 (xi l 8) (xi x 2) (xi x 3) (xi x 4)) (J4 (xi l 8) (xi x 2) (xi x 3) (xi x 4)) (J3 (xi l 8) (xi x 5) (xi x 6) (xi x 7)) (J4 (xi l 8) (xi x 5) (xi x 6) (xi x 7)) (JL (xi l 8) (J1 x)) (JM (xi l 8) (J1 x)) (JJ (J1 x)) (JO (J1 l)) != 0 then C else []
def JAz:List Prop:=
 [(QX (J3 (xi l 8) (xi x 2) (xi x 3) (xi x 4)) (J4 (xi l 8) (xi x 2) (xi x 3) (xi x 4)) (J3 (xi l 8) (xi x 5) (xi x 6) (xi x 7)) (J4 (xi l 8) (xi x 5) (xi x 6) (xi x 7)) (JL (xi l 8) (J1 x)) (JM (xi l 8) (J1 x)) (JJ (J1 x)) (JO (J1 l)) != 0) = false → C.length ≤ 1000 ∧ (1 + (Z8 (J1 l) (KY (J3 (xi l 8) (xi x 2) (xi x 3) (xi x 4)) (J4 (xi l 8) (xi x 2) (xi x 3) (xi x 4)) (J3 (xi l 8) (xi x 5) (xi x 6) (xi x 7)) (J4 (xi l 8) (xi x 5) (xi x 6) (xi x 7)) (JL (xi l 8) (J1 x)) (JM (xi l 8) (J1 x)) (JJ (J1 x)) (JO (J1 l))) (Ka (J3 (xi l 8) (xi x 2) (xi x 3) (xi x 4)) (J4 (xi l 8) (xi x 2) (xi x 3) (xi x 4)) (J3 (xi l 8) (xi x 5) (xi x 6) (xi x 7)) (J4 (xi l 8) (xi x 5) (xi x 6) (xi x 7)) (JL (xi l 8) (J1 x)) (JM (xi l 8) (J1 x)) (JJ (J1 x)) (JO (J1 l))) C).length) * 176 ≤ 140737488355328 ∧ 1 + (Z8 (J1 l) (KY (J3 (xi l 8) (xi x 2) (xi x 3) (xi x 4)) (J4 (xi l 8) (xi x 2) (xi x 3) (xi x 4)) (J3 (xi l 8) (xi x 5) (xi x 6) (xi x 7)) (J4 (xi l 8) (xi x 5) (xi x 6) (xi x 7)) (JL (xi l 8) (J1 x)) (JM (xi l 8) (J1 x)) (JJ (J1 x)) (JO (J1 l))) (Ka (J3 (xi l 8) (xi x 2) (xi x 3) (xi x 4)) (J4 (xi l 8) (xi x 2) (xi x 3) (xi x 4)) (J3 (xi l 8) (xi x 5) (xi x 6) (xi x 7)) (J4 (xi l 8) (xi x 5) (xi x 6) (xi x 7)) (JL (xi l 8) (J1 x)) (JM (xi l 8) (J1 x)) (JJ (J1 x)) (JO (J1 l))) C).length ≤ 9223372036854775807]
end
theorem JgD {x:List GC} {l:List GC} {C:LL} (hW:∀ q ∈ ([C.length ≤ 1000]:List Prop),q):∀ q ∈ (JAz x l C),q := by
  simp only [awc,awn,and_true] at hW
  unfold JAz
  simp only [awc,awn,and_true]
  have r := fun a b => JLQ (J1 l) a b C
  exact fun _ => ⟨hW,Nat.le_trans (Nat.mul_le_mul_right _ (Nat.add_le_add_left (r _ _) 1)) (by omega),Nat.le_trans (Nat.add_le_add_left (r _ _) 1) (by omega)⟩
def Jc4 (x:List GC) (rcl rop:Bool) (rer:Int) (rmo ren:Bool) (rla0 rla1 rla2:Int) (l:List GC) (has:Bool) (y:List GC) (st0 st1:Int) (rtr:Bool) (pn0 pn1:Int) (C:LL):Jn :=
 [(11157,Obj.row false 40 22 (RowC.lst 11156 Wc (JOP x l C))),(0,Obj.blk 74 [(2,Cb rcl),(3,Cb rop),(4,Ci rer),(5,Cb rmo),(6,Cb ren),(7,Ci rla0),(8,Ci rla1),(9,Ci rla2),(10,Ci (xi l 0)),(11,Ci (xi l 1)),(12,Ci (xi l 2)),(13,Ci (xi l 3)),(14,Ci (xi l 4)),(15,Ci (xi l 5)),(16,Ci (xi l 6)),(17,Ci (xi l 7)),(18,Ci (xi l 8)),(19,Ci (xi l 9)),(20,Ci (xi l 10)),(21,Ci (xi l 11)),(22,Ci (xi l 12)),(23,Cb (xb l 13)),(24,Ci (xi l 14)),(25,Cb (xb l 15)),(26,Ci (xi l 16)),(27,Ci (xi l 17)),(28,Ci (xi l 18)),(29,Ci (xi l 19)),(30,Ci (xi l 20)),(31,Cb (xb l 21)),(11155,SC.wh 11153),(11159,Cb (JPG x l has)),(11160,Ci (JPR x l y)),(11161,Ci (JPP x l y)),(11162,Ci (JOv x l y)),(11163,Ci (JPA x l y)),(11164,Ci (JOu x l y)),(11165,Ci (JPn x l y)),(11166,Ci (JPT x l y)),(11167,Ci (JP4 x l y)),(11168,Ci (JRr x l y)),(11169,Ci (JRg x l y)),(11170,Ci (JRw x l y)),(11171,Ci (JPb x l y)),(11172,Ci (JPQ x l y)),(11173,Cb (JPD x l y)),(11174,Ci (JPC x l y)),(11175,Cb (JRn x l y)),(11176,Ci (JPq x l y)),(11177,Ci (JPs x l y)),(11178,Ci (JPj x l y)),(11179,Ci (JQw x l y)),(11180,Ci (JRc x l y)),(11181,Cb (JPZ x l y)),(11182,Ci (JFW x l st0)),(11183,Ci (JF5 x l st1)),(11184,Cb (JPf x l rtr)),(11185,Ci (JFW x l pn0)),(11186,Ci (JF5 x l pn1))]),(11153,Obj.row true 40 22 (RowC.lst 11158 Wc (JEe x l C))),(1,Obj.row true 40 22 (RowC.lst 61 Wc C))]
theorem Jgi (x:List GC) (rcl rop:Bool) (rer:Int) (rmo ren:Bool) (rla0 rla1 rla2:Int) (l:List GC) (has:Bool) (y:List GC) (st0 st1:Int) (rtr:Bool) (pn0 pn1:Int) (C:LL) (hNeeds:∀ pN ∈ (JAz x l C),pN):Runs (JHE (JB JVc) Wr 62) (JCZ.args (Je JKb [.v x,.b rcl,.b rop,.i rer,.b rmo,.b ren,.i rla0,.i rla1,.i rla2,.v l,.b has,.v y,.i st0,.i st1,.b rtr,.i pn0,.i pn1])) (JCZ.memo (Je JKb [.v x,.b rcl,.b rop,.i rer,.b rmo,.b ren,.i rla0,.i rla1,.i rla2,.v l,.b has,.v y,.i st0,.i st1,.b rtr,.i pn0,.i pn1]) [C]) JCZ.n (SV.tup [(false,[SC.wh 11157]),(false,[Ci (JCV x l)])]) (Jc4 x rcl rop rer rmo ren rla0 rla1 rla2 l has y st0 st1 rtr pn0 pn1 C) :=
  Runs.of1 (ps := (JAz x l C)) (by kernel_rfl) hNeeds
def JLt:List Gm → Qm → Option CRes
  | [.v x,.b rcl,.b rop,.i rer,.b rmo,.b ren,.i rla0,.i rla1,.i rla2,.v l,.b has,.v y,.i st0,.i st1,.b rtr,.i pn0,.i pn1],[C] => some ⟨SV.tup [(false,[SC.wh 11157]),(false,[Ci (JCV x l)])],
 Jc4 x rcl rop rer rmo ren rla0 rla1 rla2 l has y st0 st1 rtr pn0 pn1 C,[C.length ≤ 1000],[],11187⟩
  | _,_ => none
theorem Jmv:Qg Tryz.prog 62 (Z4 JKb JCZ JLt) := by
  refine QZ (KD JOF 62) fun ps ls r hr hn _ => ?_
  unfold JLt at hr
  split at hr
  · cases hr; exact ⟨_,Jgi _ _ _ _ _ _ _ _ _ _ _ _ _ _ _ _ _ _ (JgD (by exact hn)),fun _ => rfl⟩
  · cases hr
def JWM:List (Nat × JY) := (62,Z4 JKb JCZ JLt) :: JVc
theorem JMz:Known Tryz.prog (JB JWM) Wr := J7 JOF Jmv
def Wh:Tpl := ⟨[.one (.ptr 0 0),.agg [.int .i64,.int .i64],.one (.bool)],Y1,62⟩
def JDr:List GK := [.i,.i,.b,.b,.b,.i,.b,.b,.i,.i,.i,.v Jx,.b,.v Jx,.i,.i,.b,.i,.i]
section
variable (u0 u1:Int) (Xi:Bool) (l y:List GC) (st0 st1:Int) (rtr:Bool)
def JJc:Int:=
 J8 (J0 u0 st0) (J0 u1 st1) (J0 (J3 (xi l 8) (xi y 5) (xi y 6) (xi y 7)) (J3 (xi l 8) (xi y 2) (xi y 3) (xi y 4))) (J0 (J4 (xi l 8) (xi y 5) (xi y 6) (xi y 7)) (J4 (xi l 8) (xi y 2) (xi y 3) (xi y 4)))
def Xb:Int:=
 JF (J3 (xi l 8) (xi y 2) (xi y 3) (xi y 4)) (J3 (xi l 8) (xi y 5) (xi y 6) (xi y 7)) (JL (xi l 8) (J1 y)) false
def XU:Int:=
 JF (J4 (xi l 8) (xi y 2) (xi y 3) (xi y 4)) (J4 (xi l 8) (xi y 5) (xi y 6) (xi y 7)) (JM (xi l 8) (J1 y)) false
def XY:Int:=
 JF (J3 (xi l 8) (xi y 2) (xi y 3) (xi y 4)) (J3 (xi l 8) (xi y 5) (xi y 6) (xi y 7)) (JL (xi l 8) (J1 y)) true
def XV:Int:=
 JF (J4 (xi l 8) (xi y 2) (xi y 3) (xi y 4)) (J4 (xi l 8) (xi y 5) (xi y 6) (xi y 7)) (JM (xi l 8) (J1 y)) true
def Jz:Int:=
 bif JJ (J1 y) == 0 then bif (rtr || Xi) && decide (JJc u0 u1 l y st0 st1 ≤ 0) then 16 else 0 else bif rtr || Xi then bif !QF (J1 y) && (!QK (Xb l y) (XU l y) (XY l y) (XV l y) (bif rtr then J0 st0 (JL (xi l 8) (J1 y)) else Xb l y) (bif rtr then J0 st1 (JM (xi l 8) (J1 y)) else XU l y) (JJ (J1 y)) false || !QK (bif rtr then J0 st0 (JL (xi l 8) (J1 y)) else Xb l y) (bif rtr then J0 st1 (JM (xi l 8) (J1 y)) else XU l y) (XY l y) (XV l y) (bif Xi then J0 u0 (JL (xi l 8) (J1 y)) else XY l y) (bif Xi then J0 u1 (JM (xi l 8) (J1 y)) else XV l y) (JJ (J1 y)) false) then 16 else bif W2 (xi y 0) (JR (xi l 8) st0 st1 (J9 (xi l 8) (xi y 2) (xi y 3) (xi y 4))) (JP (xi l 8) st0 st1 (J9 (xi l 8) (xi y 2) (xi y 3) (xi y 4))) (JQ (xi l 8) st0 st1 (J9 (xi l 8) (xi y 2) (xi y 3) (xi y 4))) (JR (xi l 8) u0 u1 (J9 (xi l 8) (xi y 5) (xi y 6) (xi y 7))) (JP (xi l 8) u0 u1 (J9 (xi l 8) (xi y 5) (xi y 6) (xi y 7))) (JQ (xi l 8) u0 u1 (J9 (xi l 8) (xi y 5) (xi y 6) (xi y 7))) (KW (J1 y)) (XI (J1 y) st0 st1 (J1 l)) (XK (J1 y) st0 st1 (J1 l)) (XN (J1 y) st0 st1 (J1 l)) (xi y 12) false != 0 then 16 else 0 else bif W2 (xi y 0) (JR (xi l 8) st0 st1 (J9 (xi l 8) (xi y 2) (xi y 3) (xi y 4))) (JP (xi l 8) st0 st1 (J9 (xi l 8) (xi y 2) (xi y 3) (xi y 4))) (JQ (xi l 8) st0 st1 (J9 (xi l 8) (xi y 2) (xi y 3) (xi y 4))) (JR (xi l 8) u0 u1 (J9 (xi l 8) (xi y 5) (xi y 6) (xi y 7))) (JP (xi l 8) u0 u1 (J9 (xi l 8) (xi y 5) (xi y 6) (xi y 7))) (JQ (xi l 8) u0 u1 (J9 (xi l 8) (xi y 5) (xi y 6) (xi y 7))) (KW (J1 y)) (XI (J1 y) st0 st1 (J1 l)) (XK (J1 y) st0 st1 (J1 l)) (XN (J1 y) st0 st1 (J1 l)) (xi y 12) (xb y 13) != 0 then 16 else 0
def JSr:List Int:=
 [xi y 14,bif xb y 15 then 1 else 0,0,0,xi y 18,xi y 19,xi y 20,bif xb y 21 then 1 else 0]
def ZO:LL:=
 bif JJ (J1 y) == 0 then bif (rtr || Xi) && decide (JJc u0 u1 l y st0 st1 ≤ 0) then [] else YN [GC.i (xi y 0),GC.i (xi y 1),GC.i (JR (xi l 8) st0 st1 (J9 (xi l 8) (xi y 2) (xi y 3) (xi y 4))),GC.i (JP (xi l 8) st0 st1 (J9 (xi l 8) (xi y 2) (xi y 3) (xi y 4))),GC.i (JQ (xi l 8) st0 st1 (J9 (xi l 8) (xi y 2) (xi y 3) (xi y 4))),GC.i (JR (xi l 8) u0 u1 (J9 (xi l 8) (xi y 5) (xi y 6) (xi y 7))),GC.i (JP (xi l 8) u0 u1 (J9 (xi l 8) (xi y 5) (xi y 6) (xi y 7))),GC.i (JQ (xi l 8) u0 u1 (J9 (xi l 8) (xi y 5) (xi y 6) (xi y 7))),GC.i (KW (J1 y)),GC.i (XI (J1 y) st0 st1 (J1 l)),GC.i (XK (J1 y) st0 st1 (J1 l)),GC.i (XN (J1 y) st0 st1 (J1 l)),GC.i (xi y 12),GC.b (xb y 13),GC.i (xi y 14),GC.b (xb y 15),GC.i 0,GC.i 0,GC.i (xi y 18),GC.i (xi y 19),GC.i (xi y 20),GC.b (xb y 21)] else bif rtr || Xi then bif !QF (J1 y) && (!QK (Xb l y) (XU l y) (XY l y) (XV l y) (bif rtr then J0 st0 (JL (xi l 8) (J1 y)) else Xb l y) (bif rtr then J0 st1 (JM (xi l 8) (J1 y)) else XU l y) (JJ (J1 y)) false || !QK (bif rtr then J0 st0 (JL (xi l 8) (J1 y)) else Xb l y) (bif rtr then J0 st1 (JM (xi l 8) (J1 y)) else XU l y) (XY l y) (XV l y) (bif Xi then J0 u0 (JL (xi l 8) (J1 y)) else XY l y) (bif Xi then J0 u1 (JM (xi l 8) (J1 y)) else XV l y) (JJ (J1 y)) false) then [] else bif W2 (xi y 0) (JR (xi l 8) st0 st1 (J9 (xi l 8) (xi y 2) (xi y 3) (xi y 4))) (JP (xi l 8) st0 st1 (J9 (xi l 8) (xi y 2) (xi y 3) (xi y 4))) (JQ (xi l 8) st0 st1 (J9 (xi l 8) (xi y 2) (xi y 3) (xi y 4))) (JR (xi l 8) u0 u1 (J9 (xi l 8) (xi y 5) (xi y 6) (xi y 7))) (JP (xi l 8) u0 u1 (J9 (xi l 8) (xi y 5) (xi y 6) (xi y 7))) (JQ (xi l 8) u0 u1 (J9 (xi l 8) (xi y 5) (xi y 6) (xi y 7))) (KW (J1 y)) (XI (J1 y) st0 st1 (J1 l)) (XK (J1 y) st0 st1 (J1 l)) (XN (J1 y) st0 st1 (J1 l)) (xi y 12) false != 0 then [] else [xi y 0 :: xi y 1 :: JR (xi l 8) st0 st1 (J9 (xi l 8) (xi y 2) (xi y 3) (xi y 4)) :: JP (xi l 8) st0 st1 (J9 (xi l 8) (xi y 2) (xi y 3) (xi y 4)) :: JQ (xi l 8) st0 st1 (J9 (xi l 8) (xi y 2) (xi y 3) (xi y 4)) :: JR (xi l 8) u0 u1 (J9 (xi l 8) (xi y 5) (xi y 6) (xi y 7)) :: JP (xi l 8) u0 u1 (J9 (xi l 8) (xi y 5) (xi y 6) (xi y 7)) :: JQ (xi l 8) u0 u1 (J9 (xi l 8) (xi y 5) (xi y 6) (xi y 7)) :: KW (J1 y) :: XI (J1 y) st0 st1 (J1 l) :: XK (J1 y) st0 st1 (J1 l) :: XN (J1 y) st0 st1 (J1 l) :: xi y 12 :: 0 :: JSr y] else bif W2 (xi y 0) (JR (xi l 8) st0 st1 (J9 (xi l 8) (xi y 2) (xi y 3) (xi y 4))) (JP (xi l 8) st0 st1 (J9 (xi l 8) (xi y 2) (xi y 3) (xi y 4))) (JQ (xi l 8) st0 st1 (J9 (xi l 8) (xi y 2) (xi y 3) (xi y 4))) (JR (xi l 8) u0 u1 (J9 (xi l 8) (xi y 5) (xi y 6) (xi y 7))) (JP (xi l 8) u0 u1 (J9 (xi l 8) (xi y 5) (xi y 6) (xi y 7))) (JQ (xi l 8) u0 u1 (J9 (xi l 8) (xi y 5) (xi y 6) (xi y 7))) (KW (J1 y)) (XI (J1 y) st0 st1 (J1 l)) (XK (J1 y) st0 st1 (J1 l)) (XN (J1 y) st0 st1 (J1 l)) (xi y 12) (xb y 13) != 0 then [] else [xi y 0 :: xi y 1 :: JR (xi l 8) st0 st1 (J9 (xi l 8) (xi y 2) (xi y 3) (xi y 4)) :: JP (xi l 8) st0 st1 (J9 (xi l 8) (xi y 2) (xi y 3) (xi y 4)) :: JQ (xi l 8) st0 st1 (J9 (xi l 8) (xi y 2) (xi y 3) (xi y 4)) :: JR (xi l 8) u0 u1 (J9 (xi l 8) (xi y 5) (xi y 6) (xi y 7)) :: JP (xi l 8) u0 u1 (J9 (xi l 8) (xi y 5) (xi y 6) (xi y 7)) :: JQ (xi l 8) u0 u1 (J9 (xi l 8) (xi y 5) (xi y 6) (xi y 7)) :: KW (J1 y) :: XI (J1 y) st0 st1 (J1 l) :: XK (J1 y) st0 st1 (J1 l) :: XN (J1 y) st0 st1 (J1 l) :: xi y 12 :: (bif xb y 13 then 1
 else 0) :: JSr y]
end
theorem JJT (u0 u1:Int) (Xi:Bool) (l y:List GC) (st0 st1:Int) (rtr:Bool):(ZO u0 u1 Xi l y st0 st1 rtr).length ≤ 1 := by
  unfold ZO
  repeat' first | exact Nat.le_refl _ | exact Nat.zero_le _ | exact JMm _ | refine Jll ?_ ?_
def JSK (u0 u1:Int) (Xi rcl rop:Bool) (rer:Int) (rmo ren:Bool) (rla0 rla1 rla2:Int) (l:List GC) (has:Bool) (y:List GC) (st0 st1:Int) (rtr:Bool) (pn0 pn1:Int) (C:LL):Jn :=
 [(5087,Obj.row false 40 22 (RowC.lst 5086 Wc (ZO u0 u1 Xi l y st0 st1 rtr))),(0,Obj.blk 74 [(2,Cb rcl),(3,Cb rop),(4,Ci rer),(5,Cb rmo),(6,Cb ren),(7,Ci rla0),(8,Ci rla1),(9,Ci rla2),(10,Ci (xi l 0)),(11,Ci (xi l 1)),(12,Ci (xi l 2)),(13,Ci (xi l 3)),(14,Ci (xi l 4)),(15,Ci (xi l 5)),(16,Ci (xi l 6)),(17,Ci (xi l 7)),(18,Ci (xi l 8)),(19,Ci (xi l 9)),(20,Ci (xi l 10)),(21,Ci (xi l 11)),(22,Ci (xi l 12)),(23,Cb (xb l 13)),(24,Ci (xi l 14)),(25,Cb (xb l 15)),(26,Ci (xi l 16)),(27,Ci (xi l 17)),(28,Ci (xi l 18)),(29,Ci (xi l 19)),(30,Ci (xi l 20)),(31,Cb (xb l 21)),(32,SC.wh 1),(33,Cb has),(34,Ci (xi y 0)),(35,Ci (xi y 1)),(36,Ci (xi y 2)),(37,Ci (xi y 3)),(38,Ci (xi y 4)),(39,Ci (xi y 5)),(40,Ci (xi y 6)),(41,Ci (xi y 7)),(42,Ci (xi y 8)),(43,Ci (xi y 9)),(44,Ci (xi y 10)),(45,Ci (xi y 11)),(46,Ci (xi y 12)),(47,Cb (xb y 13)),(48,Ci (xi y 14)),(49,Cb (xb y 15)),(50,Ci (xi y 16)),(51,Ci (xi y 17)),(52,Ci (xi y 18)),(53,Ci (xi y 19)),(54,Ci (xi y 20)),(55,Cb (xb y 21)),(56,Ci st0),(57,Ci st1),(58,Cb rtr),(59,Ci pn0),(60,Ci pn1)]),(1,Obj.row true 40 22 (RowC.lst 61 Wc C))]
theorem JaV (u0 u1:Int) (Xi rcl rop:Bool) (rer:Int) (rmo ren:Bool) (rla0 rla1 rla2:Int) (l:List GC) (has:Bool) (y:List GC) (st0 st1:Int) (rtr:Bool) (pn0 pn1:Int) (C:LL):Runs (JHE (JB JWM) Wr 86) (Wh.args (Je JDr [.i u0,.i u1,.b Xi,.b rcl,.b rop,.i rer,.b rmo,.b ren,.i rla0,.i rla1,.i rla2,.v l,.b has,.v y,.i st0,.i st1,.b rtr,.i pn0,.i pn1])) (Wh.memo (Je JDr [.i u0,.i u1,.b Xi,.b rcl,.b rop,.i rer,.b rmo,.b ren,.i rla0,.i rla1,.i rla2,.v l,.b has,.v y,.i st0,.i st1,.b rtr,.i pn0,.i pn1]) [C]) Wh.n (SV.tup [(false,[SC.wh 5087]),(false,[Ci (Jz u0 u1 Xi l y st0 st1 rtr)])]) (JSK u0 u1 Xi rcl rop rer rmo ren rla0 rla1 rla2 l has y st0 st1 rtr pn0 pn1 C) :=
  Runs.of1 (ps := []) (by kernel_rfl) (by simp)
def JHM:List Gm → Qm → Option CRes
  | [.i u0,.i u1,.b Xi,.b rcl,.b rop,.i rer,.b rmo,.b ren,.i rla0,.i rla1,.i rla2,.v l,.b has,.v y,.i st0,.i st1,.b rtr,.i pn0,.i pn1],[C] => some ⟨SV.tup [(false,[SC.wh 5087]),(false,[Ci (Jz u0 u1 Xi l y st0 st1 rtr)])],
 JSK u0 u1 Xi rcl rop rer rmo ren rla0 rla1 rla2 l has y st0 st1 rtr pn0 pn1 C,[],[],5089⟩
  | _,_ => none
theorem Jfa:Qg Tryz.prog 86 (Z4 JDr Wh JHM) := by
  refine QZ (KD JMz 86) fun ps ls r hr hn _ => ?_
  unfold JHM at hr
  split at hr
  · cases hr; exact ⟨_,JaV _ _ _ _ _ _ _ _ _ _ _ _ _ _ _ _ _ _ _ _,fun _ => rfl⟩
  · cases hr
def JLV:List (Nat × JY) := (86,Z4 JDr Wh JHM) :: JWM
theorem JJ5:Known Tryz.prog (JB JLV) Wr := J7 JMz Jfa
def kz:Tpl := ⟨[.one (.ptr 0 0),.agg pI,.agg [.int .i64,.int .i64],.agg [.int .i64,.int .i64],.one (.bool)],Y1,62⟩
def JGU:List GK := [.v Jx,.i,.i,.i,.i,.b,.b,.b,.i,.b,.b,.i,.i,.i,.v Jx,.b,.v Jx,.i,.i,.b,.i,.i]
section
variable (x:List GC) (u0 u1 v0 v1:Int) (out:Bool) (l:List GC)
def Kt:Int:=
 JE (J0 u0 (J3 (xi l 8) (xi x 2) (xi x 3) (xi x 4))) (J0 u1 (J4 (xi l 8) (xi x 2) (xi x 3) (xi x 4))) (J0 v0 (J3 (xi l 8) (xi x 2) (xi x 3) (xi x 4))) (J0 v1 (J4 (xi l 8) (xi x 2) (xi x 3) (xi x 4)))
def Kr:Int:=
 IntKind.i64.wrap (Kt x u0 u1 v0 v1 l * IntKind.i64.wrap (0 - xi l 16))
def Yd:Int:=
 J8 (J0 u0 (J3 (xi l 8) (xi x 2) (xi x 3) (xi x 4))) (J0 u1 (J4 (xi l 8) (xi x 2) (xi x 3) (xi x 4))) (J0 v0 (J3 (xi l 8) (xi x 2) (xi x 3) (xi x 4))) (J0 v1 (J4 (xi l 8) (xi x 2) (xi x 3) (xi x 4)))
def ZM:Int:=
 J8 (J0 u0 (J3 (xi l 8) (xi x 2) (xi x 3) (xi x 4))) (J0 u1 (J4 (xi l 8) (xi x 2) (xi x 3) (xi x 4))) (J0 u0 (J3 (xi l 8) (xi x 2) (xi x 3) (xi x 4))) (J0 u1 (J4 (xi l 8) (xi x 2) (xi x 3) (xi x 4)))
def WS:LL:=
 YN [GC.i (bif out && (decide (Kr x u0 u1 v0 v1 l > 0) || Kt x u0 u1 v0 v1 l == 0 && decide (Yd x u0 u1 v0 v1 l < 0)) && decide (ZM x u0 u1 l ≥ 64) && decide (ZM x v0 v1 l ≥ 64) then 3 else 2),GC.i (xi x 1),GC.i (JR (xi l 8) u0 u1 (J9 (xi l 8) (xi x 2) (xi x 3) (xi x 4))),GC.i (JP (xi l 8) u0 u1 (J9 (xi l 8) (xi x 2) (xi x 3) (xi x 4))),GC.i (JQ (xi l 8) u0 u1 (J9 (xi l 8) (xi x 2) (xi x 3) (xi x 4))),GC.i (JR (xi l 8) v0 v1 (J9 (xi l 8) (xi x 2) (xi x 3) (xi x 4))),GC.i (JP (xi l 8) v0 v1 (J9 (xi l 8) (xi x 2) (xi x 3) (xi x 4))),GC.i (JQ (xi l 8) v0 v1 (J9 (xi l 8) (xi x 2) (xi x 3) (xi x 4))),GC.i (bif out && (decide (Kr x u0 u1 v0 v1 l > 0) || Kt x u0 u1 v0 v1 l == 0 && decide (Yd x u0 u1 v0 v1 l < 0)) && decide (ZM x u0 u1 l ≥ 64) && decide (ZM x v0 v1 l ≥ 64) then xi l 8 else 0),GC.i (bif out && (decide (Kr x u0 u1 v0 v1 l > 0) || Kt x u0 u1 v0 v1 l == 0 && decide (Yd x u0 u1 v0 v1 l < 0)) && decide (ZM x u0 u1 l ≥ 64) && decide (ZM x v0 v1 l ≥ 64) then JR (xi l 8) (J3 (xi l 8) (xi x 2) (xi x 3) (xi x 4)) (J4 (xi l 8) (xi x 2) (xi x 3) (xi x 4)) (J9 (xi l 8) (xi x 2) (xi x 3) (xi x 4)) else 0),GC.i (bif out && (decide (Kr x u0 u1 v0 v1 l > 0) || Kt x u0 u1 v0 v1 l == 0 && decide (Yd x u0 u1 v0 v1 l < 0)) && decide (ZM x u0 u1 l ≥ 64) && decide (ZM x v0 v1 l ≥ 64) then JP (xi l 8) (J3 (xi l 8) (xi x 2) (xi x 3) (xi x 4)) (J4 (xi l 8) (xi x 2) (xi x 3) (xi x 4)) (J9 (xi l 8) (xi x 2) (xi x 3) (xi x 4)) else 0),GC.i (bif out && (decide (Kr x u0 u1 v0 v1 l > 0) || Kt x u0 u1 v0 v1 l == 0 && decide (Yd x u0 u1 v0 v1 l < 0)) && decide (ZM x u0 u1 l ≥ 64) && decide (ZM x v0 v1 l ≥ 64) then JQ (xi l 8) (J3 (xi l 8) (xi x 2) (xi x 3) (xi x 4)) (J4 (xi l 8) (xi x 2) (xi x 3) (xi x 4)) (J9 (xi l 8) (xi x 2) (xi x 3) (xi x 4)) else 0),GC.i (bif out && (decide (Kr x u0 u1 v0 v1 l > 0) || Kt x u0 u1 v0 v1 l == 0 && decide (Yd x u0 u1 v0 v1 l < 0)) && decide (ZM x u0 u1 l ≥ 64) && decide (ZM x v0 v1 l ≥ 64) then IntKind.i64.wrap (0 - xi l 16) else 0),GC.b false,GC.i (xi x 14),GC.b (xb x 15),GC.i 0,GC.i 0,GC.i 0,GC.i 0,GC.i 0,GC.b false]
end
theorem Jab (x:List GC) (u0 u1 v0 v1:Int) (out:Bool) (l:List GC):(WS x u0 u1 v0 v1 out l).length ≤ 1 := by
  unfold WS
  exact JMm _
def JWl (x:List GC) (u0 u1 v0 v1:Int) (out rcl rop:Bool) (rer:Int) (rmo ren:Bool) (rla0 rla1 rla2:Int) (l:List GC) (has:Bool) (y:List GC) (st0 st1:Int) (rtr:Bool) (pn0 pn1:Int) (C:LL):Jn :=
 [(925,Obj.row false 40 22 (RowC.lst 924 Wc (WS x u0 u1 v0 v1 out l))),(0,Obj.blk 74 [(2,Cb rcl),(3,Cb rop),(4,Ci rer),(5,Cb rmo),(6,Cb ren),(7,Ci rla0),(8,Ci rla1),(9,Ci rla2),(10,Ci (xi l 0)),(11,Ci (xi l 1)),(12,Ci (xi l 2)),(13,Ci (xi l 3)),(14,Ci (xi l 4)),(15,Ci (xi l 5)),(16,Ci (xi l 6)),(17,Ci (xi l 7)),(18,Ci (xi l 8)),(19,Ci (xi l 9)),(20,Ci (xi l 10)),(21,Ci (xi l 11)),(22,Ci (xi l 12)),(23,Cb (xb l 13)),(24,Ci (xi l 14)),(25,Cb (xb l 15)),(26,Ci (xi l 16)),(27,Ci (xi l 17)),(28,Ci (xi l 18)),(29,Ci (xi l 19)),(30,Ci (xi l 20)),(31,Cb (xb l 21)),(32,SC.wh 1),(33,Cb has),(34,Ci (xi y 0)),(35,Ci (xi y 1)),(36,Ci (xi y 2)),(37,Ci (xi y 3)),(38,Ci (xi y 4)),(39,Ci (xi y 5)),(40,Ci (xi y 6)),(41,Ci (xi y 7)),(42,Ci (xi y 8)),(43,Ci (xi y 9)),(44,Ci (xi y 10)),(45,Ci (xi y 11)),(46,Ci (xi y 12)),(47,Cb (xb y 13)),(48,Ci (xi y 14)),(49,Cb (xb y 15)),(50,Ci (xi y 16)),(51,Ci (xi y 17)),(52,Ci (xi y 18)),(53,Ci (xi y 19)),(54,Ci (xi y 20)),(55,Cb (xb y 21)),(56,Ci st0),(57,Ci st1),(58,Cb rtr),(59,Ci pn0),(60,Ci pn1)]),(1,Obj.row true 40 22 (RowC.lst 61 Wc C))]
theorem Jdp (x:List GC) (u0 u1 v0 v1:Int) (out rcl rop:Bool) (rer:Int) (rmo ren:Bool) (rla0 rla1 rla2:Int) (l:List GC) (has:Bool) (y:List GC) (st0 st1:Int) (rtr:Bool) (pn0 pn1:Int) (C:LL):Runs (JHE (JB JLV) Wr 92) (kz.args (Je JGU [.v x,.i u0,.i u1,.i v0,.i v1,.b out,.b rcl,.b rop,.i rer,.b rmo,.b ren,.i rla0,.i rla1,.i rla2,.v l,.b has,.v y,.i st0,.i st1,.b rtr,.i pn0,.i pn1])) (kz.memo (Je JGU [.v x,.i u0,.i u1,.i v0,.i v1,.b out,.b rcl,.b rop,.i rer,.b rmo,.b ren,.i rla0,.i rla1,.i rla2,.v l,.b has,.v y,.i st0,.i st1,.b rtr,.i pn0,.i pn1]) [C]) kz.n (SV.one (SC.wh 925)) (JWl x u0 u1 v0 v1 out rcl rop rer rmo ren rla0 rla1 rla2 l has y st0 st1 rtr pn0 pn1 C) :=
  Runs.of1 (ps := []) (by kernel_rfl) (by simp)
def JIf:List Gm → Qm → Option CRes
  | [.v x,.i u0,.i u1,.i v0,.i v1,.b out,.b rcl,.b rop,.i rer,.b rmo,.b ren,.i rla0,.i rla1,.i rla2,.v l,.b has,.v y,.i st0,.i st1,.b rtr,.i pn0,.i pn1],[C] => some ⟨SV.one (SC.wh 925),
 JWl x u0 u1 v0 v1 out rcl rop rer rmo ren rla0 rla1 rla2 l has y st0 st1 rtr pn0 pn1 C,[],[],928⟩
  | _,_ => none
theorem Jhr:Qg Tryz.prog 92 (Z4 JGU kz JIf) := by
  refine QZ (KD JJ5 92) fun ps ls r hr hn _ => ?_
  unfold JIf at hr
  split at hr
  · cases hr; exact ⟨_,Jdp _ _ _ _ _ _ _ _ _ _ _ _ _ _ _ _ _ _ _ _ _ _ _,fun _ => rfl⟩
  · cases hr
def JbM:List (Nat × JY) := (92,Z4 JGU kz JIf) :: JLV
theorem Jae:Known Tryz.prog (JB JbM) Wr := J7 JJ5 Jhr
def JmO:JY := fun _ _ n => some ⟨.one .nilp,[],[False],[],n⟩
theorem JeY (P:Program) (f:FuncId):Qg P f JmO := fun _ _ _ r h hn => by cases h; exact absurd (hn False (by simp)) id
def Jki:List (Nat × JY) := (2000000 + 85,JmO) :: JbM
theorem JVd:Known Tryz.prog (JB Jki) Wr := J7 Jae (JeY _ _)
theorem JmP {A B C:LL} (ha:A.length ≤ 1) (hb:B.length ≤ C.length) (hc:C.length ≤ 1000):(A.length + B.length) * 176 ≤ 140737488355328 ∧ A.length + B.length ≤ 9223372036854775807 := by omega
theorem Jv0 {A B C:LL} (ha:A.length ≤ 1) (hb:B.length ≤ C.length) (hc:C.length ≤ 1000):((A ++ B).length + 1) * 176 ≤ 140737488355328 ∧ (A ++ B).length + 1 ≤ 9223372036854775807 := by rw [List.length_append]; omega
theorem Jv1 {A B C J:LL} (ha:A.length ≤ 1) (hb:B.length ≤ C.length) (hj:J.length ≤ 1) (hc:C.length ≤ 1000):((A ++ B).length + J.length) * 176 ≤ 140737488355328 ∧ (A ++ B).length + J.length ≤ 9223372036854775807 := by rw [List.length_append]; omega
theorem WJ {c:Bool} {a b:LL} {k:Nat} (h:a.length ≤ k) (h':b.length ≤ k):(bif c then a else b).length ≤ k := by cases c <;> assumption
def JD7:Tpl := ⟨[.one (.ptr 0 0),.agg pI],Y1,62⟩
def JJg:List GK := [.v Jx,.b,.b,.i,.b,.b,.i,.i,.i,.v Jx,.b,.v Jx,.i,.i,.b,.i,.i]
section
variable (x l y:List GC) (st0 st1:Int) (rtr:Bool) (C:LL)
def WQ:Int:=
 QX (J3 (xi l 8) (xi y 2) (xi y 3) (xi y 4)) (J4 (xi l 8) (xi y 2) (xi y 3) (xi y 4)) (J3 (xi l 8) (xi y 5) (xi y 6) (xi y 7)) (J4 (xi l 8) (xi y 5) (xi y 6) (xi y 7)) (JL (xi l 8) (J1 y)) (JM (xi l 8) (J1 y)) (JJ (J1 y)) (JO (J1 l))
def JC1:Int:=
 Jz (Xf (J3 (xi l 8) (xi y 2) (xi y 3) (xi y 4)) (J4 (xi l 8) (xi y 2) (xi y 3) (xi y 4)) (J3 (xi l 8) (xi y 5) (xi y 6) (xi y 7)) (J4 (xi l 8) (xi y 5) (xi y 6) (xi y 7)) (JL (xi l 8) (J1 y)) (JM (xi l 8) (J1 y)) (JJ (J1 y)) (JO (J1 l))) (Xe (J3 (xi l 8) (xi y 2) (xi y 3) (xi y 4)) (J4 (xi l 8) (xi y 2) (xi y 3) (xi y 4)) (J3 (xi l 8) (xi y 5) (xi y 6) (xi y 7)) (J4 (xi l 8) (xi y 5) (xi y 6) (xi y 7)) (JL (xi l 8) (J1 y)) (JM (xi l 8) (J1 y)) (JJ (J1 y)) (JO (J1 l))) false (J1 l) (J1 y) st0 st1 rtr
def JD6:Int:=
 bif WQ l y != 0 then WQ l y else bif JC1 l y st0 st1 rtr != 0 then JC1 l y st0 st1 rtr else 0
def QS:Int:=
 Xf (J3 (xi l 8) (xi y 2) (xi y 3) (xi y 4)) (J4 (xi l 8) (xi y 2) (xi y 3) (xi y 4)) (J3 (xi l 8) (xi y 5) (xi y 6) (xi y 7)) (J4 (xi l 8) (xi y 5) (xi y 6) (xi y 7)) (JL (xi l 8) (J1 y)) (JM (xi l 8) (J1 y)) (JJ (J1 y)) (JO (J1 l))
def QR:Int:=
 Xe (J3 (xi l 8) (xi y 2) (xi y 3) (xi y 4)) (J4 (xi l 8) (xi y 2) (xi y 3) (xi y 4)) (J3 (xi l 8) (xi y 5) (xi y 6) (xi y 7)) (J4 (xi l 8) (xi y 5) (xi y 6) (xi y 7)) (JL (xi l 8) (J1 y)) (JM (xi l 8) (J1 y)) (JJ (J1 y)) (JO (J1 l))
def JNb:LL:= bif QX (J3 (xi l 8) (xi y 2) (xi y 3) (xi y 4)) (J4 (xi l 8) (xi y 2) (xi y 3) (xi y 4)) (J3 (xi l 8) (xi y 5) (xi y 6) (xi y 7)) (J4 (xi l 8) (xi y 5) (xi y 6) (xi y 7))
   (JL (xi l 8) (J1 y)) (JM (xi l 8) (J1 y)) (JJ (J1 y)) (JO (J1 l)) != 0 then [] else bif Jz (QS l y) (QR l y) false (J1 l) (J1 y) st0 st1 rtr != 0
   then [] else ZO (QS l y) (QR l y) false (J1 l) (J1 y) st0 st1 rtr ++ Z8 (J1 l) (QS l y) (QR l y) C ++ [[xi x 0,xi x 1,JR (xi l 8) (QS l y)
   (QR l y) (J9 (xi l 8) (xi x 2) (xi x 3) (xi x 4)),JP (xi l 8) (QS l y) (QR l y) (J9 (xi l 8) (xi x 2) (xi x 3) (xi x 4)),JQ (xi l 8) (QS l y) (QR
   l y) (J9 (xi l 8) (xi x 2) (xi x 3) (xi x 4)),xi x 5,xi x 6,xi x 7,xi x 8,xi x 9,xi x 10,xi x 11,xi x 12,bif xb x 13 then 1 else 0,xi x 14,bif xb x 15 then 1 else 0,xi x 16,xi x 17,xi x 18,xi x
   19,xi x 20,bif xb x 21 then 1 else 0]]
end
def JL4 (l:List GC) (y:List GC) := Xf (J3 (xi l 8) (xi y 2) (xi y 3) (xi y 4)) (J4 (xi l 8) (xi y 2) (xi y 3) (xi y 4)) (J3 (xi l 8) (xi y 5) (xi y 6) (xi y 7)) (J4 (xi l 8) (xi y 5) (xi y 6) (xi y 7)) (JL
   (xi l 8) (J1 y)) (JM (xi l 8) (J1 y)) (JJ (J1 y)) (JO (J1 l))
def JKs (l:List GC) (y:List GC) := Xe (J3 (xi l 8) (xi y 2) (xi y 3) (xi y 4)) (J4 (xi l 8) (xi y 2) (xi y 3) (xi y 4)) (J3 (xi l 8) (xi y 5) (xi y 6) (xi y 7)) (J4 (xi l 8) (xi y 5) (xi y 6) (xi y 7)) (JL
   (xi l 8) (J1 y)) (JM (xi l 8) (J1 y)) (JJ (J1 y)) (JO (J1 l))
section
variable (rop:Bool) (l:List GC) (has:Bool) (y:List GC) (st0 st1:Int) (rtr:Bool) (C:LL) (pn1 pn0:Int)
def JYM:Bool:= bif QX (J3 (xi l 8) (xi y 2) (xi y 3) (xi y 4)) (J4 (xi l 8) (xi y 2) (xi y 3) (xi y 4)) (J3 (xi l 8) (xi y 5) (xi y 6) (xi y 7)) (J4 (xi l 8) (xi y 5) (xi y 6) (xi y 7))
   (JL (xi l 8) (J1 y)) (JM (xi l 8) (J1 y)) (JJ (J1 y)) (JO (J1 l)) != 0 then rop else Jz (JL4 l y) (JKs l y) false (J1 l) (J1 y) st0 st1 rtr != 0 && rop
def JPp:Bool:= bif QX (J3 (xi l 8) (xi y 2) (xi y 3) (xi y 4)) (J4 (xi l 8) (xi y 2) (xi y 3) (xi y 4)) (J3 (xi l 8) (xi y 5) (xi y 6) (xi y 7)) (J4 (xi l 8) (xi y 5) (xi y 6) (xi y 7))
   (JL (xi l 8) (J1 y)) (JM (xi l 8) (J1 y)) (JJ (J1 y)) (JO (J1 l)) != 0 then has else Jz (JL4 l y) (JKs l y) false (J1 l) (J1 y) st0 st1 rtr != 0 && has
def JRs:Int:= bif QX (J3 (xi l 8) (xi y 2) (xi y 3) (xi y 4)) (J4 (xi l 8) (xi y 2) (xi y 3) (xi y 4)) (J3 (xi l 8) (xi y 5) (xi y 6) (xi y 7)) (J4 (xi l 8) (xi y 5) (xi y 6) (xi y 7))
   (JL (xi l 8) (J1 y)) (JM (xi l 8) (J1 y)) (JJ (J1 y)) (JO (J1 l)) != 0 then pn0 else bif Jz (QS l y) (JKs l y) false (J1 l) (J1 y) st0 st1 rtr != 0 then pn0 else QS l y
def JQl:Int:= bif QX (J3 (xi l 8) (xi y 2) (xi y 3) (xi y 4)) (J4 (xi l 8) (xi y 2) (xi y 3) (xi y 4)) (J3 (xi l 8) (xi y 5) (xi y 6) (xi y 7)) (J4 (xi l 8) (xi y 5) (xi y 6) (xi y 7))
   (JL (xi l 8) (J1 y)) (JM (xi l 8) (J1 y)) (JJ (J1 y)) (JO (J1 l)) != 0 then pn1 else bif Jz (JL4 l y) (QR l y) false (J1 l) (J1 y) st0 st1 rtr != 0 then pn1 else QR l y
def JG8:LL:= bif QX (J3 (xi l 8) (xi y 2) (xi y 3) (xi y 4)) (J4 (xi l 8) (xi y 2) (xi y 3) (xi y 4)) (J3 (xi l 8) (xi y 5) (xi y 6) (xi y 7)) (J4 (xi l 8) (xi y 5) (xi y 6) (xi y 7))
   (JL (xi l 8) (J1 y)) (JM (xi l 8) (J1 y)) (JJ (J1 y)) (JO (J1 l)) != 0 then C else bif Jz (JL4 l y) (JKs l y) false (J1 l) (J1 y) st0 st1 rtr != 0 then C else []
def JBh:List Prop:= [(QX (J3 (xi l 8) (xi y 2) (xi y 3) (xi y 4)) (J4 (xi l 8) (xi y 2) (xi y 3) (xi y 4)) (J3 (xi l 8) (xi y 5) (xi y 6) (xi y 7)) (J4 (xi l 8) (xi y 5) (xi y 6) (xi y 7)) (JL
   (xi l 8) (J1 y)) (JM (xi l 8) (J1 y)) (JJ (J1 y)) (JO (J1 l)) != 0) = false → (Jz (QS l y) (QR l y) false (J1 l) (J1 y) st0 st1 rtr != 0) = false →
   C.length ≤ 1000 ∧ ((ZO (QS l y) (QR l y) false (J1 l) (J1 y) st0 st1 rtr).length + (Z8 (J1 l) (QS l y) (QR l y) C).length) * 176 ≤ 140737488355328 ∧
   (ZO (QS l y) (QR l y) false (J1 l) (J1 y) st0 st1 rtr).length + (Z8 (J1 l) (QS l y) (QR l y) C).length ≤ 9223372036854775807 ∧ ((ZO (QS l
   y) (QR l y) false (J1 l) (J1 y) st0 st1 rtr ++ Z8 (J1 l) (QS l y) (QR l y) C).length + 1) * 176 ≤ 140737488355328 ∧ (ZO (QS l y) (QR l y) false
   (J1 l) (J1 y) st0 st1 rtr ++ Z8 (J1 l) (QS l y) (QR l y) C).length + 1 ≤ 9223372036854775807]
end
theorem Jgw {l:List GC} {y:List GC} {st0:Int} {st1:Int} {rtr:Bool} {C:LL} (hW:∀ q ∈ ([C.length ≤ 1000]:List Prop),q):∀ q ∈ (JBh l y st0 st1 rtr C),q := by
  simp only [awc,awn,and_true] at hW
  unfold JBh
  simp only [awc,awn,and_true]
  have r := fun a b => JLQ (J1 l) a b C
  have s := fun u w c => JJT u w c (J1 l) (J1 y) st0 st1 rtr
  exact fun _ _ => ⟨hW,(JmP (s _ _ _) (r _ _) hW).1,(JmP (s _ _ _) (r _ _) hW).2,(Jv0 (s _ _ _) (r _ _) hW).1,(Jv0 (s _ _ _) (r _ _) hW).2⟩
def Jc8 (x:List GC) (rcl rop:Bool) (rer:Int) (rmo ren:Bool) (rla0 rla1 rla2:Int) (l:List GC) (has:Bool) (y:List GC) (st0 st1:Int) (rtr:Bool) (pn0 pn1:Int) (C:LL):Jn :=
 [(15482,Obj.row false 40 22 (RowC.lst 15481 Wc (JNb x l y st0 st1 rtr C))),(0,Obj.blk 74 [(2,Cb rcl),(15487,Cb (JYM rop l y st0 st1 rtr)),(4,Ci rer),(5,Cb rmo),(6,Cb ren),(7,Ci rla0),(8,Ci rla1),(9,Ci rla2),(10,Ci (xi l 0)),(11,Ci (xi l 1)),(12,Ci (xi l 2)),(13,Ci (xi l 3)),(14,Ci (xi l 4)),(15,Ci (xi l 5)),(16,Ci (xi l 6)),(17,Ci (xi l 7)),(18,Ci (xi l 8)),(19,Ci (xi l 9)),(20,Ci (xi l 10)),(21,Ci (xi l 11)),(22,Ci (xi l 12)),(23,Cb (xb l 13)),(24,Ci (xi l 14)),(25,Cb (xb l 15)),(26,Ci (xi l 16)),(27,Ci (xi l 17)),(28,Ci (xi l 18)),(29,Ci (xi l 19)),(30,Ci (xi l 20)),(31,Cb (xb l 21)),(15480,SC.wh 15478),(15488,Cb (JPp l has y st0 st1 rtr)),(34,Ci (xi y 0)),(35,Ci (xi y 1)),(36,Ci (xi y 2)),(37,Ci (xi y 3)),(38,Ci (xi y 4)),(39,Ci (xi y 5)),(40,Ci (xi y 6)),(41,Ci (xi y 7)),(42,Ci (xi y 8)),(43,Ci (xi y 9)),(44,Ci (xi y 10)),(45,Ci (xi y 11)),(46,Ci (xi y 12)),(47,Cb (xb y 13)),(48,Ci (xi y 14)),(49,Cb (xb y 15)),(50,Ci (xi y 16)),(51,Ci (xi y 17)),(52,Ci (xi y 18)),(53,Ci (xi y 19)),(54,Ci (xi y 20)),(55,Cb (xb y 21)),(56,Ci st0),(57,Ci st1),(58,Cb rtr),(15489,Ci (JRs l y st0 st1 rtr pn0)),(15490,Ci (JQl l y st0 st1 rtr pn1))]),(15478,Obj.row true 40 22 (RowC.lst 15486 Wc (JG8 l y st0 st1 rtr C))),(1,Obj.row true 40 22 (RowC.lst 61 Wc C))]
theorem Jfu (x:List GC) (rcl rop:Bool) (rer:Int) (rmo ren:Bool) (rla0 rla1 rla2:Int) (l:List GC) (has:Bool) (y:List GC) (st0 st1:Int) (rtr:Bool) (pn0 pn1:Int) (C:LL) (hNeeds:∀ pN ∈ (JBh l y st0 st1 rtr C),pN):Runs (JHE (JB Jki) Wr 60) (JD7.args (Je JJg [.v x,.b rcl,.b rop,.i rer,.b rmo,.b ren,.i rla0,.i rla1,.i rla2,.v l,.b has,.v y,.i st0,.i st1,.b rtr,.i pn0,.i pn1])) (JD7.memo (Je JJg [.v x,.b rcl,.b rop,.i rer,.b rmo,.b ren,.i rla0,.i rla1,.i rla2,.v l,.b has,.v y,.i st0,.i st1,.b rtr,.i pn0,.i pn1]) [C]) JD7.n (SV.tup [(false,[SC.wh 15482]),(false,[Ci (JD6 l y st0 st1 rtr)])]) (Jc8 x rcl rop rer rmo ren rla0 rla1 rla2 l has y st0 st1 rtr pn0 pn1 C) :=
  Runs.of1 (ps := (JBh l y st0 st1 rtr C)) (by kernel_rfl) hNeeds
def JMH:List Gm → Qm → Option CRes
  | [.v x,.b rcl,.b rop,.i rer,.b rmo,.b ren,.i rla0,.i rla1,.i rla2,.v l,.b has,.v y,.i st0,.i st1,.b rtr,.i pn0,.i pn1],[C] => some ⟨SV.tup [(false,[SC.wh 15482]),(false,[Ci (JD6 l y st0 st1 rtr)])],Jc8 x rcl rop rer rmo ren rla0 rla1 rla2 l has y st0 st1 rtr pn0 pn1 C,[C.length ≤ 1000],[],15491⟩
  | _,_ => none
theorem Jox:Qg Tryz.prog 60 (Z4 JJg JD7 JMH) := by
  refine QZ (KD JVd 60) fun ps ls r hr hn _ => ?_
  unfold JMH at hr
  split at hr
  · cases hr; exact ⟨_,Jfu _ _ _ _ _ _ _ _ _ _ _ _ _ _ _ _ _ _ (Jgw (by exact hn)),fun _ => rfl⟩
  · cases hr
def JXu:List (Nat × JY) := (60,Z4 JJg JD7 JMH) :: Jki
theorem JNi:Known Tryz.prog (JB JXu) Wr := J7 JVd Jox
def JEp:Tpl := ⟨[.one (.ptr 0 0),.agg pI],Y1,62⟩
def JMr:List GK := [.v Jx,.b,.b,.i,.b,.b,.i,.i,.i,.v Jx,.b,.v Jx,.i,.i,.b,.i,.i]
section
variable (x l y:List GC) (st0 st1:Int) (rtr:Bool) (C:LL)
def JNt:Bool:=
 (bif JO (J1 l) == 0 then 0 else JC4 (Qj (J3 (xi l 8) (xi y 2) (xi y 3) (xi y 4)) (J4 (xi l 8) (xi y 2) (xi y 3) (xi y 4)) (J3 (xi l 8) (xi y 5) (xi y 6) (xi y 7)) (J4 (xi l 8) (xi y 5) (xi y 6) (xi y 7)) (JM (xi l 8) (J1 y)) (JJ (J1 y)) true) (Qh (J3 (xi l 8) (xi y 2) (xi y 3) (xi y 4)) (J4 (xi l 8) (xi y 2) (xi y 3) (xi y 4)) (J3 (xi l 8) (xi y 5) (xi y 6) (xi y 7)) (J4 (xi l 8) (xi y 5) (xi y 6) (xi y 7)) (JL (xi l 8) (J1 y)) (JJ (J1 y)) true) (Qj (J3 (xi l 8) (xi x 2) (xi x 3) (xi x 4)) (J4 (xi l 8) (xi x 2) (xi x 3) (xi x 4)) (J3 (xi l 8) (xi x 5) (xi x 6) (xi x 7)) (J4 (xi l 8) (xi x 5) (xi x 6) (xi x 7)) (JM (xi l 8) (J1 x)) (JJ (J1 x)) false) (Qh (J3 (xi l 8) (xi x 2) (xi x 3) (xi x 4)) (J4 (xi l 8) (xi x 2) (xi x 3) (xi x 4)) (J3 (xi l 8) (xi x 5) (xi x 6) (xi x 7)) (J4 (xi l 8) (xi x 5) (xi x 6) (xi x 7)) (JL (xi l 8) (J1 x)) (JJ (J1 x)) false) (xi l 16)) == 2
def YS:Int:=
 QX (J3 (xi l 8) (xi y 2) (xi y 3) (xi y 4)) (J4 (xi l 8) (xi y 2) (xi y 3) (xi y 4)) (J3 (xi l 8) (xi y 5) (xi y 6) (xi y 7)) (J4 (xi l 8) (xi y 5) (xi y 6) (xi y 7)) (JL (xi l 8) (J1 y)) (JM (xi l 8) (J1 y)) (JJ (J1 y)) (JO (J1 l))
def JWZ:Int:=
 bif JNt x l y then JDm (J3 (xi l 8) (xi y 2) (xi y 3) (xi y 4)) (J4 (xi l 8) (xi y 2) (xi y 3) (xi y 4)) (J3 (xi l 8) (xi y 5) (xi y 6) (xi y 7)) (J4 (xi l 8) (xi y 5) (xi y 6) (xi y 7)) (JL (xi l 8) (J1 y)) (JM (xi l 8) (J1 y)) (JJ (J1 y)) (QF (J1 y)) (J3 (xi l 8) (xi x 2) (xi x 3) (xi x 4)) (J4 (xi l 8) (xi x 2) (xi x 3) (xi x 4)) (J3 (xi l 8) (xi x 5) (xi x 6) (xi x 7)) (J4 (xi l 8) (xi x 5) (xi x 6) (xi x 7)) (JL (xi l 8) (J1 x)) (JM (xi l 8) (J1 x)) (JJ (J1 x)) (QF (J1 x)) (JO (J1 l)) else bif YS l y == 0 then QX (J3 (xi l 8) (xi x 2) (xi x 3) (xi x 4)) (J4 (xi l 8) (xi x 2) (xi x 3) (xi x 4)) (J3 (xi l 8) (xi x 5) (xi x 6) (xi x 7)) (J4 (xi l 8) (xi x 5) (xi x 6) (xi x 7)) (JL (xi l 8) (J1 x)) (JM (xi l 8) (J1 x)) (JJ (J1 x)) (JO (J1 l)) else YS l y
def Ja0:Int:=
 Jz (bif JNt x l y then j5 (J3 (xi l 8) (xi y 2) (xi y 3) (xi y 4)) (J4 (xi l 8) (xi y 2) (xi y 3) (xi y 4)) (J3 (xi l 8) (xi y 5) (xi y 6) (xi y 7)) (J4 (xi l 8) (xi y 5) (xi y 6) (xi y 7)) (JL (xi l 8) (J1 y)) (JM (xi l 8) (J1 y)) (JJ (J1 y)) (QF (J1 y)) (J3 (xi l 8) (xi x 2) (xi x 3) (xi x 4)) (J4 (xi l 8) (xi x 2) (xi x 3) (xi x 4)) (J3 (xi l 8) (xi x 5) (xi x 6) (xi x 7)) (J4 (xi l 8) (xi x 5) (xi x 6) (xi x 7)) (JL (xi l 8) (J1 x)) (JM (xi l 8) (J1 x)) (JJ (J1 x)) (QF (J1 x)) (JO (J1 l)) else Xf (J3 (xi l 8) (xi y 2) (xi y 3) (xi y 4)) (J4 (xi l 8) (xi y 2) (xi y 3) (xi y 4)) (J3 (xi l 8) (xi y 5) (xi y 6) (xi y 7)) (J4 (xi l 8) (xi y 5) (xi y 6) (xi y 7)) (JL (xi l 8) (J1 y)) (JM (xi l 8) (J1 y)) (JJ (J1 y)) (JO (J1 l))) (bif JNt x l y then j9 (J3 (xi l 8) (xi y 2) (xi y 3) (xi y 4)) (J4 (xi l 8) (xi y 2) (xi y 3) (xi y 4)) (J3 (xi l 8) (xi y 5) (xi y 6) (xi y 7)) (J4 (xi l 8) (xi y 5) (xi y 6) (xi y 7)) (JL (xi l 8) (J1 y)) (JM (xi l 8) (J1 y)) (JJ (J1 y)) (QF (J1 y)) (J3 (xi l 8) (xi x 2) (xi x 3) (xi x 4)) (J4 (xi l 8) (xi x 2) (xi x 3) (xi x 4)) (J3 (xi l 8) (xi x 5) (xi x 6) (xi x 7)) (J4 (xi l 8) (xi x 5) (xi x 6) (xi x 7)) (JL (xi l 8) (J1 x)) (JM (xi l 8) (J1 x)) (JJ (J1 x)) (QF (J1 x)) (JO (J1 l)) else Xe (J3 (xi l 8) (xi y 2) (xi y 3) (xi y 4)) (J4 (xi l 8) (xi y 2) (xi y 3) (xi y 4)) (J3 (xi l 8) (xi y 5) (xi y 6) (xi y 7)) (J4 (xi l 8) (xi y 5) (xi y 6) (xi y 7)) (JL (xi l 8) (J1 y)) (JM (xi l 8) (J1 y)) (JJ (J1 y)) (JO (J1 l))) (JNt x l y) (J1 l) (J1 y) st0 st1 rtr
def JHe:Int:=
 bif JWZ x l y != 0 then JWZ x l y else bif Ja0 x l y st0 st1 rtr != 0 then Ja0 x l y st0 st1 rtr else 0
def Jv:Int:=
 bif JO (J1 l) == 0 then 0 else JC4 (Qj (J3 (xi l 8) (xi y 2) (xi y 3) (xi y 4)) (J4 (xi l 8) (xi y 2) (xi y 3) (xi y 4)) (J3 (xi l 8) (xi y 5) (xi y 6) (xi y 7)) (J4 (xi l 8) (xi y 5) (xi y 6) (xi y 7)) (JM (xi l 8) (J1 y)) (JJ (J1 y)) true) (Qh (J3 (xi l 8) (xi y 2) (xi y 3) (xi y 4)) (J4 (xi l 8) (xi y 2) (xi y 3) (xi y 4)) (J3 (xi l 8) (xi y 5) (xi y 6) (xi y 7)) (J4 (xi l 8) (xi y 5) (xi y 6) (xi y 7)) (JL (xi l 8) (J1 y)) (JJ (J1 y)) true) (Qj (J3 (xi l 8) (xi x 2) (xi x 3) (xi x 4)) (J4 (xi l 8) (xi x 2) (xi x 3) (xi x 4)) (J3 (xi l 8) (xi x 5) (xi x 6) (xi x 7)) (J4 (xi l 8) (xi x 5) (xi x 6) (xi x 7)) (JM (xi l 8) (J1 x)) (JJ (J1 x)) false) (Qh (J3 (xi l 8) (xi x 2) (xi x 3) (xi x 4)) (J4 (xi l 8) (xi x 2) (xi x 3) (xi x 4)) (J3 (xi l 8) (xi x 5) (xi x 6) (xi x 7)) (J4 (xi l 8) (xi x 5) (xi x 6) (xi x 7)) (JL (xi l 8) (J1 x)) (JJ (J1 x)) false) (xi l 16)
def Xm:Int:=
 bif Jv x l y == 2 then j5 (J3 (xi l 8) (xi y 2) (xi y 3) (xi y 4)) (J4 (xi l 8) (xi y 2) (xi y 3) (xi y 4)) (J3 (xi l 8) (xi y 5) (xi y 6) (xi y 7)) (J4 (xi l 8) (xi y 5) (xi y 6) (xi y 7)) (JL (xi l 8) (J1 y)) (JM (xi l 8) (J1 y)) (JJ (J1 y)) (QF (J1 y)) (J3 (xi l 8) (xi x 2) (xi x 3) (xi x 4)) (J4 (xi l 8) (xi x 2) (xi x 3) (xi x 4)) (J3 (xi l 8) (xi x 5) (xi x 6) (xi x 7)) (J4 (xi l 8) (xi x 5) (xi x 6) (xi x 7)) (JL (xi l 8) (J1 x)) (JM (xi l 8) (J1 x)) (JJ (J1 x)) (QF (J1 x)) (JO (J1 l)) else Xf (J3 (xi l 8) (xi y 2) (xi y 3) (xi y 4)) (J4 (xi l 8) (xi y 2) (xi y 3) (xi y 4)) (J3 (xi l 8) (xi y 5) (xi y 6) (xi y 7)) (J4 (xi l 8) (xi y 5) (xi y 6) (xi y 7)) (JL (xi l 8) (J1 y)) (JM (xi l 8) (J1 y)) (JJ (J1 y)) (JO (J1 l))
def Xo:Int:=
 bif Jv x l y == 2 then j9 (J3 (xi l 8) (xi y 2) (xi y 3) (xi y 4)) (J4 (xi l 8) (xi y 2) (xi y 3) (xi y 4)) (J3 (xi l 8) (xi y 5) (xi y 6) (xi y 7)) (J4 (xi l 8) (xi y 5) (xi y 6) (xi y 7)) (JL (xi l 8) (J1 y)) (JM (xi l 8) (J1 y)) (JJ (J1 y)) (QF (J1 y)) (J3 (xi l 8) (xi x 2) (xi x 3) (xi x 4)) (J4 (xi l 8) (xi x 2) (xi x 3) (xi x 4)) (J3 (xi l 8) (xi x 5) (xi x 6) (xi x 7)) (J4 (xi l 8) (xi x 5) (xi x 6) (xi x 7)) (JL (xi l 8) (J1 x)) (JM (xi l 8) (J1 x)) (JJ (J1 x)) (QF (J1 x)) (JO (J1 l)) else Xe (J3 (xi l 8) (xi y 2) (xi y 3) (xi y 4)) (J4 (xi l 8) (xi y 2) (xi y 3) (xi y 4)) (J3 (xi l 8) (xi y 5) (xi y 6) (xi y 7)) (J4 (xi l 8) (xi y 5) (xi y 6) (xi y 7)) (JL (xi l 8) (J1 y)) (JM (xi l 8) (J1 y)) (JJ (J1 y)) (JO (J1 l))
def JEg:LL:=
 ZO (Xm x l y) (Xo x l y) (Jv x l y == 2) (J1 l) (J1 y) st0 st1 rtr ++ Z8 (J1 l) (Xm x l y) (Xo x l y) C
end
def JAk (x:List GC) (l:List GC) (y:List GC) := bif Jv x l y == 2 then JDm (J3 (xi l 8) (xi y 2) (xi y 3) (xi y 4)) (J4 (xi l 8) (xi y 2) (xi y 3) (xi y 4)) (J3 (xi l 8) (xi y 5) (xi y 6) (xi y 7)) (J4 (xi l 8) (xi y 5)
   (xi y 6) (xi y 7)) (JL (xi l 8) (J1 y)) (JM (xi l 8) (J1 y)) (JJ (J1 y)) (QF (J1 y)) (J3 (xi l 8) (xi x 2) (xi x 3) (xi x 4)) (J4 (xi l 8) (xi x 2) (xi x 3) (xi x 4))
   (J3 (xi l 8) (xi x 5) (xi x 6) (xi x 7)) (J4 (xi l 8) (xi x 5) (xi x 6) (xi x 7)) (JL (xi l 8) (J1 x)) (JM (xi l 8) (J1 x)) (JJ (J1 x)) (QF (J1 x)) (JO (J1 l))
   else bif YS l y == 0 then QX (J3 (xi l 8) (xi x 2) (xi x 3) (xi x 4)) (J4 (xi l 8) (xi x 2) (xi x 3) (xi x 4)) (J3 (xi l 8) (xi x 5) (xi x 6) (xi x 7)) (J4 (xi l 8) (xi x
   5) (xi x 6) (xi x 7)) (JL (xi l 8) (J1 x)) (JM (xi l 8) (J1 x)) (JJ (J1 x)) (JO (J1 l)) else YS l y
def JT9 (x:List GC) (l:List GC) (y:List GC) := bif Jv x l y == 2 then j5 (J3 (xi l 8) (xi y 2) (xi y 3) (xi y 4)) (J4 (xi l 8) (xi y 2) (xi y 3) (xi y 4)) (J3 (xi l 8) (xi y 5) (xi y 6) (xi y 7)) (J4 (xi l 8) (xi y 5)
   (xi y 6) (xi y 7)) (JL (xi l 8) (J1 y)) (JM (xi l 8) (J1 y)) (JJ (J1 y)) (QF (J1 y)) (J3 (xi l 8) (xi x 2) (xi x 3) (xi x 4)) (J4 (xi l 8) (xi x 2) (xi x 3) (xi x 4))
   (J3 (xi l 8) (xi x 5) (xi x 6) (xi x 7)) (J4 (xi l 8) (xi x 5) (xi x 6) (xi x 7)) (JL (xi l 8) (J1 x)) (JM (xi l 8) (J1 x)) (JJ (J1 x)) (QF (J1 x)) (JO (J1 l))
   else bif YS l y == 0 then KY (J3 (xi l 8) (xi x 2) (xi x 3) (xi x 4)) (J4 (xi l 8) (xi x 2) (xi x 3) (xi x 4)) (J3 (xi l 8) (xi x 5) (xi x 6) (xi x 7)) (J4 (xi l 8) (xi x
   5) (xi x 6) (xi x 7)) (JL (xi l 8) (J1 x)) (JM (xi l 8) (J1 x)) (JJ (J1 x)) (JO (J1 l)) else 0
def JSp (x:List GC) (l:List GC) (y:List GC) := bif Jv x l y == 2 then j9 (J3 (xi l 8) (xi y 2) (xi y 3) (xi y 4)) (J4 (xi l 8) (xi y 2) (xi y 3) (xi y 4)) (J3 (xi l 8) (xi y 5) (xi y 6) (xi y 7)) (J4 (xi l 8) (xi y 5)
   (xi y 6) (xi y 7)) (JL (xi l 8) (J1 y)) (JM (xi l 8) (J1 y)) (JJ (J1 y)) (QF (J1 y)) (J3 (xi l 8) (xi x 2) (xi x 3) (xi x 4)) (J4 (xi l 8) (xi x 2) (xi x 3) (xi x 4))
   (J3 (xi l 8) (xi x 5) (xi x 6) (xi x 7)) (J4 (xi l 8) (xi x 5) (xi x 6) (xi x 7)) (JL (xi l 8) (J1 x)) (JM (xi l 8) (J1 x)) (JJ (J1 x)) (QF (J1 x)) (JO (J1 l))
   else bif YS l y == 0 then Ka (J3 (xi l 8) (xi x 2) (xi x 3) (xi x 4)) (J4 (xi l 8) (xi x 2) (xi x 3) (xi x 4)) (J3 (xi l 8) (xi x 5) (xi x 6) (xi x 7)) (J4 (xi l 8) (xi x
   5) (xi x 6) (xi x 7)) (JL (xi l 8) (J1 x)) (JM (xi l 8) (J1 x)) (JJ (J1 x)) (JO (J1 l)) else 0
def JUL (x l y:List GC) (st0 st1:Int) (rtr:Bool) (C:LL):LL := bif (JAk x l y) != 0 then [] else bif Jz (Xm x l y) (Xo x l y) (Jv x l y == 2) (J1 l) (J1 y) st0 st1 rtr != 0 then [] else bif Jv x l y != 2 then JEg x l y
   st0 st1 rtr C ++ WS (J1 x) (Xm x l y) (Xo x l y) (JT9 x l y) (JSp x l y) (Jv x l y == 1) (J1 l) else JEg x l y st0 st1 rtr C
def JDW (x:List GC) (l:List GC) (y:List GC) := bif Jv x l y == 2 then j5 (J3 (xi l 8) (xi y 2) (xi y 3) (xi y 4)) (J4 (xi l 8) (xi y 2) (xi y 3) (xi y 4)) (J3 (xi l 8) (xi y 5) (xi y 6) (xi y 7)) (J4 (xi l 8) (xi y 5)
   (xi y 6) (xi y 7)) (JL (xi l 8) (J1 y)) (JM (xi l 8) (J1 y)) (JJ (J1 y)) (QF (J1 y)) (J3 (xi l 8) (xi x 2) (xi x 3) (xi x 4)) (J4 (xi l 8) (xi x 2) (xi x 3) (xi x 4))
   (J3 (xi l 8) (xi x 5) (xi x 6) (xi x 7)) (J4 (xi l 8) (xi x 5) (xi x 6) (xi x 7)) (JL (xi l 8) (J1 x)) (JM (xi l 8) (J1 x)) (JJ (J1 x)) (QF (J1 x)) (JO (J1 l))
   else Xf (J3 (xi l 8) (xi y 2) (xi y 3) (xi y 4)) (J4 (xi l 8) (xi y 2) (xi y 3) (xi y 4)) (J3 (xi l 8) (xi y 5) (xi y 6) (xi y 7)) (J4 (xi l 8) (xi y 5) (xi y 6) (xi y 7))
   (JL (xi l 8) (J1 y)) (JM (xi l 8) (J1 y)) (JJ (J1 y)) (JO (J1 l))
def JE3 (x:List GC) (l:List GC) (y:List GC) := bif Jv x l y == 2 then j9 (J3 (xi l 8) (xi y 2) (xi y 3) (xi y 4)) (J4 (xi l 8) (xi y 2) (xi y 3) (xi y 4)) (J3 (xi l 8) (xi y 5) (xi y 6) (xi y 7)) (J4 (xi l 8) (xi y 5)
   (xi y 6) (xi y 7)) (JL (xi l 8) (J1 y)) (JM (xi l 8) (J1 y)) (JJ (J1 y)) (QF (J1 y)) (J3 (xi l 8) (xi x 2) (xi x 3) (xi x 4)) (J4 (xi l 8) (xi x 2) (xi x 3) (xi x 4))
   (J3 (xi l 8) (xi x 5) (xi x 6) (xi x 7)) (J4 (xi l 8) (xi x 5) (xi x 6) (xi x 7)) (JL (xi l 8) (J1 x)) (JM (xi l 8) (J1 x)) (JJ (J1 x)) (QF (J1 x)) (JO (J1 l))
   else Xe (J3 (xi l 8) (xi y 2) (xi y 3) (xi y 4)) (J4 (xi l 8) (xi y 2) (xi y 3) (xi y 4)) (J3 (xi l 8) (xi y 5) (xi y 6) (xi y 7)) (J4 (xi l 8) (xi y 5) (xi y 6) (xi y 7))
   (JL (xi l 8) (J1 y)) (JM (xi l 8) (J1 y)) (JJ (J1 y)) (JO (J1 l))
section
variable (x l y:List GC) (st0 st1:Int) (rtr:Bool) (C:LL) (pn1 pn0:Int) (q0:Nat)
def ZJ:Int:=
 bif (JAk x l y) != 0 then xi y q0 else bif Jz (JDW x l y) (JE3 x l y) (Jv x l y == 2) (J1 l) (J1 y) st0 st1 rtr != 0 then xi y q0 else bif Jv x l y != 2 then xi x q0 else xi x q0
def JVq:Int:= ZJ x l y st0 st1 rtr 0
def JXw:Int:= ZJ x l y st0 st1 rtr 1
def JYC:Int:= ZJ x l y st0 st1 rtr 2
def JVv:Int:= ZJ x l y st0 st1 rtr 3
def JYQ:Int:= ZJ x l y st0 st1 rtr 4
def JZ5:Int:= ZJ x l y st0 st1 rtr 5
def JVk:Int:= ZJ x l y st0 st1 rtr 6
def JYO:Int:= ZJ x l y st0 st1 rtr 7
def JaE:Int:= ZJ x l y st0 st1 rtr 8
def JXv:Int:= ZJ x l y st0 st1 rtr 9
def JXL:Int:= ZJ x l y st0 st1 rtr 10
def JWB:Int:= ZJ x l y st0 st1 rtr 11
def JWI:Int:= ZJ x l y st0 st1 rtr 12
def JFN:Bool:=
 bif (JAk x l y) != 0 then xb y q0 else bif Jz (JDW x l y) (JE3 x l y) (Jv x l y == 2) (J1 l) (J1 y) st0 st1 rtr != 0 then xb y q0 else bif Jv x l y != 2 then xb x q0 else xb x q0
def JV2:Bool:= JFN x l y st0 st1 rtr 13
def JWm:Int:= ZJ x l y st0 st1 rtr 14
def JWO:Bool:= JFN x l y st0 st1 rtr 15
def JW3:Int:= ZJ x l y st0 st1 rtr 16
def JYm:Int:= ZJ x l y st0 st1 rtr 17
def JW8:Int:= ZJ x l y st0 st1 rtr 18
def JWW:Int:= ZJ x l y st0 st1 rtr 19
def JW1:Int:= ZJ x l y st0 st1 rtr 20
def JWp:Bool:= JFN x l y st0 st1 rtr 21
def JAH:Int:=
 bif Jv x l y == 2 then j5 (J3 (xi l 8) (xi y 2) (xi y 3) (xi y 4)) (J4 (xi l 8) (xi y 2) (xi y 3) (xi y 4)) (J3 (xi l 8) (xi y 5) (xi y 6) (xi y 7)) (J4 (xi l 8) (xi y 5) (xi y 6) (xi y 7)) (JL (xi l 8) (J1 y)) (JM (xi l 8) (J1 y)) (JJ (J1 y)) (QF (J1 y)) (J3 (xi l 8) (xi x 2) (xi x 3) (xi x 4)) (J4 (xi l 8) (xi x 2) (xi x 3) (xi x 4)) (J3 (xi l 8) (xi x 5) (xi x 6) (xi x 7)) (J4 (xi l 8) (xi x 5) (xi x 6) (xi x 7)) (JL (xi l 8) (J1 x)) (JM (xi l 8) (J1 x)) (JJ (J1 x)) (QF (J1 x)) (JO (J1 l)) else bif YS l y == 0 then KY (J3 (xi l 8) (xi x 2) (xi x 3) (xi x 4)) (J4 (xi l 8) (xi x 2) (xi x 3) (xi x 4)) (J3 (xi l 8) (xi x 5) (xi x 6) (xi x 7)) (J4 (xi l 8) (xi x 5) (xi x 6) (xi x 7)) (JL (xi l 8) (J1 x)) (JM (xi l 8) (J1 x)) (JJ (J1 x)) (JO (J1 l)) else 0
def JWD:Int:= bif (JAk x l y) != 0 then st0 else bif Jz (JDW x l y) (JE3 x l y) (Jv x l y == 2) (J1 l) (J1 y) st0 st1 rtr != 0 then st0 else bif Jv x l y != 2 then JAH x l y else JAH x l y
def JAB:Int:=
 bif Jv x l y == 2 then j9 (J3 (xi l 8) (xi y 2) (xi y 3) (xi y 4)) (J4 (xi l 8) (xi y 2) (xi y 3) (xi y 4)) (J3 (xi l 8) (xi y 5) (xi y 6) (xi y 7)) (J4 (xi l 8) (xi y 5) (xi y 6) (xi y 7)) (JL (xi l 8) (J1 y)) (JM (xi l 8) (J1 y)) (JJ (J1 y)) (QF (J1 y)) (J3 (xi l 8) (xi x 2) (xi x 3) (xi x 4)) (J4 (xi l 8) (xi x 2) (xi x 3) (xi x 4)) (J3 (xi l 8) (xi x 5) (xi x 6) (xi x 7)) (J4 (xi l 8) (xi x 5) (xi x 6) (xi x 7)) (JL (xi l 8) (J1 x)) (JM (xi l 8) (J1 x)) (JJ (J1 x)) (QF (J1 x)) (JO (J1 l)) else bif YS l y == 0 then Ka (J3 (xi l 8) (xi x 2) (xi x 3) (xi x 4)) (J4 (xi l 8) (xi x 2) (xi x 3) (xi x 4)) (J3 (xi l 8) (xi x 5) (xi x 6) (xi x 7)) (J4 (xi l 8) (xi x 5) (xi x 6) (xi x 7)) (JL (xi l 8) (J1 x)) (JM (xi l 8) (J1 x)) (JJ (J1 x)) (JO (J1 l)) else 0
def JZc:Int:= bif (JAk x l y) != 0 then st1 else bif Jz (JDW x l y) (JE3 x l y) (Jv x l y == 2) (J1 l) (J1 y) st0 st1 rtr != 0 then st1 else bif Jv x l y != 2 then JAB x l y else JAB x l y
def JV8:Bool:= bif (JAk x l y) != 0 then rtr else bif Jz (JDW x l y) (JE3 x l y) (Jv x l y == 2) (J1 l) (J1 y) st0 st1 rtr != 0 then rtr else bif Jv x l y != 2 then Jv x l y == 2
   else Jv x l y == 2
def JZT:Int:= bif (JAk x l y) != 0 then pn0 else bif Jz (JDW x l y) (JE3 x l y) (Jv x l y == 2) (J1 l) (J1 y) st0 st1 rtr != 0 then pn0 else bif Jv x l y != 2 then JAH x l y else JAH x l y
def JVA:Int:= bif (JAk x l y) != 0 then pn1 else bif Jz (JDW x l y) (JE3 x l y) (Jv x l y == 2) (J1 l) (J1 y) st0 st1 rtr != 0 then pn1 else bif Jv x l y != 2 then JAB x l y else JAB x l y
def JI5:LL:= bif (JAk x l y) != 0 then C else bif Jz (JDW x l y) (JE3 x l y) (Jv x l y == 2) (J1 l) (J1 y) st0 st1 rtr != 0 then C else bif Jv x l y != 2 then [] else []
def JJs:LL:=
 ZO (Xm x l y) (Xo x l y) (Jv x l y == 2) (J1 l) (J1 y) st0 st1 rtr
end
def JTZ (x:List GC) (l:List GC) (y:List GC) := WS (J1 x) (Xm x l y) (Xo x l y) (JT9 x l y) (JSp x l y) (Jv x l y == 1) (J1 l)
def JDV (x l y:List GC) (st0 st1:Int) (rtr:Bool) (C:LL):List Prop := [((JAk x l y) != 0) = false → (Jz (Xm x l y) (Xo x l y) (Jv x l y == 2) (J1 l) (J1 y) st0 st1 rtr != 0) = false → C.length ≤ 1000 ∧ ((JJs x l y st0 st1
   rtr).length + (Z8 (J1 l) (Xm x l y) (Xo x l y) C).length) * 176 ≤ 140737488355328 ∧ (JJs x l y st0 st1 rtr).length + (Z8 (J1 l) (Xm x l y) (Xo x l y)
   C).length ≤ 9223372036854775807 ∧ ((Jv x l y != 2) = true → ((JJs x l y st0 st1 rtr ++ Z8 (J1 l) (Xm x l y) (Xo x l y) C).length + (JTZ x l y).length) * 176 ≤
   140737488355328 ∧ (JJs x l y st0 st1 rtr ++ Z8 (J1 l) (Xm x l y) (Xo x l y) C).length + (JTZ x l y).length ≤ 9223372036854775807)]
theorem JiZ {x:List GC} {l:List GC} {y:List GC} {st0:Int} {st1:Int} {rtr:Bool} {C:LL} (hW:∀ q ∈ ([C.length ≤ 1000]:List Prop),q):∀ q ∈ (JDV x l y st0 st1 rtr C),q := by
  simp only [awc,awn,and_true] at hW
  unfold JDV
  simp only [awc,awn,and_true]
  have r := fun a b => JLQ (J1 l) a b C
  have s := fun u w c => JJT u w c (J1 l) (J1 y) st0 st1 rtr
  have j := fun u w v z o => Jab (J1 x) u w v z o (J1 l)
  exact fun _ _ => ⟨hW,(JmP (s _ _ _) (r _ _) hW).1,(JmP (s _ _ _) (r _ _) hW).2,fun _ => ⟨(Jv1 (s _ _ _) (r _ _) (j _ _ _ _ _) hW).1,(Jv1 (s _ _ _) (r _ _) (j _ _ _ _ _) hW).2⟩⟩
def Jgx (x:List GC) (rcl rop:Bool) (rer:Int) (rmo ren:Bool) (rla0 rla1 rla2:Int) (l:List GC) (has:Bool) (y:List GC) (st0 st1:Int) (rtr:Bool) (pn0 pn1:Int) (C:LL):Jn :=
 [(48466,Obj.row false 40 22 (RowC.lst 48465 Wc (JUL x l y st0 st1 rtr C))),(0,Obj.blk 74 [(2,Cb rcl),(3,Cb rop),(4,Ci rer),(5,Cb rmo),(6,Cb ren),(7,Ci rla0),(8,Ci rla1),(9,Ci rla2),(10,Ci (xi l 0)),(11,Ci (xi l 1)),(12,Ci (xi l 2)),(13,Ci (xi l 3)),(14,Ci (xi l 4)),(15,Ci (xi l 5)),(16,Ci (xi l 6)),(17,Ci (xi l 7)),(18,Ci (xi l 8)),(19,Ci (xi l 9)),(20,Ci (xi l 10)),(21,Ci (xi l 11)),(22,Ci (xi l 12)),(23,Cb (xb l 13)),(24,Ci (xi l 14)),(25,Cb (xb l 15)),(26,Ci (xi l 16)),(27,Ci (xi l 17)),(28,Ci (xi l 18)),(29,Ci (xi l 19)),(30,Ci (xi l 20)),(31,Cb (xb l 21)),(48464,SC.wh 48462),(33,Cb has),(48468,Ci (JVq x l y st0 st1 rtr)),(48469,Ci (JXw x l y st0 st1 rtr)),(48470,Ci (JYC x l y st0 st1 rtr)),(48471,Ci (JVv x l y st0 st1 rtr)),(48472,Ci (JYQ x l y st0 st1 rtr)),(48473,Ci (JZ5 x l y st0 st1 rtr)),(48474,Ci (JVk x l y st0 st1 rtr)),(48475,Ci (JYO x l y st0 st1 rtr)),(48476,Ci (JaE x l y st0 st1 rtr)),(48477,Ci (JXv x l y st0 st1 rtr)),(48478,Ci (JXL x l y st0 st1 rtr)),(48479,Ci (JWB x l y st0 st1 rtr)),(48480,Ci (JWI x l y st0 st1 rtr)),(48481,Cb (JV2 x l y st0 st1 rtr)),(48482,Ci (JWm x l y st0 st1 rtr)),(48483,Cb (JWO x l y st0 st1 rtr)),(48484,Ci (JW3 x l y st0 st1 rtr)),(48485,Ci (JYm x l y st0 st1 rtr)),(48486,Ci (JW8 x l y st0 st1 rtr)),(48487,Ci (JWW x l y st0 st1 rtr)),(48488,Ci (JW1 x l y st0 st1 rtr)),(48489,Cb (JWp x l y st0 st1 rtr)),(48490,Ci (JWD x l y st0 st1 rtr)),(48491,Ci (JZc x l y st0 st1 rtr)),(48492,Cb (JV8 x l y st0 st1 rtr)),(48493,Ci (JZT x l y st0 st1 rtr pn0)),(48494,Ci (JVA x l y st0 st1 rtr pn1))]),(48462,Obj.row true 40 22 (RowC.lst 48467 Wc (JI5 x l y st0 st1 rtr C))),(1,Obj.row true 40 22 (RowC.lst 61 Wc C))]
theorem JkE (x:List GC) (rcl rop:Bool) (rer:Int) (rmo ren:Bool) (rla0 rla1 rla2:Int) (l:List GC) (has:Bool) (y:List GC) (st0 st1:Int) (rtr:Bool) (pn0 pn1:Int) (C:LL) (hNeeds:∀ pN ∈ (JDV x l y st0 st1 rtr C),pN):Runs (JHE (JB JXu) Wr 63) (JEp.args (Je JMr [.v x,.b rcl,.b rop,.i rer,.b rmo,.b ren,.i rla0,.i rla1,.i rla2,.v l,.b has,.v y,.i st0,.i st1,.b rtr,.i pn0,.i pn1])) (JEp.memo (Je JMr [.v x,.b rcl,.b rop,.i rer,.b rmo,.b ren,.i rla0,.i rla1,.i rla2,.v l,.b has,.v y,.i st0,.i st1,.b rtr,.i pn0,.i pn1]) [C]) JEp.n (SV.tup [(false,[SC.wh 48466]),(false,[Ci (JHe x l y st0 st1 rtr)])]) (Jgx x rcl rop rer rmo ren rla0 rla1 rla2 l has y st0 st1 rtr pn0 pn1 C) :=
  Runs.of1 (ps := (JDV x l y st0 st1 rtr C)) (by kernel_rfl) hNeeds
def JQp:List Gm → Qm → Option CRes
  | [.v x,.b rcl,.b rop,.i rer,.b rmo,.b ren,.i rla0,.i rla1,.i rla2,.v l,.b has,.v y,.i st0,.i st1,.b rtr,.i pn0,.i pn1],[C] => some ⟨SV.tup [(false,[SC.wh 48466]),(false,[Ci (JHe x l y st0 st1 rtr)])],Jgx x rcl rop rer rmo ren rla0 rla1 rla2 l has y st0 st1 rtr pn0 pn1 C,[C.length ≤ 1000],[],48495⟩
  | _,_ => none
theorem Js1:Qg Tryz.prog 63 (Z4 JMr JEp JQp) := by
  refine QZ (KD JNi 63) fun ps ls r hr hn _ => ?_
  unfold JQp at hr
  split at hr
  · cases hr; exact ⟨_,JkE _ _ _ _ _ _ _ _ _ _ _ _ _ _ _ _ _ _ (JiZ (by exact hn)),fun _ => rfl⟩
  · cases hr
def JcN:List (Nat × JY) := (63,Z4 JMr JEp JQp) :: JXu
theorem JTl:Known Tryz.prog (JB JcN) Wr := J7 JNi Js1
theorem JaX (x l:List GC) (C:LL):(JEe x l C).length ≤ C.length := by
  unfold JEe
  repeat' first | exact Nat.le_refl _ | exact Nat.zero_le _ | refine WJ ?_ ?_
theorem JaR (l y:List GC) (st0 st1:Int) (rtr:Bool) (C:LL):(JG8 l y st0 st1 rtr C).length ≤ C.length := by
  unfold JG8
  repeat' first | exact Nat.le_refl _ | exact Nat.zero_le _ | refine WJ ?_ ?_
theorem JeT (x l y:List GC) (st0 st1:Int) (rtr:Bool) (C:LL):(JI5 x l y st0 st1 rtr C).length ≤ C.length := by
  unfold JI5
  repeat' first | exact Nat.le_refl _ | exact Nat.zero_le _ | refine WJ ?_ ?_
theorem Jwl {C:LL} {r:List Int} (h:C.length ≤ 8):(bif Int.ofNat C.length == 8 then C else [] ++ C ++ [r]).length ≤ 8 := by
  cases e:(Int.ofNat C.length == 8)
  · have:C.length ≠ 8 := fun h => by rw [h] at e; exact absurd e (by decide)
    simp only [cond_false,List.length_append,List.length_cons,List.length_nil]; omega
  · exact h
def JFb:Tpl := ⟨[.one (.ptr 0 0),.agg pI],Y1,62⟩
def JOW:List GK := [.v Jx,.b,.b,.i,.b,.b,.i,.i,.i,.v Jx,.b,.v Jx,.i,.i,.b,.i,.i]
section
variable (x:List GC) (rcl rop rmo ren:Bool) (rla0 rla1 rla2:Int) (l:List GC) (q0:Nat) (has:Bool) (y:List GC) (st0 st1:Int) (rtr:Bool) (C:LL)
def Q8:Int:=
 bif rcl then 13 else bif !Qr (J1 x) || ren || J5 (xi x 0) && rmo && !(xi x 2 == rla0 && (xi x 3 == rla1 && xi x 4 == rla2)) then 1 else bif !rop && (!J5 (xi x 0) || xi x 16 == 0) then 0 else bif !rop then bif !ZI (xi x 8) (xi x 17) (J1 x) then 14 else 0 else bif J5 (xi x 0) && xi x 16 == 0 then bif !ZI (xi l 8) (xi l 17) (J1 x) || !has then 14 else JD6 (J1 l) (J1 y) st0 st1 rtr else bif xi x 0 == 1 || xi x 0 == 11 || xi x 0 == 14 || J5 (xi x 0) && (xi x 8 != xi l 8 || xi x 16 != xi l 16 || xi x 17 != xi l 17) then 13 else bif !J5 (xi x 0) || !ZH (xi l 8) (J1 x) then bif Int.ofNat C.length == 8 then 10 else 0 else bif !has then JCV (J1 x) (J1 l) else JHe (J1 x) (J1 l) (J1 y) st0 st1 rtr
def YJ:LL:=
 bif rcl then [] else bif !Qr (J1 x) || ren || J5 (xi x 0) && rmo && !(xi x 2 == rla0 && (xi x 3 == rla1 && xi x 4 == rla2)) then [] else bif !rop && (!J5 (xi x 0) || xi x 16 == 0) then [JHh x] else bif !rop then [] else bif J5 (xi x 0) && xi x 16 == 0 then bif !ZI (xi l 8) (xi l 17) (J1 x) || !has then [] else JNb (J1 x) (J1 l) (J1 y) st0 st1 rtr C else bif xi x 0 == 1 || xi x 0 == 11 || xi x 0 == 14 || J5 (xi x 0) && (xi x 8 != xi l 8 || xi x 16 != xi l 16 || xi x 17 != xi l 17) then [] else bif !J5 (xi x 0) || !ZH (xi l 8) (J1 x) then [] else bif !has then JOP (J1 x) (J1 l) C else JUL (J1 x) (J1 l) (J1 y) st0 st1 rtr C
def JE4:Bool:= bif rcl then rop else bif !Qr (J1 x) || ren || J5 (xi x 0) && rmo && !(xi x 2 == rla0 && (xi x 3 == rla1 && xi x 4 == rla2)) then rop else bif !rop && (!J5 (xi x 0) || xi x 16
   == 0) then rop else bif !rop then bif !ZI (xi x 8) (xi x 17) (J1 x) then rop else true else bif J5 (xi x 0) && xi x 16 == 0 then bif !ZI (xi l 8) (xi l 17) (J1 x) || !has then
   rop else JYM rop (J1 l) (J1 y) st0 st1 rtr else rop
def JE0:Bool:= bif rcl then rmo else bif !Qr (J1 x) || ren || J5 (xi x 0) && rmo && !(xi x 2 == rla0 && (xi x 3 == rla1 && xi x 4 == rla2)) then rmo else J5 (xi x 0) || rmo
def JEC:Bool:= bif rcl then ren else bif !Qr (J1 x) || ren || J5 (xi x 0) && rmo && !(xi x 2 == rla0 && (xi x 3 == rla1 && xi x 4 == rla2)) then ren else xi x 0 == 14
def JDX:Int:= bif rcl then rla0 else bif !Qr (J1 x) || ren || J5 (xi x 0) && rmo && !(xi x 2 == rla0 && (xi x 3 == rla1 && xi x 4 == rla2)) then rla0 else bif J5 (xi x 0) then xi x 5 else rla0
def JDO:Int:= bif rcl then rla1 else bif !Qr (J1 x) || ren || J5 (xi x 0) && rmo && !(xi x 2 == rla0 && (xi x 3 == rla1 && xi x 4 == rla2)) then rla1 else bif J5 (xi x 0) then xi x 6 else rla1
def JDt:Int:= bif rcl then rla2 else bif !Qr (J1 x) || ren || J5 (xi x 0) && rmo && !(xi x 2 == rla0 && (xi x 3 == rla1 && xi x 4 == rla2)) then rla2 else bif J5 (xi x 0) then xi x 7 else rla2
def QA:Int:=
 bif rcl then xi l q0 else bif !Qr (J1 x) || ren || J5 (xi x 0) && rmo && !(xi x 2 == rla0 && (xi x 3 == rla1 && xi x 4 == rla2)) then xi l q0 else bif !rop && (!J5 (xi x 0) || xi x 16 == 0) then xi l q0 else bif !rop then bif !ZI (xi x 8) (xi x 17) (J1 x) then xi l q0 else xi x q0 else xi l q0
def JDQ:Int:= QA x rcl rop rmo ren rla0 rla1 rla2 l 0
def JDs:Int:= QA x rcl rop rmo ren rla0 rla1 rla2 l 1
def kC:Int:= QA x rcl rop rmo ren rla0 rla1 rla2 l 2
def kO:Int:= QA x rcl rop rmo ren rla0 rla1 rla2 l 3
def ku:Int:= QA x rcl rop rmo ren rla0 rla1 rla2 l 4
def zN:Int:= QA x rcl rop rmo ren rla0 rla1 rla2 l 5
def JAV:Int:= QA x rcl rop rmo ren rla0 rla1 rla2 l 6
def qw:Int:= QA x rcl rop rmo ren rla0 rla1 rla2 l 7
def kA:Int:= QA x rcl rop rmo ren rla0 rla1 rla2 l 8
def qu:Int:= QA x rcl rop rmo ren rla0 rla1 rla2 l 9
def zY:Int:= QA x rcl rop rmo ren rla0 rla1 rla2 l 10
def zG:Int:= QA x rcl rop rmo ren rla0 rla1 rla2 l 11
def JAZ:Int:= QA x rcl rop rmo ren rla0 rla1 rla2 l 12
def ZX:Bool:=
 bif rcl then xb l q0 else bif !Qr (J1 x) || ren || J5 (xi x 0) && rmo && !(xi x 2 == rla0 && (xi x 3 == rla1 && xi x 4 == rla2)) then xb l q0 else bif !rop && (!J5 (xi x 0) || xi x 16 == 0) then xb l q0 else bif !rop then bif !ZI (xi x 8) (xi x 17) (J1 x) then xb l q0 else xb x q0 else xb l q0
def JAA:Bool:= ZX x rcl rop rmo ren rla0 rla1 rla2 l 13
def zF:Int:= QA x rcl rop rmo ren rla0 rla1 rla2 l 14
def kD:Bool:= ZX x rcl rop rmo ren rla0 rla1 rla2 l 15
def zp:Int:= QA x rcl rop rmo ren rla0 rla1 rla2 l 16
def JAa:Int:= QA x rcl rop rmo ren rla0 rla1 rla2 l 17
def kp:Int:= QA x rcl rop rmo ren rla0 rla1 rla2 l 18
def zc:Int:= QA x rcl rop rmo ren rla0 rla1 rla2 l 19
def zK:Int:= QA x rcl rop rmo ren rla0 rla1 rla2 l 20
def kh:Bool:= ZX x rcl rop rmo ren rla0 rla1 rla2 l 21
def JA6:Bool:= bif rcl then has else bif !Qr (J1 x) || ren || J5 (xi x 0) && rmo && !(xi x 2 == rla0 && (xi x 3 == rla1 && xi x 4 == rla2)) then has else bif !rop && (!J5 (xi x 0) || xi x 16
   == 0) then has else bif !rop then !ZI (xi x 8) (xi x 17) (J1 x) && has else bif J5 (xi x 0) && xi x 16 == 0 then bif !ZI (xi l 8) (xi l 17) (J1 x) || !has then has else JPp
   (J1 l) has (J1 y) st0 st1 rtr else bif xi x 0 == 1 || xi x 0 == 11 || xi x 0 == 14 || J5 (xi x 0) && (xi x 8 != xi l 8 || xi x 16 != xi l 16 || xi x 17 != xi l 17) then has else bif
   !J5 (xi x 0) || !ZH (xi l 8) (J1 x) then has else bif !has then JPG (J1 x) (J1 l) has else has
end
section
variable (x:List GC) (rcl rop rmo ren:Bool) (rla0 rla1 rla2:Int) (l:List GC) (has:Bool) (y:List GC) (st0 st1:Int) (rtr:Bool) (q0:Nat) (q1 q2:Int)
def QB:Int:=
 bif rcl then xi y q0 else bif !Qr (J1 x) || ren || J5 (xi x 0) && rmo && !(xi x 2 == rla0 && (xi x 3 == rla1 && xi x 4 == rla2)) then xi y q0 else bif !rop && (!J5 (xi x 0) || xi x 16 == 0) then xi y q0 else bif !rop then xi y q0 else bif J5 (xi x 0) && xi x 16 == 0 then xi y q0 else bif xi x 0 == 1 || xi x 0 == 11 || xi x 0 == 14 || J5 (xi x 0) && (xi x 8 != xi l 8 || xi x 16 != xi l 16 || xi x 17 != xi l 17) then xi y q0 else bif !J5 (xi x 0) || !ZH (xi l 8) (J1 x) then xi y q0 else bif !has then q1 else q2
def JAF:Int:= QB x rcl rop rmo ren rla0 rla1 rla2 l has y 0 (JPR (J1 x) (J1 l) (J1 y)) (JVq (J1 x) (J1 l) (J1 y) st0 st1 rtr)
def JA8:Int:= QB x rcl rop rmo ren rla0 rla1 rla2 l has y 1 (JPP (J1 x) (J1 l) (J1 y)) (JXw (J1 x) (J1 l) (J1 y) st0 st1 rtr)
def kU:Int:= QB x rcl rop rmo ren rla0 rla1 rla2 l has y 2 (JOv (J1 x) (J1 l) (J1 y)) (JYC (J1 x) (J1 l) (J1 y) st0 st1 rtr)
def kL:Int:= QB x rcl rop rmo ren rla0 rla1 rla2 l has y 3 (JPA (J1 x) (J1 l) (J1 y)) (JVv (J1 x) (J1 l) (J1 y) st0 st1 rtr)
def JA3:Int:= QB x rcl rop rmo ren rla0 rla1 rla2 l has y 4 (JOu (J1 x) (J1 l) (J1 y)) (JYQ (J1 x) (J1 l) (J1 y) st0 st1 rtr)
def ze:Int:= QB x rcl rop rmo ren rla0 rla1 rla2 l has y 5 (JPn (J1 x) (J1 l) (J1 y)) (JZ5 (J1 x) (J1 l) (J1 y) st0 st1 rtr)
def zm:Int:= QB x rcl rop rmo ren rla0 rla1 rla2 l has y 6 (JPT (J1 x) (J1 l) (J1 y)) (JVk (J1 x) (J1 l) (J1 y) st0 st1 rtr)
def zz:Int:= QB x rcl rop rmo ren rla0 rla1 rla2 l has y 7 (JP4 (J1 x) (J1 l) (J1 y)) (JYO (J1 x) (J1 l) (J1 y) st0 st1 rtr)
def ka:Int:= QB x rcl rop rmo ren rla0 rla1 rla2 l has y 8 (JRr (J1 x) (J1 l) (J1 y)) (JaE (J1 x) (J1 l) (J1 y) st0 st1 rtr)
def zt:Int:= QB x rcl rop rmo ren rla0 rla1 rla2 l has y 9 (JRg (J1 x) (J1 l) (J1 y)) (JXv (J1 x) (J1 l) (J1 y) st0 st1 rtr)
def kW:Int:= QB x rcl rop rmo ren rla0 rla1 rla2 l has y 10 (JRw (J1 x) (J1 l) (J1 y)) (JXL (J1 x) (J1 l) (J1 y) st0 st1 rtr)
def qy:Int:= QB x rcl rop rmo ren rla0 rla1 rla2 l has y 11 (JPb (J1 x) (J1 l) (J1 y)) (JWB (J1 x) (J1 l) (J1 y) st0 st1 rtr)
def kT:Int:= QB x rcl rop rmo ren rla0 rla1 rla2 l has y 12 (JPQ (J1 x) (J1 l) (J1 y)) (JWI (J1 x) (J1 l) (J1 y) st0 st1 rtr)
end
section
variable (x:List GC) (rcl rop rmo ren:Bool) (rla0 rla1 rla2:Int) (l:List GC) (has:Bool) (y:List GC) (st0 st1:Int) (rtr:Bool) (C:LL) (pn1 pn0:Int) (q0:Nat) (q1 q2:Bool)
def Za:Bool:=
 bif rcl then xb y q0 else bif !Qr (J1 x) || ren || J5 (xi x 0) && rmo && !(xi x 2 == rla0 && (xi x 3 == rla1 && xi x 4 == rla2)) then xb y q0 else bif !rop && (!J5 (xi x 0) || xi x 16 == 0) then xb y q0 else bif !rop then xb y q0 else bif J5 (xi x 0) && xi x 16 == 0 then xb y q0 else bif xi x 0 == 1 || xi x 0 == 11 || xi x 0 == 14 || J5 (xi x 0) && (xi x 8 != xi l 8 || xi x 16 != xi l 16 || xi x 17 != xi l 17) then xb y q0 else bif !J5 (xi x 0) || !ZH (xi l 8) (J1 x) then xb y q0 else bif !has then q1 else q2
def JAW:Bool:= Za x rcl rop rmo ren rla0 rla1 rla2 l has y 13 (JPD (J1 x) (J1 l) (J1 y)) (JV2 (J1 x) (J1 l) (J1 y) st0 st1 rtr)
def zM:Int:= QB x rcl rop rmo ren rla0 rla1 rla2 l has y 14 (JPC (J1 x) (J1 l) (J1 y)) (JWm (J1 x) (J1 l) (J1 y) st0 st1 rtr)
def zj:Bool:= Za x rcl rop rmo ren rla0 rla1 rla2 l has y 15 (JRn (J1 x) (J1 l) (J1 y)) (JWO (J1 x) (J1 l) (J1 y) st0 st1 rtr)
def kV:Int:= QB x rcl rop rmo ren rla0 rla1 rla2 l has y 16 (JPq (J1 x) (J1 l) (J1 y)) (JW3 (J1 x) (J1 l) (J1 y) st0 st1 rtr)
def ky:Int:= QB x rcl rop rmo ren rla0 rla1 rla2 l has y 17 (JPs (J1 x) (J1 l) (J1 y)) (JYm (J1 x) (J1 l) (J1 y) st0 st1 rtr)
def zd:Int:= QB x rcl rop rmo ren rla0 rla1 rla2 l has y 18 (JPj (J1 x) (J1 l) (J1 y)) (JW8 (J1 x) (J1 l) (J1 y) st0 st1 rtr)
def JA1:Int:= QB x rcl rop rmo ren rla0 rla1 rla2 l has y 19 (JQw (J1 x) (J1 l) (J1 y)) (JWW (J1 x) (J1 l) (J1 y) st0 st1 rtr)
def kG:Int:= QB x rcl rop rmo ren rla0 rla1 rla2 l has y 20 (JRc (J1 x) (J1 l) (J1 y)) (JW1 (J1 x) (J1 l) (J1 y) st0 st1 rtr)
def JAY:Bool:= Za x rcl rop rmo ren rla0 rla1 rla2 l has y 21 (JPZ (J1 x) (J1 l) (J1 y)) (JWp (J1 x) (J1 l) (J1 y) st0 st1 rtr)
def kB:Int:= bif rcl then st0 else bif !Qr (J1 x) || ren || J5 (xi x 0) && rmo && !(xi x 2 == rla0 && (xi x 3 == rla1 && xi x 4 == rla2)) then st0 else bif !rop && (!J5 (xi x 0) || xi x 16
   == 0) then st0 else bif !rop then st0 else bif J5 (xi x 0) && xi x 16 == 0 then st0 else bif xi x 0 == 1 || xi x 0 == 11 || xi x 0 == 14 || J5 (xi x 0) && (xi x 8 != xi l 8 || xi x 16
   != xi l 16 || xi x 17 != xi l 17) then st0 else bif !J5 (xi x 0) || !ZH (xi l 8) (J1 x) then st0 else bif !has then JFW (J1 x) (J1 l) st0 else JWD (J1 x) (J1 l) (J1 y) st0 st1 rtr
def zV:Int:= bif rcl then st1 else bif !Qr (J1 x) || ren || J5 (xi x 0) && rmo && !(xi x 2 == rla0 && (xi x 3 == rla1 && xi x 4 == rla2)) then st1 else bif !rop && (!J5 (xi x 0) || xi x 16
   == 0) then st1 else bif !rop then st1 else bif J5 (xi x 0) && xi x 16 == 0 then st1 else bif xi x 0 == 1 || xi x 0 == 11 || xi x 0 == 14 || J5 (xi x 0) && (xi x 8 != xi l 8 || xi x 16
   != xi l 16 || xi x 17 != xi l 17) then st1 else bif !J5 (xi x 0) || !ZH (xi l 8) (J1 x) then st1 else bif !has then JF5 (J1 x) (J1 l) st1 else JZc (J1 x) (J1 l) (J1 y) st0 st1 rtr
def k8:Bool:= bif rcl then rtr else bif !Qr (J1 x) || ren || J5 (xi x 0) && rmo && !(xi x 2 == rla0 && (xi x 3 == rla1 && xi x 4 == rla2)) then rtr else bif !rop && (!J5 (xi x 0) || xi x 16
   == 0) then rtr else bif !rop then rtr else bif J5 (xi x 0) && xi x 16 == 0 then rtr else bif xi x 0 == 1 || xi x 0 == 11 || xi x 0 == 14 || J5 (xi x 0) && (xi x 8 != xi l 8 || xi x 16
   != xi l 16 || xi x 17 != xi l 17) then rtr else bif !J5 (xi x 0) || !ZH (xi l 8) (J1 x) then rtr else bif !has then JPf (J1 x) (J1 l) rtr else JV8 (J1 x) (J1 l) (J1 y) st0 st1 rtr
def zO:Int:= bif rcl then pn0 else bif !Qr (J1 x) || ren || J5 (xi x 0) && rmo && !(xi x 2 == rla0 && (xi x 3 == rla1 && xi x 4 == rla2)) then pn0 else bif !rop && (!J5 (xi x 0) || xi x 16
   == 0) then pn0 else bif !rop then pn0 else bif J5 (xi x 0) && xi x 16 == 0 then bif !ZI (xi l 8) (xi l 17) (J1 x) || !has then pn0 else JRs (J1 l) (J1 y) st0 st1 rtr pn0 else
   bif xi x 0 == 1 || xi x 0 == 11 || xi x 0 == 14 || J5 (xi x 0) && (xi x 8 != xi l 8 || xi x 16 != xi l 16 || xi x 17 != xi l 17) then pn0 else bif !J5 (xi x 0) || !ZH (xi l 8)
   (J1 x) then pn0 else bif !has then JFW (J1 x) (J1 l) pn0 else JZT (J1 x) (J1 l) (J1 y) st0 st1 rtr pn0
def zC:Int:= bif rcl then pn1 else bif !Qr (J1 x) || ren || J5 (xi x 0) && rmo && !(xi x 2 == rla0 && (xi x 3 == rla1 && xi x 4 == rla2)) then pn1 else bif !rop && (!J5 (xi x 0) || xi x 16
   == 0) then pn1 else bif !rop then pn1 else bif J5 (xi x 0) && xi x 16 == 0 then bif !ZI (xi l 8) (xi l 17) (J1 x) || !has then pn1 else JQl (J1 l) (J1 y) st0 st1 rtr pn1 else
   bif xi x 0 == 1 || xi x 0 == 11 || xi x 0 == 14 || J5 (xi x 0) && (xi x 8 != xi l 8 || xi x 16 != xi l 16 || xi x 17 != xi l 17) then pn1 else bif !J5 (xi x 0) || !ZH (xi l 8)
   (J1 x) then pn1 else bif !has then JF5 (J1 x) (J1 l) pn1 else JVA (J1 x) (J1 l) (J1 y) st0 st1 rtr pn1
def W9:LL:=
 bif rcl then C else bif !Qr (J1 x) || ren || J5 (xi x 0) && rmo && !(xi x 2 == rla0 && (xi x 3 == rla1 && xi x 4 == rla2)) then C else bif !rop && (!J5 (xi x 0) || xi x 16 == 0) then C else bif !rop then bif !ZI (xi x 8) (xi x 17) (J1 x) then C else [] else bif J5 (xi x 0) && xi x 16 == 0 then bif !ZI (xi l 8) (xi l 17) (J1 x) || !has then C else JG8 (J1 l) (J1 y) st0 st1 rtr C else bif xi x 0 == 1 || xi x 0 == 11 || xi x 0 == 14 || J5 (xi x 0) && (xi x 8 != xi l 8 || xi x 16 != xi l 16 || xi x 17 != xi l 17) then C else bif !J5 (xi x 0) || !ZH (xi l 8) (J1 x) then bif Int.ofNat C.length == 8 then C else [] ++ C ++ [JHh x] else bif !has then JEe (J1 x) (J1 l) C else JI5 (J1 x) (J1 l) (J1 y) st0 st1 rtr C
def Jfe:Prop:=
 (!rop && (!J5 (xi x 0) || xi x 16 == 0)) = false
def Jgs:Prop:=
 (J5 (xi x 0) && xi x 16 == 0) = false
def Jfn:Prop:=
 (xi x 0 == 1 || xi x 0 == 11 || xi x 0 == 14 || J5 (xi x 0) && (xi x 8 != xi l 8 || xi x 16 != xi l 16 || xi x 17 != xi l 17)) = false
def Jfx:Prop:=
 (!J5 (xi x 0) || !ZH (xi l 8) (J1 x)) = false
def JEA:List Prop:= [rcl = false → (!Qr (J1 x) || ren || J5 (xi x 0) && rmo && !(xi x 2 == rla0 && (xi x 3 == rla1 && xi x 4 == rla2))) = false → (Jfe x rop → (!rop) = false → ((J5 (xi x 0) &&
   xi x 16 == 0) = true → (!ZI (xi l 8) (xi l 17) (J1 x) || !has) = false → C.length ≤ 1000) ∧ (Jgs x → Jfn x l → ((!J5 (xi x 0) || !ZH (xi l 8) (J1 x)) = true →
   (Int.ofNat C.length == 8) = false → (0 + C.length) * 176 ≤ 140737488355328 ∧ 0 + C.length ≤ 9223372036854775807 ∧ (([] ++ C).length + 1) * 176 ≤ 140737488355328 ∧ ([] ++ C).length + 1 ≤
   9223372036854775807) ∧ (Jfx x l → (!has) = true → C.length ≤ 1000))) ∧ (Jfe x rop → (!rop) = false → Jgs x → Jfn x l → Jfx x l → (!has) = false → C.length ≤ 1000)]
end
theorem JcG (x:List GC) (rcl rop rmo ren:Bool) (rla0 rla1 rla2:Int) (l:List GC) (has:Bool) (y:List GC) (st0 st1:Int) (rtr:Bool) (C:LL) (h:C.length ≤ 8):(W9 x rcl rop rmo ren rla0 rla1 rla2 l has y st0 st1 rtr C).length ≤ 8 := by
  unfold W9
  exact WJ h (WJ h (WJ h (WJ (WJ h (Nat.zero_le _)) (WJ (WJ h (Nat.le_trans (JaR _ _ _ _ _ _) h))
    (WJ h (WJ (Jwl h) (WJ (Nat.le_trans (JaX _ _ _) h) (Nat.le_trans (JeT _ _ _ _ _ _ _) h))))))))
theorem Jjg {x:List GC} {rcl:Bool} {rop:Bool} {rmo:Bool} {ren:Bool} {rla0:Int} {rla1:Int} {rla2:Int} {l:List GC} {has:Bool} {C:LL} (hW:∀ q ∈ ([C.length ≤ 8]:List Prop),q):∀ q ∈ (JEA x rcl rop rmo ren rla0 rla1 rla2 l has C),q := by
  simp only [awc,awn,and_true] at hW
  unfold JEA
  simp only [awc,awn,and_true]
  exact fun _ _ => ⟨fun _ _ => ⟨fun _ _ => by omega,fun _ _ => ⟨fun _ _ => ⟨by omega,by omega,by simp; omega,by simp; omega⟩,fun _ _ => by omega⟩⟩,fun _ _ _ _ _ _ => by omega⟩
def Jh1 (x:List GC) (rcl rop:Bool) (rer:Int) (rmo ren:Bool) (rla0 rla1 rla2:Int) (l:List GC) (has:Bool) (y:List GC) (st0 st1:Int) (rtr:Bool) (pn0 pn1:Int) (C:LL):Jn :=
 [(79295,Obj.row false 40 22 (RowC.lst 79294 Wc (YJ x rcl rop rmo ren rla0 rla1 rla2 l has y st0 st1 rtr C))),(0,Obj.blk 74 [(2,Cb rcl),(79297,Cb (JE4 x rcl rop rmo ren rla0 rla1 rla2 l has y st0 st1 rtr)),(4,Ci rer),(79298,Cb (JE0 x rcl rmo ren rla0 rla1 rla2)),(79299,Cb (JEC x rcl rmo ren rla0 rla1 rla2)),(79300,Ci (JDX x rcl rmo ren rla0 rla1 rla2)),(79301,Ci (JDO x rcl rmo ren rla0 rla1 rla2)),(79302,Ci (JDt x rcl rmo ren rla0 rla1 rla2)),(79303,Ci (JDQ x rcl rop rmo ren rla0 rla1 rla2 l)),(79304,Ci (JDs x rcl rop rmo ren rla0 rla1 rla2 l)),(79305,Ci (kC x rcl rop rmo ren rla0 rla1 rla2 l)),(79306,Ci (kO x rcl rop rmo ren rla0 rla1 rla2 l)),(79307,Ci (ku x rcl rop rmo ren rla0 rla1 rla2 l)),(79308,Ci (zN x rcl rop rmo ren rla0 rla1 rla2 l)),(79309,Ci (JAV x rcl rop rmo ren rla0 rla1 rla2 l)),(79310,Ci (qw x rcl rop rmo ren rla0 rla1 rla2 l)),(79311,Ci (kA x rcl rop rmo ren rla0 rla1 rla2 l)),(79312,Ci (qu x rcl rop rmo ren rla0 rla1 rla2 l)),(79313,Ci (zY x rcl rop rmo ren rla0 rla1 rla2 l)),(79314,Ci (zG x rcl rop rmo ren rla0 rla1 rla2 l)),(79315,Ci (JAZ x rcl rop rmo ren rla0 rla1 rla2 l)),(79316,Cb (JAA x rcl rop rmo ren rla0 rla1 rla2 l)),(79317,Ci (zF x rcl rop rmo ren rla0 rla1 rla2 l)),(79318,Cb (kD x rcl rop rmo ren rla0 rla1 rla2 l)),(79319,Ci (zp x rcl rop rmo ren rla0 rla1 rla2 l)),(79320,Ci (JAa x rcl rop rmo ren rla0 rla1 rla2 l)),(79321,Ci (kp x rcl rop rmo ren rla0 rla1 rla2 l)),(79322,Ci (zc x rcl rop rmo ren rla0 rla1 rla2 l)),(79323,Ci (zK x rcl rop rmo ren rla0 rla1 rla2 l)),(79324,Cb (kh x rcl rop rmo ren rla0 rla1 rla2 l)),(79293,SC.wh 79291),(79325,Cb (JA6 x rcl rop rmo ren rla0 rla1 rla2 l has y st0 st1 rtr)),(79326,Ci (JAF x rcl rop rmo ren rla0 rla1 rla2 l has y st0 st1 rtr)),(79327,Ci (JA8 x rcl rop rmo ren rla0 rla1 rla2 l has y st0 st1 rtr)),(79328,Ci (kU x rcl rop rmo ren rla0 rla1 rla2 l has y st0 st1 rtr)),(79329,Ci (kL x rcl rop rmo ren rla0 rla1 rla2 l has y st0 st1 rtr)),(79330,Ci (JA3 x rcl rop rmo ren rla0 rla1 rla2 l has y st0 st1 rtr)),(79331,Ci (ze x rcl rop rmo ren rla0 rla1 rla2 l has y st0 st1 rtr)),(79332,Ci (zm x rcl rop rmo ren rla0 rla1 rla2 l has y st0 st1 rtr)),(79333,Ci (zz x rcl rop rmo ren rla0 rla1 rla2 l has y st0 st1 rtr)),(79334,Ci (ka x rcl rop rmo ren rla0 rla1 rla2 l has y st0 st1 rtr)),(79335,Ci (zt x rcl rop rmo ren rla0 rla1 rla2 l has y st0 st1 rtr)),(79336,Ci (kW x rcl rop rmo ren rla0 rla1 rla2 l has y st0 st1 rtr)),(79337,Ci (qy x rcl rop rmo ren rla0 rla1 rla2 l has y st0 st1 rtr)),(79338,Ci (kT x rcl rop rmo ren rla0 rla1 rla2 l has y st0 st1 rtr)),(79339,Cb (JAW x rcl rop rmo ren rla0 rla1 rla2 l has y st0 st1 rtr)),(79340,Ci (zM x rcl rop rmo ren rla0 rla1 rla2 l has y st0 st1 rtr)),(79341,Cb (zj x rcl rop rmo ren rla0 rla1 rla2 l has y st0 st1 rtr)),(79342,Ci (kV x rcl rop rmo ren rla0 rla1 rla2 l has y st0 st1 rtr)),(79343,Ci (ky x rcl rop rmo ren rla0 rla1 rla2 l has y st0 st1 rtr)),(79344,Ci (zd x rcl rop rmo ren rla0 rla1 rla2 l has y st0 st1 rtr)),(79345,Ci (JA1 x rcl rop rmo ren rla0 rla1 rla2 l has y st0 st1 rtr)),(79346,Ci (kG x rcl rop rmo ren rla0 rla1 rla2 l has y st0 st1 rtr)),(79347,Cb (JAY x rcl rop rmo ren rla0 rla1 rla2 l has y st0 st1 rtr)),(79348,Ci (kB x rcl rop rmo ren rla0 rla1 rla2 l has y st0 st1 rtr)),(79349,Ci (zV x rcl rop rmo ren rla0 rla1 rla2 l has y st0 st1 rtr)),(79350,Cb (k8 x rcl rop rmo ren rla0 rla1 rla2 l has y st0 st1 rtr)),(79351,Ci (zO x rcl rop rmo ren rla0 rla1 rla2 l has y st0 st1 rtr pn0)),(79352,Ci (zC x rcl rop rmo ren rla0 rla1 rla2 l has y st0 st1 rtr pn1))]),(79291,Obj.row true 40 22 (RowC.lst 79296 Wc (W9 x rcl rop rmo ren rla0 rla1 rla2 l has y st0 st1 rtr C))),(1,Obj.row true 40 22
 (RowC.lst 61 Wc C))]
theorem Jip (x:List GC) (rcl rop:Bool) (rer:Int) (rmo ren:Bool) (rla0 rla1 rla2:Int) (l:List GC) (has:Bool) (y:List GC) (st0 st1:Int) (rtr:Bool) (pn0 pn1:Int) (C:LL) (hNeeds:∀ pN ∈ (JEA x rcl rop rmo ren rla0 rla1 rla2 l has C),pN):Runs (JHE (JB JcN) Wr 45) (JFb.args (Je JOW [.v x,.b rcl,.b rop,.i rer,.b rmo,.b ren,.i rla0,.i rla1,.i rla2,.v l,.b has,.v y,.i st0,.i st1,.b rtr,.i pn0,.i pn1])) (JFb.memo (Je JOW [.v x,.b rcl,.b rop,.i rer,.b rmo,.b ren,.i rla0,.i rla1,.i rla2,.v l,.b has,.v y,.i st0,.i st1,.b rtr,.i pn0,.i pn1]) [C]) JFb.n (SV.tup [(false,[SC.wh 79295]),(false,[Ci (Q8 x rcl rop rmo ren rla0 rla1 rla2 l has y st0 st1 rtr C)])]) (Jh1 x rcl rop rer rmo ren rla0 rla1 rla2 l has y st0 st1 rtr pn0 pn1 C) :=
  Runs.of1 (ps := (JEA x rcl rop rmo ren rla0 rla1 rla2 l has C)) (by kernel_rfl) hNeeds
def JQP:List Gm → Qm → Option CRes
  | [.v x,.b rcl,.b rop,.i rer,.b rmo,.b ren,.i rla0,.i rla1,.i rla2,.v l,.b has,.v y,.i st0,.i st1,.b rtr,.i pn0,.i pn1],[C] => some ⟨SV.tup [(false,[SC.wh 79295]),(false,[Ci (Q8 x rcl rop rmo ren rla0 rla1 rla2 l has y st0 st1 rtr C)])],Jh1 x rcl rop rer rmo ren rla0 rla1 rla2 l has y st0 st1 rtr pn0 pn1 C,[C.length ≤ 8],[],79353⟩
  | _,_ => none
theorem Jpm:Qg Tryz.prog 45 (Z4 JOW JFb JQP) := by
  refine QZ (KD JTl 45) fun ps ls r hr hn _ => ?_
  unfold JQP at hr
  split at hr
  · cases hr; exact ⟨_,Jip _ _ _ _ _ _ _ _ _ _ _ _ _ _ _ _ _ _ (Jjg (by exact hn)),fun _ => rfl⟩
  · cases hr
def Jco:List (Nat × JY) := (45,Z4 JOW JFb JQP) :: JcN
theorem JSU:Known Tryz.prog (JB Jco) Wr := J7 JTl Jpm
def JIl:Tpl := ⟨[],[],0⟩
def Jmr:Jn :=
 [(2,Obj.blk 74 [(3,SC.bool (SB.c false)),(4,SC.bool (SB.c false)),(5,SC.int IntKind.i64 (SI.c 0)),(6,SC.bool (SB.c false)),(7,SC.bool (SB.c false)),(8,SC.int IntKind.i64 (SI.c 0)),(9,SC.int IntKind.i64 (SI.c 0)),(10,SC.int IntKind.i64 (SI.c 0)),(11,SC.int IntKind.i64 (SI.c 0)),(12,SC.int IntKind.i64 (SI.c 0)),(13,SC.int IntKind.i64 (SI.c 0)),(14,SC.int IntKind.i64 (SI.c 0)),(15,SC.int IntKind.i64 (SI.c 0)),(16,SC.int IntKind.i64 (SI.c 0)),(17,SC.int IntKind.i64 (SI.c 0)),(18,SC.int IntKind.i64 (SI.c 0)),(19,SC.int IntKind.i64 (SI.c 0)),(20,SC.int IntKind.i64 (SI.c 0)),(21,SC.int IntKind.i64 (SI.c 0)),(22,SC.int IntKind.i64 (SI.c 0)),(23,SC.int IntKind.i64 (SI.c 0)),(24,SC.bool (SB.c false)),(25,SC.int IntKind.i64 (SI.c 0)),(26,SC.bool (SB.c false)),(27,SC.int IntKind.i64 (SI.c 0)),(28,SC.int IntKind.i64 (SI.c 0)),(29,SC.int IntKind.i64 (SI.c 0)),(30,SC.int IntKind.i64 (SI.c 0)),(31,SC.int IntKind.i64 (SI.c 0)),(32,SC.bool (SB.c false)),(66,SC.wh 64),(34,SC.bool (SB.c false)),(35,SC.int IntKind.i64 (SI.c 0)),(36,SC.int IntKind.i64 (SI.c 0)),(37,SC.int IntKind.i64 (SI.c 0)),(38,SC.int IntKind.i64 (SI.c 0)),(39,SC.int IntKind.i64 (SI.c 0)),(40,SC.int IntKind.i64 (SI.c 0)),(41,SC.int IntKind.i64 (SI.c 0)),(42,SC.int IntKind.i64 (SI.c 0)),(43,SC.int IntKind.i64 (SI.c 0)),(44,SC.int IntKind.i64 (SI.c 0)),(45,SC.int IntKind.i64 (SI.c 0)),(46,SC.int IntKind.i64 (SI.c 0)),(47,SC.int IntKind.i64 (SI.c 0)),(48,SC.bool (SB.c false)),(49,SC.int IntKind.i64 (SI.c 0)),(50,SC.bool (SB.c false)),(51,SC.int IntKind.i64 (SI.c 0)),(52,SC.int IntKind.i64 (SI.c 0)),(53,SC.int IntKind.i64 (SI.c 0)),(54,SC.int IntKind.i64 (SI.c 0)),(55,SC.int IntKind.i64 (SI.c 0)),(56,SC.bool (SB.c false)),(57,SC.int IntKind.i64 (SI.c 0)),(58,SC.int IntKind.i64 (SI.c 0)),(59,SC.bool (SB.c false)),(60,SC.int IntKind.i64 (SI.c 0)),(61,SC.int IntKind.i64 (SI.c 0))]),(64,Obj.row true 40 22 (RowC.lit 65 []))]
theorem Jnz:Runs (JHE (JB Jco) Wr 31) (JIl.args []) (JIl.memo [] []) JIl.n (SV.one (SC.ptr 2 0)) (Jmr) :=
  Runs.of1 (ps := []) (by kernel_rfl) (by simp)
def JVe:List Pm → Qm → Option CRes
  | [],[] => some ⟨SV.one (SC.ptr 2 0),Jmr,[],[],67⟩
  | _,_ => none
theorem Jty:Qg Tryz.prog 31 (JS JIl JVe) := by
  refine JH (KD JSU 31) fun ps ls r hr hn _ => ?_
  unfold JVe at hr
  split at hr
  · cases hr; exact ⟨_,Jnz,fun _ => rfl⟩
  · cases hr
def Jik:List (Nat × JY) := (31,JS JIl JVe) :: Jco
theorem JUx:Known Tryz.prog (JB Jik) Wr := J7 JSU Jty
def JEx:Tpl := ⟨[.one (.ptr 0 0),.agg pI],Y1,62⟩
def JOc:List GK := [.v Jx,.b,.b,.i,.b,.b,.i,.i,.i,.v Jx,.b,.v Jx,.i,.i,.b,.i,.i]
section
variable (x:List GC) (rcl rop:Bool) (rer:Int) (rmo ren:Bool) (rla0 rla1 rla2:Int) (l:List GC) (has:Bool) (y:List GC) (st0 st1:Int) (rtr:Bool) (pn1 pn0:Int) (C:LL) (q0:Nat) (q1:Int)
def Qx:Int:=
 Q8 (J1 x) rcl rop rmo ren rla0 rla1 rla2 (J1 l) has (J1 y) st0 st1 rtr C
def ZA:Int:=
 bif rer != 0 then rer else bif Qx x rcl rop rmo ren rla0 rla1 rla2 l has y st0 st1 rtr C != 0 then Qx x rcl rop rmo ren rla0 rla1 rla2 l has y st0 st1 rtr C else 0
def KJ:LL:=
 bif rer != 0 then [] else bif Q8 (J1 x) rcl rop rmo ren rla0 rla1 rla2 (J1 l) has (J1 y) st0 st1 rtr C != 0 then [] else YJ (J1 x) rcl rop rmo ren rla0 rla1 rla2 (J1 l) has (J1 y) st0 st1 rtr C
def JBL:Bool:= bif rer != 0 then rcl else bif Q8 (J1 x) rcl rop rmo ren rla0 rla1 rla2 (J1 l) has (J1 y) st0 st1 rtr C != 0 then rcl else rcl
def JBD:Bool:= bif rer != 0 then rop else bif Q8 (J1 x) rcl rop rmo ren rla0 rla1 rla2 (J1 l) has (J1 y) st0 st1 rtr C != 0 then rop else JE4 (J1 x) rcl rop rmo ren rla0 rla1 rla2 (J1 l) has (J1 y) st0 st1 rtr
def qh:Int:=
 bif rer != 0 then rer else bif Qx x rcl rop rmo ren rla0 rla1 rla2 l has y st0 st1 rtr C != 0 then Qx x rcl rop rmo ren rla0 rla1 rla2 l has y st0 st1 rtr C else rer
def JDH:Bool:= bif rer != 0 then rmo else bif Q8 (J1 x) rcl rop rmo ren rla0 rla1 rla2 (J1 l) has (J1 y) st0 st1 rtr C != 0 then rmo else JE0 (J1 x) rcl rmo ren rla0 rla1 rla2
def JDi:Bool:= bif rer != 0 then ren else bif Q8 (J1 x) rcl rop rmo ren rla0 rla1 rla2 (J1 l) has (J1 y) st0 st1 rtr C != 0 then ren else JEC (J1 x) rcl rmo ren rla0 rla1 rla2
def JDp:Int:= bif rer != 0 then rla0 else bif Q8 (J1 x) rcl rop rmo ren rla0 rla1 rla2 (J1 l) has (J1 y) st0 st1 rtr C != 0 then rla0 else JDX (J1 x) rcl rmo ren rla0 rla1 rla2
def JDP:Int:= bif rer != 0 then rla1 else bif Q8 (J1 x) rcl rop rmo ren rla0 rla1 rla2 (J1 l) has (J1 y) st0 st1 rtr C != 0 then rla1 else JDO (J1 x) rcl rmo ren rla0 rla1 rla2
def JDe:Int:= bif rer != 0 then rla2 else bif Q8 (J1 x) rcl rop rmo ren rla0 rla1 rla2 (J1 l) has (J1 y) st0 st1 rtr C != 0 then rla2 else JDt (J1 x) rcl rmo ren rla0 rla1 rla2
def QD:Int:=
 bif rer != 0 then xi l q0 else bif Q8 (J1 x) rcl rop rmo ren rla0 rla1 rla2 (J1 l) has (J1 y) st0 st1 rtr C != 0 then xi l q0 else q1
def zf:Int:= QD x rcl rop rer rmo ren rla0 rla1 rla2 l has y st0 st1 rtr C 0 (JDQ (J1 x) rcl rop rmo ren rla0 rla1 rla2 (J1 l))
def qz:Int:= QD x rcl rop rer rmo ren rla0 rla1 rla2 l has y st0 st1 rtr C 1 (JDs (J1 x) rcl rop rmo ren rla0 rla1 rla2 (J1 l))
def zy:Int:= QD x rcl rop rer rmo ren rla0 rla1 rla2 l has y st0 st1 rtr C 2 (kC (J1 x) rcl rop rmo ren rla0 rla1 rla2 (J1 l))
def JAO:Int:= QD x rcl rop rer rmo ren rla0 rla1 rla2 l has y st0 st1 rtr C 3 (kO (J1 x) rcl rop rmo ren rla0 rla1 rla2 (J1 l))
def JAN:Int:= QD x rcl rop rer rmo ren rla0 rla1 rla2 l has y st0 st1 rtr C 4 (ku (J1 x) rcl rop rmo ren rla0 rla1 rla2 (J1 l))
def ke:Int:= QD x rcl rop rer rmo ren rla0 rla1 rla2 l has y st0 st1 rtr C 5 (zN (J1 x) rcl rop rmo ren rla0 rla1 rla2 (J1 l))
def kb:Int:= QD x rcl rop rer rmo ren rla0 rla1 rla2 l has y st0 st1 rtr C 6 (JAV (J1 x) rcl rop rmo ren rla0 rla1 rla2 (J1 l))
def kF:Int:= QD x rcl rop rer rmo ren rla0 rla1 rla2 l has y st0 st1 rtr C 7 (qw (J1 x) rcl rop rmo ren rla0 rla1 rla2 (J1 l))
def kt:Int:= QD x rcl rop rer rmo ren rla0 rla1 rla2 l has y st0 st1 rtr C 8 (kA (J1 x) rcl rop rmo ren rla0 rla1 rla2 (J1 l))
def kK:Int:= QD x rcl rop rer rmo ren rla0 rla1 rla2 l has y st0 st1 rtr C 9 (qu (J1 x) rcl rop rmo ren rla0 rla1 rla2 (J1 l))
def ko:Int:= QD x rcl rop rer rmo ren rla0 rla1 rla2 l has y st0 st1 rtr C 10 (zY (J1 x) rcl rop rmo ren rla0 rla1 rla2 (J1 l))
def JAM:Int:= QD x rcl rop rer rmo ren rla0 rla1 rla2 l has y st0 st1 rtr C 11 (zG (J1 x) rcl rop rmo ren rla0 rla1 rla2 (J1 l))
def kZ:Int:= QD x rcl rop rer rmo ren rla0 rla1 rla2 l has y st0 st1 rtr C 12 (JAZ (J1 x) rcl rop rmo ren rla0 rla1 rla2 (J1 l))
def zE:Bool:= bif rer != 0 then xb l 13 else bif Q8 (J1 x) rcl rop rmo ren rla0 rla1 rla2 (J1 l) has (J1 y) st0 st1 rtr C != 0 then xb l 13 else JAA (J1 x) rcl rop rmo ren rla0 rla1 rla2 (J1 l)
def kH:Int:= QD x rcl rop rer rmo ren rla0 rla1 rla2 l has y st0 st1 rtr C 14 (zF (J1 x) rcl rop rmo ren rla0 rla1 rla2 (J1 l))
def kf:Bool:= bif rer != 0 then xb l 15 else bif Q8 (J1 x) rcl rop rmo ren rla0 rla1 rla2 (J1 l) has (J1 y) st0 st1 rtr C != 0 then xb l 15 else kD (J1 x) rcl rop rmo ren rla0 rla1 rla2 (J1 l)
def z9:Int:= QD x rcl rop rer rmo ren rla0 rla1 rla2 l has y st0 st1 rtr C 16 (zp (J1 x) rcl rop rmo ren rla0 rla1 rla2 (J1 l))
def JAd:Int:= QD x rcl rop rer rmo ren rla0 rla1 rla2 l has y st0 st1 rtr C 17 (JAa (J1 x) rcl rop rmo ren rla0 rla1 rla2 (J1 l))
def JAf:Int:= QD x rcl rop rer rmo ren rla0 rla1 rla2 l has y st0 st1 rtr C 18 (kp (J1 x) rcl rop rmo ren rla0 rla1 rla2 (J1 l))
def JAc:Int:= QD x rcl rop rer rmo ren rla0 rla1 rla2 l has y st0 st1 rtr C 19 (zc (J1 x) rcl rop rmo ren rla0 rla1 rla2 (J1 l))
def JAQ:Int:= QD x rcl rop rer rmo ren rla0 rla1 rla2 l has y st0 st1 rtr C 20 (zK (J1 x) rcl rop rmo ren rla0 rla1 rla2 (J1 l))
def zI:Bool:= bif rer != 0 then xb l 21 else bif Q8 (J1 x) rcl rop rmo ren rla0 rla1 rla2 (J1 l) has (J1 y) st0 st1 rtr C != 0 then xb l 21 else kh (J1 x) rcl rop rmo ren rla0 rla1 rla2 (J1 l)
def zB:Bool:= bif rer != 0 then has else bif Q8 (J1 x) rcl rop rmo ren rla0 rla1 rla2 (J1 l) has (J1 y) st0 st1 rtr C != 0 then has else JA6 (J1 x) rcl rop rmo ren rla0 rla1 rla2 (J1 l) has (J1 y) st0 st1 rtr
def QE:Int:=
 bif rer != 0 then xi y q0 else bif Q8 (J1 x) rcl rop rmo ren rla0 rla1 rla2 (J1 l) has (J1 y) st0 st1 rtr C != 0 then xi y q0 else q1
def zn:Int:= QE x rcl rop rer rmo ren rla0 rla1 rla2 l has y st0 st1 rtr C 0 (JAF (J1 x) rcl rop rmo ren rla0 rla1 rla2 (J1 l) has (J1 y) st0 st1 rtr)
def JAD:Int:= QE x rcl rop rer rmo ren rla0 rla1 rla2 l has y st0 st1 rtr C 1 (JA8 (J1 x) rcl rop rmo ren rla0 rla1 rla2 (J1 l) has (J1 y) st0 st1 rtr)
def JAT:Int:= QE x rcl rop rer rmo ren rla0 rla1 rla2 l has y st0 st1 rtr C 2 (kU (J1 x) rcl rop rmo ren rla0 rla1 rla2 (J1 l) has (J1 y) st0 st1 rtr)
def JAX:Int:= QE x rcl rop rer rmo ren rla0 rla1 rla2 l has y st0 st1 rtr C 3 (kL (J1 x) rcl rop rmo ren rla0 rla1 rla2 (J1 l) has (J1 y) st0 st1 rtr)
def kX:Int:= QE x rcl rop rer rmo ren rla0 rla1 rla2 l has y st0 st1 rtr C 4 (JA3 (J1 x) rcl rop rmo ren rla0 rla1 rla2 (J1 l) has (J1 y) st0 st1 rtr)
def z7:Int:= QE x rcl rop rer rmo ren rla0 rla1 rla2 l has y st0 st1 rtr C 5 (ze (J1 x) rcl rop rmo ren rla0 rla1 rla2 (J1 l) has (J1 y) st0 st1 rtr)
def JAL:Int:= QE x rcl rop rer rmo ren rla0 rla1 rla2 l has y st0 st1 rtr C 6 (zm (J1 x) rcl rop rmo ren rla0 rla1 rla2 (J1 l) has (J1 y) st0 st1 rtr)
def kJ:Int:= QE x rcl rop rer rmo ren rla0 rla1 rla2 l has y st0 st1 rtr C 7 (zz (J1 x) rcl rop rmo ren rla0 rla1 rla2 (J1 l) has (J1 y) st0 st1 rtr)
def zZ:Int:= QE x rcl rop rer rmo ren rla0 rla1 rla2 l has y st0 st1 rtr C 8 (ka (J1 x) rcl rop rmo ren rla0 rla1 rla2 (J1 l) has (J1 y) st0 st1 rtr)
def JAe:Int:= QE x rcl rop rer rmo ren rla0 rla1 rla2 l has y st0 st1 rtr C 9 (zt (J1 x) rcl rop rmo ren rla0 rla1 rla2 (J1 l) has (J1 y) st0 st1 rtr)
def z8:Int:= QE x rcl rop rer rmo ren rla0 rla1 rla2 l has y st0 st1 rtr C 10 (kW (J1 x) rcl rop rmo ren rla0 rla1 rla2 (J1 l) has (J1 y) st0 st1 rtr)
def ki:Int:= QE x rcl rop rer rmo ren rla0 rla1 rla2 l has y st0 st1 rtr C 11 (qy (J1 x) rcl rop rmo ren rla0 rla1 rla2 (J1 l) has (J1 y) st0 st1 rtr)
def JA4:Int:= QE x rcl rop rer rmo ren rla0 rla1 rla2 l has y st0 st1 rtr C 12 (kT (J1 x) rcl rop rmo ren rla0 rla1 rla2 (J1 l) has (J1 y) st0 st1 rtr)
def zU:Bool:= bif rer != 0 then xb y 13 else bif Q8 (J1 x) rcl rop rmo ren rla0 rla1 rla2 (J1 l) has (J1 y) st0 st1 rtr C != 0 then xb y 13 else JAW (J1 x) rcl rop rmo ren rla0 rla1 rla2 (J1 l) has (J1 y) st0 st1 rtr
def z6:Int:= QE x rcl rop rer rmo ren rla0 rla1 rla2 l has y st0 st1 rtr C 14 (zM (J1 x) rcl rop rmo ren rla0 rla1 rla2 (J1 l) has (J1 y) st0 st1 rtr)
def JAP:Bool:= bif rer != 0 then xb y 15 else bif Q8 (J1 x) rcl rop rmo ren rla0 rla1 rla2 (J1 l) has (J1 y) st0 st1 rtr C != 0 then xb y 15 else zj (J1 x) rcl rop rmo ren rla0 rla1 rla2 (J1 l) has (J1 y) st0 st1 rtr
def JA7:Int:= QE x rcl rop rer rmo ren rla0 rla1 rla2 l has y st0 st1 rtr C 16 (kV (J1 x) rcl rop rmo ren rla0 rla1 rla2 (J1 l) has (J1 y) st0 st1 rtr)
def zR:Int:= QE x rcl rop rer rmo ren rla0 rla1 rla2 l has y st0 st1 rtr C 17 (ky (J1 x) rcl rop rmo ren rla0 rla1 rla2 (J1 l) has (J1 y) st0 st1 rtr)
def zT:Int:= QE x rcl rop rer rmo ren rla0 rla1 rla2 l has y st0 st1 rtr C 18 (zd (J1 x) rcl rop rmo ren rla0 rla1 rla2 (J1 l) has (J1 y) st0 st1 rtr)
def zJ:Int:= QE x rcl rop rer rmo ren rla0 rla1 rla2 l has y st0 st1 rtr C 19 (JA1 (J1 x) rcl rop rmo ren rla0 rla1 rla2 (J1 l) has (J1 y) st0 st1 rtr)
def zh:Int:= QE x rcl rop rer rmo ren rla0 rla1 rla2 l has y st0 st1 rtr C 20 (kG (J1 x) rcl rop rmo ren rla0 rla1 rla2 (J1 l) has (J1 y) st0 st1 rtr)
def zL:Bool:= bif rer != 0 then xb y 21 else bif Q8 (J1 x) rcl rop rmo ren rla0 rla1 rla2 (J1 l) has (J1 y) st0 st1 rtr C != 0 then xb y 21 else JAY (J1 x) rcl rop rmo ren rla0 rla1 rla2 (J1 l) has (J1 y) st0 st1 rtr
def kS:Int:= bif rer != 0 then st0 else bif Q8 (J1 x) rcl rop rmo ren rla0 rla1 rla2 (J1 l) has (J1 y) st0 st1 rtr C != 0 then st0 else kB (J1 x) rcl rop rmo ren rla0 rla1 rla2 (J1 l) has (J1 y) st0 st1 rtr
def kq:Int:= bif rer != 0 then st1 else bif Q8 (J1 x) rcl rop rmo ren rla0 rla1 rla2 (J1 l) has (J1 y) st0 st1 rtr C != 0 then st1 else zV (J1 x) rcl rop rmo ren rla0 rla1 rla2 (J1 l) has (J1 y) st0 st1 rtr
def JAG:Bool:= bif rer != 0 then rtr else bif Q8 (J1 x) rcl rop rmo ren rla0 rla1 rla2 (J1 l) has (J1 y) st0 st1 rtr C != 0 then rtr else k8 (J1 x) rcl rop rmo ren rla0 rla1 rla2 (J1 l) has (J1 y) st0 st1 rtr
def JA2:Int:= bif rer != 0 then pn0 else bif Q8 (J1 x) rcl rop rmo ren rla0 rla1 rla2 (J1 l) has (J1 y) st0 st1 rtr C != 0 then pn0 else zO (J1 x) rcl rop rmo ren rla0 rla1 rla2 (J1 l) has (J1 y) st0 st1 rtr pn0
def zS:Int:= bif rer != 0 then pn1 else bif Q8 (J1 x) rcl rop rmo ren rla0 rla1 rla2 (J1 l) has (J1 y) st0 st1 rtr C != 0 then pn1 else zC (J1 x) rcl rop rmo ren rla0 rla1 rla2 (J1 l) has (J1 y) st0 st1 rtr pn1
def YR:LL:=
 bif rer != 0 then C else bif Q8 (J1 x) rcl rop rmo ren rla0 rla1 rla2 (J1 l) has (J1 y) st0 st1 rtr C != 0 then C else W9 (J1 x) rcl rop rmo ren rla0 rla1 rla2 (J1 l) has (J1 y) st0 st1 rtr C
def JI9:List Prop:= [(rer != 0) = false → C.length ≤ 8]
end
def Jfh (x:List GC) (rcl rop:Bool) (rer:Int) (rmo ren:Bool) (rla0 rla1 rla2:Int) (l:List GC) (has:Bool) (y:List GC) (st0 st1:Int) (rtr:Bool) (pn0 pn1:Int) (C:LL):Jn :=
 [(79728,Obj.row false 40 22 (RowC.lst 79727 Wc (KJ x rcl rop rer rmo ren rla0 rla1 rla2 l has y st0 st1 rtr C))),(0,Obj.blk 74 [(79730,Cb (JBL x rcl rop rer rmo ren rla0 rla1 rla2 l has y st0 st1 rtr C)),(79731,Cb (JBD x rcl rop rer rmo ren rla0 rla1 rla2 l has y st0 st1 rtr C)),(79732,Ci (qh x rcl rop rer rmo ren rla0 rla1 rla2 l has y st0 st1 rtr C)),(79733,Cb (JDH x rcl rop rer rmo ren rla0 rla1 rla2 l has y st0 st1 rtr C)),(79734,Cb (JDi x rcl rop rer rmo ren rla0 rla1 rla2 l has y st0 st1 rtr C)),(79735,Ci (JDp x rcl rop rer rmo ren rla0 rla1 rla2 l has y st0 st1 rtr C)),(79736,Ci (JDP x rcl rop rer rmo ren rla0 rla1 rla2 l has y st0 st1 rtr C)),(79737,Ci (JDe x rcl rop rer rmo ren rla0 rla1 rla2 l has y st0 st1 rtr C)),(79738,Ci (zf x rcl rop rer rmo ren rla0 rla1 rla2 l has y st0 st1 rtr C)),(79739,Ci (qz x rcl rop rer rmo ren rla0 rla1 rla2 l has y st0 st1 rtr C)),(79740,Ci (zy x rcl rop rer rmo ren rla0 rla1 rla2 l has y st0 st1 rtr C)),(79741,Ci (JAO x rcl rop rer rmo ren rla0 rla1 rla2 l has y st0 st1 rtr C)),(79742,Ci (JAN x rcl rop rer rmo ren rla0 rla1 rla2 l has y st0 st1 rtr C)),(79743,Ci (ke x rcl rop rer rmo ren rla0 rla1 rla2 l has y st0 st1 rtr C)),(79744,Ci (kb x rcl rop rer rmo ren rla0 rla1 rla2 l has y st0 st1 rtr C)),(79745,Ci (kF x rcl rop rer rmo ren rla0 rla1 rla2 l has y st0 st1 rtr C)),(79746,Ci (kt x rcl rop rer rmo ren rla0 rla1 rla2 l has y st0 st1 rtr C)),(79747,Ci (kK x rcl rop rer rmo ren rla0 rla1 rla2 l has y st0 st1 rtr C)),(79748,Ci (ko x rcl rop rer rmo ren rla0 rla1 rla2 l has y st0 st1 rtr C)),(79749,Ci (JAM x rcl rop rer rmo ren rla0 rla1 rla2 l has y st0 st1 rtr C)),(79750,Ci (kZ x rcl rop rer rmo ren rla0 rla1 rla2 l has y st0 st1 rtr C)),(79751,Cb (zE x rcl rop rer rmo ren rla0 rla1 rla2 l has y st0 st1 rtr C)),(79752,Ci (kH x rcl rop rer rmo ren rla0 rla1 rla2 l has y st0 st1 rtr C)),(79753,Cb (kf x rcl rop rer rmo ren rla0 rla1 rla2 l has y st0 st1 rtr C)),(79754,Ci (z9 x rcl rop rer rmo ren rla0 rla1 rla2 l has y st0 st1 rtr C)),(79755,Ci (JAd x rcl rop rer rmo ren rla0 rla1 rla2 l has y st0 st1 rtr C)),(79756,Ci (JAf x rcl rop rer rmo ren rla0 rla1 rla2 l has y st0 st1 rtr C)),(79757,Ci (JAc x rcl rop rer rmo ren rla0 rla1 rla2 l has y st0 st1 rtr C)),(79758,Ci (JAQ x rcl rop rer rmo ren rla0 rla1 rla2 l has y st0 st1 rtr C)),(79759,Cb (zI x rcl rop rer rmo ren rla0 rla1 rla2 l has y st0 st1 rtr C)),(79726,SC.wh 79724),(79760,Cb (zB x rcl rop rer rmo ren rla0 rla1 rla2 l has y st0 st1 rtr C)),(79761,Ci (zn x rcl rop rer rmo ren rla0 rla1 rla2 l has y st0 st1 rtr C)),(79762,Ci (JAD x rcl rop rer rmo ren rla0 rla1 rla2 l has y st0 st1 rtr C)),(79763,Ci (JAT x rcl rop rer rmo ren rla0 rla1 rla2 l has y st0 st1 rtr C)),(79764,Ci (JAX x rcl rop rer rmo ren rla0 rla1 rla2 l has y st0 st1 rtr C)),(79765,Ci (kX x rcl rop rer rmo ren rla0 rla1 rla2 l has y st0 st1 rtr C)),(79766,Ci (z7 x rcl rop rer rmo ren rla0 rla1 rla2 l has y st0 st1 rtr C)),(79767,Ci (JAL x rcl rop rer rmo ren rla0 rla1 rla2 l has y st0 st1 rtr C)),(79768,Ci (kJ x rcl rop rer rmo ren rla0 rla1 rla2 l has y st0 st1 rtr C)),(79769,Ci (zZ x rcl rop rer rmo ren rla0 rla1 rla2 l has y st0 st1 rtr C)),(79770,Ci (JAe x rcl rop rer rmo ren rla0 rla1 rla2 l has y st0 st1 rtr C)),(79771,Ci (z8 x rcl rop rer rmo ren rla0 rla1 rla2 l has y st0 st1 rtr C)),(79772,Ci (ki x rcl rop rer rmo ren rla0 rla1 rla2 l has y st0 st1 rtr C)),(79773,Ci (JA4 x rcl rop rer rmo ren rla0 rla1 rla2 l has y st0 st1 rtr C)),(79774,Cb (zU x rcl rop rer rmo ren rla0 rla1 rla2 l has y st0 st1 rtr C)),(79775,Ci (z6 x rcl rop rer rmo ren rla0 rla1 rla2 l has y st0 st1 rtr C)),(79776,Cb (JAP x rcl rop rer rmo ren rla0 rla1 rla2 l has y st0 st1 rtr C)),(79777,Ci (JA7 x rcl rop rer rmo ren rla0
 rla1 rla2 l has y st0 st1 rtr C)),(79778,Ci (zR x rcl rop rer rmo ren rla0 rla1 rla2 l has y st0 st1 rtr C)),(79779,Ci (zT x rcl rop rer rmo ren rla0 rla1 rla2 l has y st0 st1 rtr C)),(79780,Ci (zJ x rcl rop rer rmo ren rla0 rla1 rla2 l has y st0 st1 rtr C)),(79781,Ci (zh x rcl rop rer rmo ren rla0 rla1 rla2 l has y st0 st1 rtr C)),(79782,Cb (zL x rcl rop rer rmo ren rla0 rla1 rla2 l has y st0 st1 rtr C)),(79783,Ci (kS x rcl rop rer rmo ren rla0 rla1 rla2 l has y st0 st1 rtr C)),(79784,Ci (kq x rcl rop rer rmo ren rla0 rla1 rla2 l has y st0 st1 rtr C)),(79785,Cb (JAG x rcl rop rer rmo ren rla0 rla1 rla2 l has y st0 st1 rtr C)),(79786,Ci (JA2 x rcl rop rer rmo ren rla0 rla1 rla2 l has y st0 st1 rtr pn0 C)),(79787,Ci (zS x rcl rop rer rmo ren rla0 rla1 rla2 l has y st0 st1 rtr pn1 C))]),(79724,Obj.row true 40 22 (RowC.lst 79729 Wc (YR x rcl rop rer rmo ren rla0 rla1 rla2 l has y st0 st1 rtr C))),(1,Obj.row true 40 22 (RowC.lst 61 Wc C))]
theorem JiR (x:List GC) (rcl rop:Bool) (rer:Int) (rmo ren:Bool) (rla0 rla1 rla2:Int) (l:List GC) (has:Bool) (y:List GC) (st0 st1:Int) (rtr:Bool) (pn0 pn1:Int) (C:LL) (hNeeds:∀ pN ∈ (JI9 rer C),pN):Runs (JHE (JB Jik) Wr 32) (JEx.args (Je JOc [.v x,.b rcl,.b rop,.i rer,.b rmo,.b ren,.i rla0,.i rla1,.i rla2,.v l,.b has,.v y,.i st0,.i st1,.b rtr,.i pn0,.i pn1])) (JEx.memo (Je JOc [.v x,.b rcl,.b rop,.i rer,.b rmo,.b ren,.i rla0,.i rla1,.i rla2,.v l,.b has,.v y,.i st0,.i st1,.b rtr,.i pn0,.i pn1]) [C]) JEx.n (SV.tup [(false,[SC.wh 79728]),(false,[Ci (ZA x rcl rop rer rmo ren rla0 rla1 rla2 l has y st0 st1 rtr C)])]) (Jfh x rcl rop rer rmo ren rla0 rla1 rla2 l has y st0 st1 rtr pn0 pn1 C) :=
  Runs.of1 (ps := (JI9 rer C)) (by kernel_rfl) hNeeds
def JP8:List Gm → Qm → Option CRes
  | [.v x,.b rcl,.b rop,.i rer,.b rmo,.b ren,.i rla0,.i rla1,.i rla2,.v l,.b has,.v y,.i st0,.i st1,.b rtr,.i pn0,.i pn1],[C] => some ⟨SV.tup [(false,[SC.wh 79728]),(false,[Ci (ZA x rcl rop rer rmo ren rla0 rla1 rla2 l has y st0 st1 rtr C)])],Jfh x rcl rop rer rmo ren rla0 rla1 rla2 l has y st0 st1 rtr pn0 pn1 C,
   (JI9 rer C),[],79788⟩
  | _,_ => none
theorem Jrl:Qg Tryz.prog 32 (Z4 JOc JEx JP8) := by
  refine QZ (KD JUx 32) fun ps ls r hr hn _ => ?_
  unfold JP8 at hr
  split at hr
  · cases hr; exact ⟨_,JiR _ _ _ _ _ _ _ _ _ _ _ _ _ _ _ _ _ _ hn,fun _ => rfl⟩
  · cases hr
def Jdr:List (Nat × JY) := (32,Z4 JOc JEx JP8) :: Jik
theorem JTL:Known Tryz.prog (JB Jdr) Wr := J7 JUx Jrl
def JCU:Tpl := ⟨[.one (.ptr 0 0)],Y1,62⟩
def JKR:List GK := [.b,.b,.i,.b,.b,.i,.i,.i,.v Jx,.b,.v Jx,.i,.i,.b,.i,.i]
def YO (rcl rop:Bool) (rer:Int):Int := bif rer == 0 && (rcl || rop) then 13 else rer
def Jbn (rcl rop:Bool) (rer:Int) (rmo ren:Bool) (rla0 rla1 rla2:Int) (l:List GC) (has:Bool) (y:List GC) (st0 st1:Int) (rtr:Bool) (pn0 pn1:Int) (C:LL):Jn :=
 [(0,Obj.blk 74 [(90,SC.bool (SB.c true)),(3,Cb rop),(86,Ci (YO rcl rop rer)),(5,Cb rmo),(6,Cb ren),(7,Ci rla0),(8,Ci rla1),(9,Ci rla2),(10,Ci (xi l 0)),(11,Ci (xi l 1)),(12,Ci (xi l 2)),(13,Ci (xi l 3)),(14,Ci (xi l 4)),(15,Ci (xi l 5)),(16,Ci (xi l 6)),(17,Ci (xi l 7)),(18,Ci (xi l 8)),(19,Ci (xi l 9)),(20,Ci (xi l 10)),(21,Ci (xi l 11)),(22,Ci (xi l 12)),(23,Cb (xb l 13)),(24,Ci (xi l 14)),(25,Cb (xb l 15)),(26,Ci (xi l 16)),(27,Ci (xi l 17)),(28,Ci (xi l 18)),(29,Ci (xi l 19)),(30,Ci (xi l 20)),(31,Cb (xb l 21)),(32,SC.wh 1),(33,Cb has),(34,Ci (xi y 0)),(35,Ci (xi y 1)),(36,Ci (xi y 2)),(37,Ci (xi y 3)),(38,Ci (xi y 4)),(39,Ci (xi y 5)),(40,Ci (xi y 6)),(41,Ci (xi y 7)),(42,Ci (xi y 8)),(43,Ci (xi y 9)),(44,Ci (xi y 10)),(45,Ci (xi y 11)),(46,Ci (xi y 12)),(47,Cb (xb y 13)),(48,Ci (xi y 14)),(49,Cb (xb y 15)),(50,Ci (xi y 16)),(51,Ci (xi y 17)),(52,Ci (xi y 18)),(53,Ci (xi y 19)),(54,Ci (xi y 20)),(55,Cb (xb y 21)),(56,Ci st0),(57,Ci st1),(58,Cb rtr),(59,Ci pn0),(60,Ci pn1)]),(1,Obj.row true 40 22 (RowC.lst 61 Wc C))]
theorem JhN (rcl rop:Bool) (rer:Int) (rmo ren:Bool) (rla0 rla1 rla2:Int) (l:List GC) (has:Bool) (y:List GC) (st0 st1:Int) (rtr:Bool) (pn0 pn1:Int) (C:LL):Runs (JHE (JB Jdr) Wr 33) (JCU.args (Je JKR [.b rcl,.b rop,.i rer,.b rmo,.b ren,.i rla0,.i rla1,.i rla2,.v l,.b has,.v y,.i st0,.i st1,.b rtr,.i pn0,.i pn1])) (JCU.memo (Je JKR [.b rcl,.b rop,.i rer,.b rmo,.b ren,.i rla0,.i rla1,.i rla2,.v l,.b has,.v y,.i st0,.i st1,.b rtr,.i pn0,.i pn1]) [C]) JCU.n (SV.tup [(false,[SC.nilsl]),(false,[Ci (YO rcl rop rer)])]) (Jbn rcl rop rer rmo ren rla0 rla1 rla2 l has y st0 st1 rtr pn0 pn1 C) :=
  Runs.of1 (ps := []) (by kernel_rfl) (by simp)
def JLm:List Gm → Qm → Option CRes
  | [.b rcl,.b rop,.i rer,.b rmo,.b ren,.i rla0,.i rla1,.i rla2,.v l,.b has,.v y,.i st0,.i st1,.b rtr,.i pn0,.i pn1],[C] => some ⟨SV.tup [(false,[SC.nilsl]),(false,[Ci (YO rcl rop rer)])],Jbn rcl rop rer rmo ren rla0 rla1 rla2 l has y st0 st1 rtr pn0 pn1 C,[],[],98⟩
  | _,_ => none
theorem Jnb:Qg Tryz.prog 33 (Z4 JKR JCU JLm) := by
  refine QZ (KD JTL 33) fun ps ls r hr hn _ => ?_
  unfold JLm at hr
  split at hr
  · cases hr; exact ⟨_,JhN _ _ _ _ _ _ _ _ _ _ _ _ _ _ _ _ _,fun _ => rfl⟩
  · cases hr
def JaG:List (Nat × JY) := (33,Z4 JKR JCU JLm) :: Jdr
theorem JND:Known Tryz.prog (JB JaG) Wr := J7 JTL Jnb
def JEw:Tpl := ⟨[.one (.ptr 0 0)],Y1,62⟩
def JOq:List GK := [.b,.b,.i,.b,.b,.i,.i,.i,.v Jx,.b,.v Jx,.i,.i,.b,.i,.i]
def Jfp (rcl rop:Bool) (rer:Int) (rmo ren:Bool) (rla0 rla1 rla2:Int) (l:List GC) (has:Bool) (y:List GC) (st0 st1:Int) (rtr:Bool) (pn0 pn1:Int) (C:LL):Jn :=
 [(0,Obj.blk 74 [(2,Cb rcl),(3,Cb rop),(4,Ci rer),(5,Cb rmo),(6,Cb ren),(7,Ci rla0),(8,Ci rla1),(9,Ci rla2),(10,Ci (xi l 0)),(11,Ci (xi l 1)),(12,Ci (xi l 2)),(13,Ci (xi l 3)),(14,Ci (xi l 4)),(15,Ci (xi l 5)),(16,Ci (xi l 6)),(17,Ci (xi l 7)),(18,Ci (xi l 8)),(19,Ci (xi l 9)),(20,Ci (xi l 10)),(21,Ci (xi l 11)),(22,Ci (xi l 12)),(23,Cb (xb l 13)),(24,Ci (xi l 14)),(25,Cb (xb l 15)),(26,Ci (xi l 16)),(27,Ci (xi l 17)),(28,Ci (xi l 18)),(29,Ci (xi l 19)),(30,Ci (xi l 20)),(31,Cb (xb l 21)),(32,SC.wh 1),(33,Cb has),(34,Ci (xi y 0)),(35,Ci (xi y 1)),(36,Ci (xi y 2)),(37,Ci (xi y 3)),(38,Ci (xi y 4)),(39,Ci (xi y 5)),(40,Ci (xi y 6)),(41,Ci (xi y 7)),(42,Ci (xi y 8)),(43,Ci (xi y 9)),(44,Ci (xi y 10)),(45,Ci (xi y 11)),(46,Ci (xi y 12)),(47,Cb (xb y 13)),(48,Ci (xi y 14)),(49,Cb (xb y 15)),(50,Ci (xi y 16)),(51,Ci (xi y 17)),(52,Ci (xi y 18)),(53,Ci (xi y 19)),(54,Ci (xi y 20)),(55,Cb (xb y 21)),(56,Ci st0),(57,Ci st1),(58,Cb rtr),(59,Ci pn0),(60,Ci pn1)]),(1,Obj.row true 40 22 (RowC.lst 61 Wc C))]
theorem JlM (rcl rop:Bool) (rer:Int) (rmo ren:Bool) (rla0 rla1 rla2:Int) (l:List GC) (has:Bool) (y:List GC) (st0 st1:Int) (rtr:Bool) (pn0 pn1:Int) (C:LL):Runs (JHE (JB JaG) Wr 34) (JEw.args (Je JOq [.b rcl,.b rop,.i rer,.b rmo,.b ren,.i rla0,.i rla1,.i rla2,.v l,.b has,.v y,.i st0,.i st1,.b rtr,.i pn0,.i pn1])) (JEw.memo (Je JOq [.b rcl,.b rop,.i rer,.b rmo,.b ren,.i rla0,.i rla1,.i rla2,.v l,.b has,.v y,.i st0,.i st1,.b rtr,.i pn0,.i pn1]) [C]) JEw.n (SV.one (Ci (QV rop rer C))) (Jfp rcl rop rer rmo ren rla0 rla1 rla2 l has y st0 st1 rtr pn0 pn1 C) :=
  Runs.of1 (ps := []) (by kernel_rfl) (by simp)
def JRq:List Gm → Qm → Option CRes
  | [.b rcl,.b rop,.i rer,.b rmo,.b ren,.i rla0,.i rla1,.i rla2,.v l,.b has,.v y,.i st0,.i st1,.b rtr,.i pn0,.i pn1],[C] => some ⟨SV.one (Ci (QV rop rer C)),Jfp rcl rop rer rmo ren rla0 rla1 rla2 l has y st0 st1 rtr pn0 pn1 C,[],[],83⟩
  | _,_ => none
theorem JrJ:Qg Tryz.prog 34 (Z4 JOq JEw JRq) := by
  refine QZ (KD JND 34) fun ps ls r hr hn _ => ?_
  unfold JRq at hr
  split at hr
  · cases hr; exact ⟨_,JlM _ _ _ _ _ _ _ _ _ _ _ _ _ _ _ _ _,fun _ => rfl⟩
  · cases hr
def JeX:List (Nat × JY) := (34,Z4 JOq JEw JRq) :: JaG
theorem JSj:Known Tryz.prog (JB JeX) Wr := J7 JND JrJ
theorem YH (x:List GC):J1 (J1 x) = J1 x := by kernel_rfl
theorem nx0 (x:List GC):xi (J1 x) 0 = xi x 0 := by kernel_rfl
theorem nx1 (x:List GC):xi (J1 x) 1 = xi x 1 := by kernel_rfl
theorem nx2 (x:List GC):xi (J1 x) 2 = xi x 2 := by kernel_rfl
theorem nx3 (x:List GC):xi (J1 x) 3 = xi x 3 := by kernel_rfl
theorem nx4 (x:List GC):xi (J1 x) 4 = xi x 4 := by kernel_rfl
theorem nx5 (x:List GC):xi (J1 x) 5 = xi x 5 := by kernel_rfl
theorem nx6 (x:List GC):xi (J1 x) 6 = xi x 6 := by kernel_rfl
theorem nx7 (x:List GC):xi (J1 x) 7 = xi x 7 := by kernel_rfl
theorem nx8 (x:List GC):xi (J1 x) 8 = xi x 8 := by kernel_rfl
theorem nx9 (x:List GC):xi (J1 x) 9 = xi x 9 := by kernel_rfl
theorem JNa (x:List GC):xi (J1 x) 10 = xi x 10 := by kernel_rfl
theorem JO6 (x:List GC):xi (J1 x) 11 = xi x 11 := by kernel_rfl
theorem JN8 (x:List GC):xi (J1 x) 12 = xi x 12 := by kernel_rfl
theorem JNm (x:List GC):xb (J1 x) 13 = xb x 13 := by kernel_rfl
theorem JNN (x:List GC):xi (J1 x) 14 = xi x 14 := by kernel_rfl
theorem JNj (x:List GC):xb (J1 x) 15 = xb x 15 := by kernel_rfl
theorem JOS (x:List GC):xi (J1 x) 16 = xi x 16 := by kernel_rfl
theorem JO3 (x:List GC):xi (J1 x) 17 = xi x 17 := by kernel_rfl
theorem JOo (x:List GC):xi (J1 x) 18 = xi x 18 := by kernel_rfl
theorem JOT (x:List GC):xi (J1 x) 19 = xi x 19 := by kernel_rfl
theorem JNX (x:List GC):xi (J1 x) 20 = xi x 20 := by kernel_rfl
theorem JNz (x:List GC):xb (J1 x) 21 = xb x 21 := by kernel_rfl
section
variable (u w:Int) (tm:Bool) (l y x:List GC) (s:St)
def inv:Bool:= !QY (J1 x) || s.en || J5 (xi x 0) && s.mo && !(xi x 2 == s.la0 && (xi x 3 == s.la1 && xi x 4 == s.la2))
def mvd:St:= { s with en := xi x 0 == 14,mo := J5 (xi x 0) || s.mo,la0 := bif J5 (xi x 0) then xi x 5 else s.la0,la1 := bif J5 (xi x 0) then xi x 6 else s.la1,la2 := bif J5 (xi x 0) then xi x 7 else s.la2 }
def nE:Int:= Qk (J3 (xi l 8) (xi x 2) (xi x 3) (xi x 4)) (J4 (xi l 8) (xi x 2) (xi x 3) (xi x 4)) (J3 (xi l 8) (xi x 5) (xi x 6) (xi x 7)) (J4 (xi l 8) (xi x 5) (xi x 6) (xi x 7)) (bif xi x 0 == 3 then J3 (xi l 8) (xi x 9) (xi x 10) (xi x 11) else 0) (bif xi x 0 == 3 then J4 (xi l 8) (xi x 9) (xi x 10) (xi x 11) else 0) (bif xi x 0 == 3 then xi x 12 else 0) (IntKind.i64.wrap (xi l 16 * xi l 17))
def n0:Int:= XM (J3 (xi l 8) (xi x 2) (xi x 3) (xi x 4)) (J4 (xi l 8) (xi x 2) (xi x 3) (xi x 4)) (J3 (xi l 8) (xi x 5) (xi x 6) (xi x 7)) (J4 (xi l 8) (xi x 5) (xi x 6) (xi x 7)) (bif xi x 0 == 3 then J3 (xi l 8) (xi x 9) (xi x 10) (xi x 11) else 0) (bif xi x 0 == 3 then J4 (xi l 8) (xi x 9) (xi x 10) (xi x 11) else 0) (bif xi x 0 == 3 then xi x 12 else 0) (IntKind.i64.wrap (xi l 16 * xi l 17))
def n1:Int:= XJ (J3 (xi l 8) (xi x 2) (xi x 3) (xi x 4)) (J4 (xi l 8) (xi x 2) (xi x 3) (xi x 4)) (J3 (xi l 8) (xi x 5) (xi x 6) (xi x 7)) (J4 (xi l 8) (xi x 5) (xi x 6) (xi x 7)) (bif xi x 0 == 3 then J3 (xi l 8) (xi x 9) (xi x 10) (xi x 11) else 0) (bif xi x 0 == 3 then J4 (xi l 8) (xi x 9) (xi x 10) (xi x 11) else 0) (bif xi x 0 == 3 then xi x 12 else 0) (IntKind.i64.wrap (xi l 16 * xi l 17))
def f0:Int:= Xc (J3 (xi l 8) (xi x 2) (xi x 3) (xi x 4)) (J4 (xi l 8) (xi x 2) (xi x 3) (xi x 4)) (J3 (xi l 8) (xi x 5) (xi x 6) (xi x 7)) (J4 (xi l 8) (xi x 5) (xi x 6) (xi x 7)) (bif xi x 0 == 3 then J3 (xi l 8) (xi x 9) (xi x 10) (xi x 11) else 0) (bif xi x 0 == 3 then J4 (xi l 8) (xi x 9) (xi x 10) (xi x 11) else 0) (bif xi x 0 == 3 then xi x 12 else 0) (IntKind.i64.wrap (xi l 16 * xi l 17))
def f1:Int:= Xd (J3 (xi l 8) (xi x 2) (xi x 3) (xi x 4)) (J4 (xi l 8) (xi x 2) (xi x 3) (xi x 4)) (J3 (xi l 8) (xi x 5) (xi x 6) (xi x 7)) (J4 (xi l 8) (xi x 5) (xi x 6) (xi x 7)) (bif xi x 0 == 3 then J3 (xi l 8) (xi x 9) (xi x 10) (xi x 11) else 0) (bif xi x 0 == 3 then J4 (xi l 8) (xi x 9) (xi x 10) (xi x 11) else 0) (bif xi x 0 == 3 then xi x 12 else 0) (IntKind.i64.wrap (xi l 16 * xi l 17))
def trE:Int:= JQS (J3 (xi l 8) (xi y 2) (xi y 3) (xi y 4)) (J4 (xi l 8) (xi y 2) (xi y 3) (xi y 4)) (J3 (xi l 8) (xi y 5) (xi y 6) (xi y 7)) (J4 (xi l 8) (xi y 5) (xi y 6) (xi y 7)) (bif xi y 0 == 3 then J3 (xi l 8) (xi y 9) (xi y 10) (xi y 11) else 0) (bif xi y 0 == 3 then J4 (xi l 8) (xi y 9) (xi y 10) (xi y 11) else 0) (bif xi y 0 == 3 then xi y 12 else 0) (xi y 0 == 3 && xb y 13) (J3 (xi l 8) (xi x 2) (xi x 3) (xi x 4)) (J4 (xi l 8) (xi x 2) (xi x 3) (xi x 4)) (J3 (xi l 8) (xi x 5) (xi x 6) (xi x 7)) (J4 (xi l 8) (xi x 5) (xi x 6) (xi x 7)) (bif xi x 0 == 3 then J3 (xi l 8) (xi x 9) (xi x 10) (xi x 11) else 0) (bif xi x 0 == 3 then J4 (xi l 8) (xi x 9) (xi x 10) (xi x 11) else 0) (bif xi x 0 == 3 then xi x 12 else 0) (xi x 0 == 3 && xb x 13) (IntKind.i64.wrap (xi l 16 * xi l 17))
def tr0:Int:= JMK (J3 (xi l 8) (xi y 2) (xi y 3) (xi y 4)) (J4 (xi l 8) (xi y 2) (xi y 3) (xi y 4)) (J3 (xi l 8) (xi y 5) (xi y 6) (xi y 7)) (J4 (xi l 8) (xi y 5) (xi y 6) (xi y 7)) (bif xi y 0 == 3 then J3 (xi l 8) (xi y 9) (xi y 10) (xi y 11) else 0) (bif xi y 0 == 3 then J4 (xi l 8) (xi y 9) (xi y 10) (xi y 11) else 0) (bif xi y 0 == 3 then xi y 12 else 0) (xi y 0 == 3 && xb y 13) (J3 (xi l 8) (xi x 2) (xi x 3) (xi x 4)) (J4 (xi l 8) (xi x 2) (xi x 3) (xi x 4)) (J3 (xi l 8) (xi x 5) (xi x 6) (xi x 7)) (J4 (xi l 8) (xi x 5) (xi x 6) (xi x 7)) (bif xi x 0 == 3 then J3 (xi l 8) (xi x 9) (xi x 10) (xi x 11) else 0) (bif xi x 0 == 3 then J4 (xi l 8) (xi x 9) (xi x 10) (xi x 11) else 0) (bif xi x 0 == 3 then xi x 12 else 0) (xi x 0 == 3 && xb x 13) (IntKind.i64.wrap (xi l 16 * xi l 17))
def tr1:Int:= JMe (J3 (xi l 8) (xi y 2) (xi y 3) (xi y 4)) (J4 (xi l 8) (xi y 2) (xi y 3) (xi y 4)) (J3 (xi l 8) (xi y 5) (xi y 6) (xi y 7)) (J4 (xi l 8) (xi y 5) (xi y 6) (xi y 7)) (bif xi y 0 == 3 then J3 (xi l 8) (xi y 9) (xi y 10) (xi y 11) else 0) (bif xi y 0 == 3 then J4 (xi l 8) (xi y 9) (xi y 10) (xi y 11) else 0) (bif xi y 0 == 3 then xi y 12 else 0) (xi y 0 == 3 && xb y 13) (J3 (xi l 8) (xi x 2) (xi x 3) (xi x 4)) (J4 (xi l 8) (xi x 2) (xi x 3) (xi x 4)) (J3 (xi l 8) (xi x 5) (xi x 6) (xi x 7)) (J4 (xi l 8) (xi x 5) (xi x 6) (xi x 7)) (bif xi x 0 == 3 then J3 (xi l 8) (xi x 9) (xi x 10) (xi x 11) else 0) (bif xi x 0 == 3 then J4 (xi l 8) (xi x 9) (xi x 10) (xi x 11) else 0) (bif xi x 0 == 3 then xi x 12 else 0) (xi x 0 == 3 && xb x 13) (IntKind.i64.wrap (xi l 16 * xi l 17))
def kd:Int:= bif IntKind.i64.wrap (xi l 16 * xi l 17) == 0 then 0 else JBz (Z2 (xi y 0) (xi y 2) (xi y 3) (xi y 4) (xi y 5) (xi y 6) (xi y 7) (xi y 8) (xi y 9) (xi y 10) (xi y 11) (xi y 12) true) (Z3 (xi y 0) (xi y 2) (xi y 3) (xi y 4) (xi y 5) (xi y 6) (xi y 7) (xi y 8) (xi y 9) (xi y 10) (xi y 11) (xi y 12) true) (Z2 (xi x 0) (xi x 2) (xi x 3) (xi x 4) (xi x 5) (xi x 6) (xi x 7) (xi x 8) (xi x 9) (xi x 10) (xi x 11) (xi x 12) false) (Z3 (xi x 0) (xi x 2) (xi x 3) (xi x 4) (xi x 5) (xi x 6) (xi x 7) (xi x 8) (xi x 9) (xi x 10) (xi x 11) (xi x 12) false) (xi l 16)
def shE:Int:= Q7 u w tm (J1 s.l) (J1 s.y) s.a0 s.a1 s.tr
def shO:LL:= Zj u w tm (J1 s.l) (J1 s.y) s.a0 s.a1 s.tr []
end
section
variable (x l:List GC)
def jE:Bool:= !J5 (xi x 0) || !(xb x 13 || !(J3 (xi l 8) (xi x 2) (xi x 3) (xi x 4) == J3 (xi l 8) (xi x 5) (xi x 6) (xi x 7) && J4 (xi l 8) (xi x 2) (xi x 3) (xi x 4) == J4 (xi l 8) (xi x 5) (xi x 6) (xi x 7)))
def odd:Bool:= J5 (xi x 0) && (xi x 8 != xi l 8 || xi x 16 != xi l 16 || xi x 17 != xi l 17)
def three:Bool:= xi x 0 == 1 || xi x 0 == 11 || xi x 0 == 14
end
theorem Jtq {c:Bool} (h:(bif c then (16:Int) else 0) = 0):c = false := by
  cases c
  · rfl
  · cases h
theorem JY0 (u w:Int) (tm:Bool) (l y:List GC) (a0 a1:Int) (tr:Bool) (h:Q7 u w tm l y a0 a1 tr = 0):KP u w tm l y a0 a1 tr = u ∧ KK u w tm l y a0 a1 tr = w := by
  unfold Q7 at h
  unfold KP KK
  generalize (xi y 0 == 2) = b1 at h ⊢
  generalize ((tm || tr) && decide (kc u w l y a0 a1 ≤ 0)) = b2 at h ⊢
  generalize ((tm || tr) && !xb y 13 && !W6 u w tm (J1 l) (J1 y) a0 a1 tr) = b3 at h ⊢
  cases b1 <;> cases b2 <;> cases b3 <;> first
    | exact ⟨rfl,rfl⟩
    | exact absurd h (by show ¬ (16:Int) = 0; decide)
    | (simp only [cond_true,cond_false] at h ⊢; rw [Jtq h]; exact ⟨rfl,rfl⟩)
theorem Jjc (x:List GC) (s:St) (he:s.er = 0) (hl:J1 s.l = s.l) (hy:J1 s.y = s.y) (hc:s.cl = false) (hi:inv x s = false) (ho:s.op = false) (hm:(J5 (xi x 0) && xi x 16 != 0) = false) :
    XA x s = mvd x s ∧ Kn x s = [JHh x] := by
  unfold inv at hi
  have e2:(s.er == 0) = true := by rw [he]; rfl
  refine ⟨?_,?_⟩
  · unfold XA mvd
    simp only [Kj,ZR,JGk,JHF,JH5,JGb,JGQ,JGr,JGg,JHX,JHY,JBk,JAo,JBT,JB8,qZ,JBp,JAp,JBF,JBc,JBB,JBW,JBq,JBa,JB2,ZQ,JBg,JAu,JBt,JBE,JBH,JBR,JBI,JBn,JBM,JBQ,JBC,JBG,JBZ,jr,JBX,JAs,JB5,JBb,JB4,JBf,JAr,JB9,JAt,JBV,JAn,JAq,JAx,JAy,JB7,JBJ,JBN,JB0,KC,We,KX,Kd,Yh,KS,JEQ,JEF,JEH,JER,JEK,JEN,JEM,JEE,qi,qS,jm,jy,qX,q8,qf,jz,qq,jg,qt,jp,qj,qd,ju,qV,qY,qE,qO,jh,jl,qC,qB,qQ,qm,qk,qo,qg,qK,jw,qe,qA,qW,qp,jn,qF,ql,qM,qJ,j3,q9,jt,ji,jo,qL,Kx,Yp,YH,nx0,nx1,nx2,nx3,nx4,nx5,nx6,nx7,nx8,nx9,JNa,JO6,JN8,JNm,JNN,JNj,JOS,JO3,JOo,JOT,JNX,JNz,e2,hc,hi,cond_true,cond_false,Bool.not_false,Bool.not_true,Bool.true_and,Bool.false_and,Bool.and_false,Bool.and_true,Bool.or_false,Bool.false_or,beq_self_eq_true,bne_self_eq_false,ho,hm]
    simp only [he]
    try rw [← hl]
    try rw [← hy]
    all_goals rfl
  · unfold Kn
    simp only [Kj,KC,KX,Kd,KS,ZN,YH,nx0,nx1,nx2,nx3,nx4,nx5,nx6,nx7,nx8,nx9,JNa,JO6,JN8,JNm,JNN,JNj,JOS,JO3,JOo,JOT,JNX,JNz,e2,hc,hi,cond_true,cond_false,Bool.not_false,Bool.not_true,Bool.true_and,Bool.false_and,Bool.and_false,Bool.and_true,Bool.or_false,Bool.false_or,beq_self_eq_true,bne_self_eq_false,ho,hm]
    all_goals rfl
theorem Ji3 (x:List GC) (s:St) (he:s.er = 0) (hl:J1 s.l = s.l) (hy:J1 s.y = s.y) (hc:s.cl = false) (hi:inv x s = false) (ho:s.op = false) (hm:(J5 (xi x 0) && xi x 16 != 0) = true) (hd:JZ (J1 x) (xi x 8) (xi x 17) = true) :
    XA x s = { mvd x s with l := J1 x,y := JW7,a0 := 0,a1 := 0,tr := false,op := true,C := [] } ∧ Kn x s = [] := by
  unfold inv at hi
  have e2:(s.er == 0) = true := by rw [he]; rfl
  refine ⟨?_,?_⟩
  · unfold XA mvd
    simp only [JMk,Jdz,JeF,Jer,Je7,Jep,Je0,JdV,JdE,Jey,JZy,JY3,JZE,JYP,JUz,JYZ,JYb,JVQ,JWr,JY4,JVh,JZD,JX7,JYU,JV7,JZ3,JZg,JX9,JYr,JWJ,JZH,JV4,JWT,JZw,JYw,Ja9,JVH,JW9,JZl,JZC,JaF,JVE,JUt,JaH,JX0,JIU,Ja7,JZW,JHu,Kj,ZR,JGk,JHF,JH5,JGb,JGQ,JGr,JGg,JHX,JHY,JBk,JAo,JBT,JB8,qZ,JBp,JAp,JBF,JBc,JBB,JBW,JBq,JBa,JB2,ZQ,JBg,JAu,JBt,JBE,JBH,JBR,JBI,JBn,JBM,JBQ,JBC,JBG,JBZ,jr,JBX,JAs,JB5,JBb,JB4,JBf,JAr,JB9,JAt,JBV,JAn,JAq,JAx,JAy,JB7,JBJ,JBN,JB0,KC,We,KX,Kd,Yh,KS,JEQ,JEF,JEH,JER,JEK,JEN,JEM,JEE,qi,qS,jm,jy,qX,q8,qf,jz,qq,jg,qt,jp,qj,qd,ju,qV,qY,qE,qO,jh,jl,qC,qB,qQ,qm,qk,qo,qg,qK,jw,qe,qA,qW,qp,jn,qF,ql,qM,qJ,j3,q9,jt,ji,jo,qL,Kx,Yp,YH,nx0,nx1,nx2,nx3,nx4,nx5,nx6,nx7,nx8,nx9,JNa,JO6,JN8,JNm,JNN,JNj,JOS,JO3,JOo,JOT,JNX,JNz,e2,hc,hi,cond_true,cond_false,Bool.not_false,Bool.not_true,Bool.true_and,Bool.false_and,Bool.and_false,Bool.and_true,Bool.or_false,Bool.false_or,beq_self_eq_true,bne_self_eq_false,ho,hm,hd]
    simp only [he]
    try rw [← hl]
    try rw [← hy]
    all_goals rfl
  · unfold Kn
    simp only [JMk,Kj,KC,KX,Kd,KS,ZN,YH,nx0,nx1,nx2,nx3,nx4,nx5,nx6,nx7,nx8,nx9,JNa,JO6,JN8,JNm,JNN,JNj,JOS,JO3,JOo,JOT,JNX,JNz,e2,hc,hi,cond_true,cond_false,Bool.not_false,Bool.not_true,Bool.true_and,Bool.false_and,Bool.and_false,Bool.and_true,Bool.or_false,Bool.false_or,beq_self_eq_true,bne_self_eq_false,ho,hm,hd]
    all_goals rfl
theorem Jiq (x:List GC) (s:St) (he:s.er = 0) (hl:J1 s.l = s.l) (hy:J1 s.y = s.y) (hc:s.cl = false) (hi:inv x s = false) (ho:s.op = true) (hm:(J5 (xi x 0) && xi x 16 == 0) = false) (h3:three x = false) (hd:odd x s.l = false) (hs:jE x s.l = true) (hn:(Int.ofNat s.C.length == 8) = false) :
    XA x s = { mvd x s with C := s.C ++ [JHh x] } ∧ Kn x s = [] := by
  unfold inv at hi
  have e2:(s.er == 0) = true := by rw [he]; rfl
  unfold three at h3
  unfold odd at hd
  unfold jE at hs
  refine ⟨?_,?_⟩
  · unfold XA mvd
    simp only [Wv,ZC,JFR,JFJ,JGB,JF1,JG3,JFO,JFr,JEr,JFZ,JF2,JG6,JEf,JFB,JCM,JEi,JG1,JEl,JFz,JFt,JFh,JFj,JFQ,JFi,JFs,JGC,JFn,Y0,zA,WA,W8,W7,WC,Kj,ZR,JGk,JHF,JH5,JGb,JGQ,JGr,JGg,JHX,JHY,JBk,JAo,JBT,JB8,qZ,JBp,JAp,JBF,JBc,JBB,JBW,JBq,JBa,JB2,ZQ,JBg,JAu,JBt,JBE,JBH,JBR,JBI,JBn,JBM,JBQ,JBC,JBG,JBZ,jr,JBX,JAs,JB5,JBb,JB4,JBf,JAr,JB9,JAt,JBV,JAn,JAq,JAx,JAy,JB7,JBJ,JBN,JB0,KC,We,KX,Kd,Yh,KS,JEQ,JEF,JEH,JER,JEK,JEN,JEM,JEE,qi,qS,jm,jy,qX,q8,qf,jz,qq,jg,qt,jp,qj,qd,ju,qV,qY,qE,qO,jh,jl,qC,qB,qQ,qm,qk,qo,qg,qK,jw,qe,qA,qW,qp,jn,qF,ql,qM,qJ,j3,q9,jt,ji,jo,qL,Kx,Yp,JCg,JD9,JCe,JCY,Yu,jD,jC,Km,YH,nx0,nx1,nx2,nx3,nx4,nx5,nx6,nx7,nx8,nx9,JNa,JO6,JN8,JNm,JNN,JNj,JOS,JO3,JOo,JOT,JNX,JNz,e2,hc,hi,cond_true,cond_false,Bool.not_false,Bool.not_true,Bool.true_and,Bool.false_and,Bool.and_false,Bool.and_true,Bool.or_false,Bool.false_or,beq_self_eq_true,bne_self_eq_false,ho,hm,h3,hd,hs,hn]
    simp only [he]
    try rw [← hl]
    try rw [← hy]
    all_goals rfl
  · unfold Kn
    simp only [Wv,Y0,WA,W8,W7,WC,Kj,KC,KX,Kd,KS,JCg,JD9,JCe,JCY,Yu,jD,jC,Km,ZN,YH,nx0,nx1,nx2,nx3,nx4,nx5,nx6,nx7,nx8,nx9,JNa,JO6,JN8,JNm,JNN,JNj,JOS,JO3,JOo,JOT,JNX,JNz,e2,hc,hi,cond_true,cond_false,Bool.not_false,Bool.not_true,Bool.true_and,Bool.false_and,Bool.and_false,Bool.and_true,Bool.or_false,Bool.false_or,beq_self_eq_true,bne_self_eq_false,ho,hm,h3,hd,hs,hn]
    all_goals rfl
theorem Jix (x:List GC) (s:St) (he:s.er = 0) (hl:J1 s.l = s.l) (hy:J1 s.y = s.y) (hc:s.cl = false) (hi:inv x s = false) (ho:s.op = true) (hm:(J5 (xi x 0) && xi x 16 == 0) = false) (h3:three x = false) (hd:odd x s.l = false) (hs:jE x s.l = false) (h0:(xi s.y 0 == 0) = true) (hE:nE s.l x = 0) :
    XA x s = { mvd x s with y := J1 x,a0 := n0 s.l x,a1 := n1 s.l x,C := [] } ∧ Kn x s = QT (J1 s.l) (n0 s.l x) (n1 s.l x) s.C (Zq (J1 s.l) (n0 s.l x) (n1 s.l x) (J9 (xi s.l 8) (xi s.l 2) (xi s.l 3) (xi s.l 4)) (J9 (xi s.l 8) (xi s.l 2) (xi s.l 3) (xi s.l 4)) true (J1 s.l) (J3 (xi s.l 8) (xi s.l 2) (xi s.l 3) (xi s.l 4)) (J4 (xi s.l 8) (xi s.l 2) (xi s.l 3) (xi s.l 4)) []) := by
  unfold inv at hi
  have e2:(s.er == 0) = true := by rw [he]; rfl
  unfold three at h3
  unfold odd at hd
  unfold jE at hs
  unfold nE at hE
  refine ⟨?_,?_⟩
  · unfold XA mvd
    simp only [JO4,JO5,Zm,JYJ,JYo,JZq,JXT,JXk,JXh,JWq,JWj,JYu,JXP,JZa,JX6,JVI,JOm,JYt,JWa,JUu,JWv,JZO,JYL,JXW,JXd,JZK,Y8,Y3,Y5,JYe,JVt,JMp,JN9,JFM,JIa,Wv,ZC,JFR,JFJ,JGB,JF1,JG3,JFO,JFr,JEr,JFZ,JF2,JG6,JEf,JFB,JCM,JEi,JG1,JEl,JFz,JFt,JFh,JFj,JFQ,JFi,JFs,JGC,JFn,Y0,zA,WA,W8,W7,WC,Kj,ZR,JGk,JHF,JH5,JGb,JGQ,JGr,JGg,JHX,JHY,JBk,JAo,JBT,JB8,qZ,JBp,JAp,JBF,JBc,JBB,JBW,JBq,JBa,JB2,ZQ,JBg,JAu,JBt,JBE,JBH,JBR,JBI,JBn,JBM,JBQ,JBC,JBG,JBZ,jr,JBX,JAs,JB5,JBb,JB4,JBf,JAr,JB9,JAt,JBV,JAn,JAq,JAx,JAy,JB7,JBJ,JBN,JB0,KC,We,KX,Kd,Yh,KS,JEQ,JEF,JEH,JER,JEK,JEN,JEM,JEE,qi,qS,jm,jy,qX,q8,qf,jz,qq,jg,qt,jp,qj,qd,ju,qV,qY,qE,qO,jh,jl,qC,qB,qQ,qm,qk,qo,qg,qK,jw,qe,qA,qW,qp,jn,qF,ql,qM,qJ,j3,q9,jt,ji,jo,qL,Kx,Yp,JCg,JD9,JCe,JCY,Yu,jD,jC,Km,YH,nx0,nx1,nx2,nx3,nx4,nx5,nx6,nx7,nx8,nx9,JNa,JO6,JN8,JNm,JNN,JNj,JOS,JO3,JOo,JOT,JNX,JNz,e2,hc,hi,cond_true,cond_false,Bool.not_false,Bool.not_true,Bool.true_and,Bool.false_and,Bool.and_false,Bool.and_true,Bool.or_false,Bool.false_or,beq_self_eq_true,bne_self_eq_false,ho,hm,h3,hd,hs,h0,hE]
    simp only [he]
    try rw [← hl]
    try rw [← hy]
    all_goals kernel_rfl
  · unfold Kn
    simp only [JO4,JO5,Y8,Y3,Y5,JMp,JN9,JFM,Wv,Y0,WA,W8,W7,WC,Kj,KC,KX,Kd,KS,JCg,JD9,JCe,JCY,Yu,jD,jC,Km,ZN,YH,nx0,nx1,nx2,nx3,nx4,nx5,nx6,nx7,nx8,nx9,JNa,JO6,JN8,JNm,JNN,JNj,JOS,JO3,JOo,JOT,JNX,JNz,e2,hc,hi,cond_true,cond_false,Bool.not_false,Bool.not_true,Bool.true_and,Bool.false_and,Bool.and_false,Bool.and_true,Bool.or_false,Bool.false_or,beq_self_eq_true,bne_self_eq_false,ho,hm,h3,hd,hs,h0,hE]
    all_goals kernel_rfl
theorem JfR (x:List GC) (s:St) (he:s.er = 0) (hl:J1 s.l = s.l) (hy:J1 s.y = s.y) (hc:s.cl = false) (hi:inv x s = false) (ho:s.op = true) (hm:(J5 (xi x 0) && xi x 16 == 0) = false) (h3:three x = false) (hd:odd x s.l = false) (hs:jE x s.l = false) (h0:(xi s.y 0 == 0) = false) (hk:(kd s.l s.y x == 2) = true) (hE:trE s.l s.y x = 0) (hS:shE (tr0 s.l s.y x) (tr1 s.l s.y x) true s = 0) :
    XA x s = { mvd x s with y := J1 x,a0 := tr0 s.l s.y x,a1 := tr1 s.l s.y x,tr := true,C := [] } ∧ Kn x s = QT (J1 s.l) (tr0 s.l s.y x) (tr1 s.l s.y x) s.C (shO (tr0 s.l s.y x) (tr1 s.l s.y x) true s) := by
  unfold inv at hi
  have e2:(s.er == 0) = true := by rw [he]; rfl
  unfold three at h3
  unfold odd at hd
  unfold jE at hs
  unfold kd at hk
  unfold trE at hE
  unfold shE at hS
  obtain ⟨hs1,hs2⟩ := JY0 _ _ _ _ _ _ _ _ hS
  unfold tr0 tr1 at hS hs1 hs2
  refine ⟨?_,?_⟩
  · unfold XA mvd
    simp only [X6,X7,Qi,YL,KZ,Kb,Zd,JJy,JEs,Qy,JFo,JM1,XH,JUC,JUG,JUT,JUf,JUB,JU7,JU1,JU4,JU6,JUR,JUZ,JUh,JUH,JNT,JUo,JUj,JU5,JUQ,JUD,JUm,JUg,JUe,JUU,Xn,Xp,Zn,Zp,JG9,JUS,JGF,JUk,JUa,JFv,JDZ,JJi,Wv,ZC,JFR,JFJ,JGB,JF1,JG3,JFO,JFr,JEr,JFZ,JF2,JG6,JEf,JFB,JCM,JEi,JG1,JEl,JFz,JFt,JFh,JFj,JFQ,JFi,JFs,JGC,JFn,Y0,zA,WA,W8,W7,WC,Kj,ZR,JGk,JHF,JH5,JGb,JGQ,JGr,JGg,JHX,JHY,JBk,JAo,JBT,JB8,qZ,JBp,JAp,JBF,JBc,JBB,JBW,JBq,JBa,JB2,ZQ,JBg,JAu,JBt,JBE,JBH,JBR,JBI,JBn,JBM,JBQ,JBC,JBG,JBZ,jr,JBX,JAs,JB5,JBb,JB4,JBf,JAr,JB9,JAt,JBV,JAn,JAq,JAx,JAy,JB7,JBJ,JBN,JB0,KC,We,KX,Kd,Yh,KS,JEQ,JEF,JEH,JER,JEK,JEN,JEM,JEE,qi,qS,jm,jy,qX,q8,qf,jz,qq,jg,qt,jp,qj,qd,ju,qV,qY,qE,qO,jh,jl,qC,qB,qQ,qm,qk,qo,qg,qK,jw,qe,qA,qW,qp,jn,qF,ql,qM,qJ,j3,q9,jt,ji,jo,qL,Kx,Yp,JCg,JD9,JCe,JCY,Yu,jD,jC,Km,YH,nx0,nx1,nx2,nx3,nx4,nx5,nx6,nx7,nx8,nx9,JNa,JO6,JN8,JNm,JNN,JNj,JOS,JO3,JOo,JOT,JNX,JNz,e2,hc,hi,cond_true,cond_false,Bool.not_false,Bool.not_true,Bool.true_and,Bool.false_and,Bool.and_false,Bool.and_true,Bool.or_false,Bool.false_or,beq_self_eq_true,bne_self_eq_false,ho,hm,h3,hd,hs,h0,hk,hE,hS,hs1,hs2]
    simp only [he]
    try rw [← hl]
    try rw [← hy]
    all_goals kernel_rfl
  · unfold Kn
    simp only [X6,X7,Qi,YL,KZ,Kb,Zd,JJy,JEs,Qy,JFo,JM1,Xn,Xp,Zn,Zp,JG9,JGF,JFv,JDZ,Wv,Y0,WA,W8,W7,WC,Kj,KC,KX,Kd,KS,JCg,JD9,JCe,JCY,Yu,jD,jC,Km,ZN,YH,nx0,nx1,nx2,nx3,nx4,nx5,nx6,nx7,nx8,nx9,JNa,JO6,JN8,JNm,JNN,JNj,JOS,JO3,JOo,JOT,JNX,JNz,e2,hc,hi,cond_true,cond_false,Bool.not_false,Bool.not_true,Bool.true_and,Bool.false_and,Bool.and_false,Bool.and_true,Bool.or_false,Bool.false_or,beq_self_eq_true,bne_self_eq_false,ho,hm,h3,hd,hs,h0,hk,hE,hS,hs1,hs2]
    all_goals kernel_rfl
theorem JeP (x:List GC) (s:St) (he:s.er = 0) (hl:J1 s.l = s.l) (hy:J1 s.y = s.y) (hc:s.cl = false) (hi:inv x s = false) (ho:s.op = true) (hm:(J5 (xi x 0) && xi x 16 == 0) = false) (h3:three x = false) (hd:odd x s.l = false) (hs:jE x s.l = false) (h0:(xi s.y 0 == 0) = false) (hk:(kd s.l s.y x == 2) = false) (hE:nE s.l s.y = 0) (hF:nE s.l x = 0) (hS:shE (f0 s.l s.y) (f1 s.l s.y) false s = 0) :
    XA x s = { mvd x s with y := J1 x,a0 := n0 s.l x,a1 := n1 s.l x,tr := false,C := [] } ∧ Kn x s = j0 (J1 x) (n0 s.l x) (n1 s.l x) (kd s.l s.y x == 1) (J1 s.l) (f0 s.l s.y) (f1 s.l s.y) (QT (J1 s.l) (f0 s.l s.y) (f1 s.l s.y) s.C (shO (f0 s.l s.y) (f1 s.l s.y) false s)) := by
  unfold inv at hi
  have e2:(s.er == 0) = true := by rw [he]; rfl
  unfold three at h3
  unfold odd at hd
  unfold jE at hs
  unfold kd at hk
  unfold nE at hE
  unfold nE at hF
  unfold shE at hS
  obtain ⟨hs1,hs2⟩ := JY0 _ _ _ _ _ _ _ _ hS
  unfold f0 f1 at hS hs1 hs2
  refine ⟨?_,?_⟩
  · unfold XA mvd
    simp only [X6,X7,Qi,YL,KZ,Kb,Zd,JJy,JEs,Qy,JFo,JM1,XH,JUC,JUG,JUT,JUf,JUB,JU7,JU1,JU4,JU6,JUR,JUZ,JUh,JUH,JNT,JUo,JUj,JU5,JUQ,JUD,JUm,JUg,JUe,JUU,Xn,Xp,Zn,Zp,JG9,JUS,JGF,JUk,JUa,JFv,JDZ,JJi,Wv,ZC,JFR,JFJ,JGB,JF1,JG3,JFO,JFr,JEr,JFZ,JF2,JG6,JEf,JFB,JCM,JEi,JG1,JEl,JFz,JFt,JFh,JFj,JFQ,JFi,JFs,JGC,JFn,Y0,zA,WA,W8,W7,WC,Kj,ZR,JGk,JHF,JH5,JGb,JGQ,JGr,JGg,JHX,JHY,JBk,JAo,JBT,JB8,qZ,JBp,JAp,JBF,JBc,JBB,JBW,JBq,JBa,JB2,ZQ,JBg,JAu,JBt,JBE,JBH,JBR,JBI,JBn,JBM,JBQ,JBC,JBG,JBZ,jr,JBX,JAs,JB5,JBb,JB4,JBf,JAr,JB9,JAt,JBV,JAn,JAq,JAx,JAy,JB7,JBJ,JBN,JB0,KC,We,KX,Kd,Yh,KS,JEQ,JEF,JEH,JER,JEK,JEN,JEM,JEE,qi,qS,jm,jy,qX,q8,qf,jz,qq,jg,qt,jp,qj,qd,ju,qV,qY,qE,qO,jh,jl,qC,qB,qQ,qm,qk,qo,qg,qK,jw,qe,qA,qW,qp,jn,qF,ql,qM,qJ,j3,q9,jt,ji,jo,qL,Kx,Yp,JCg,JD9,JCe,JCY,Yu,jD,jC,Km,YH,nx0,nx1,nx2,nx3,nx4,nx5,nx6,nx7,nx8,nx9,JNa,JO6,JN8,JNm,JNN,JNj,JOS,JO3,JOo,JOT,JNX,JNz,e2,hc,hi,cond_true,cond_false,Bool.not_false,Bool.not_true,Bool.true_and,Bool.false_and,Bool.and_false,Bool.and_true,Bool.or_false,Bool.false_or,beq_self_eq_true,bne_self_eq_false,ho,hm,h3,hd,hs,h0,hk,hE,hF,hS,hs1,hs2]
    simp only [he]
    try rw [← hl]
    try rw [← hy]
    all_goals kernel_rfl
  · unfold Kn
    simp only [X6,X7,Qi,YL,KZ,Kb,Zd,JJy,JEs,Qy,JFo,JM1,Xn,Xp,Zn,Zp,JG9,JGF,JFv,JDZ,Wv,Y0,WA,W8,W7,WC,Kj,KC,KX,Kd,KS,JCg,JD9,JCe,JCY,Yu,jD,jC,Km,ZN,YH,nx0,nx1,nx2,nx3,nx4,nx5,nx6,nx7,nx8,nx9,JNa,JO6,JN8,JNm,JNN,JNj,JOS,JO3,JOo,JOT,JNX,JNz,e2,hc,hi,cond_true,cond_false,Bool.not_false,Bool.not_true,Bool.true_and,Bool.false_and,Bool.and_false,Bool.and_true,Bool.or_false,Bool.false_or,beq_self_eq_true,bne_self_eq_false,ho,hm,h3,hd,hs,h0,hk,hE,hF,hS,hs1,hs2]
    all_goals kernel_rfl
theorem Jfz (x:List GC) (s:St) (he:s.er = 0) (hl:J1 s.l = s.l) (hy:J1 s.y = s.y) (hc:s.cl = false) (hi:inv x s = false) (ho:s.op = true) (hm:(J5 (xi x 0) && xi x 16 == 0) = true) (hd:(!JZ (J1 x) (xi s.l 8) (xi s.l 17) || xi s.y 0 == 0) = false) (hE:nE s.l s.y = 0) (hS:shE (f0 s.l s.y) (f1 s.l s.y) false s = 0) :
    XA x s = { mvd x s with l := JW7,y := JW7,a0 := 0,a1 := 0,tr := false,op := false,C := [] } ∧ Kn x s = Zq (J1 x) (J3 (xi s.l 8) (xi x 5) (xi x 6) (xi x 7)) (J4 (xi s.l 8) (xi x 5) (xi x 6) (xi x 7)) (J9 (xi s.l 8) (xi x 5) (xi x 6) (xi x 7)) (J9 (xi s.l 8) (xi x 5) (xi x 6) (xi x 7)) true (J1 s.l) (f0 s.l s.y) (f1 s.l s.y) (QT (J1 s.l) (f0 s.l s.y) (f1 s.l s.y) s.C (shO (f0 s.l s.y) (f1 s.l s.y) false s)) := by
  unfold inv at hi
  have e2:(s.er == 0) = true := by rw [he]; rfl
  unfold nE at hE
  unfold shE at hS
  obtain ⟨hs1,hs2⟩ := JY0 _ _ _ _ _ _ _ _ hS
  unfold f0 f1 at hS hs1 hs2
  refine ⟨?_,?_⟩
  · unfold XA mvd
    simp only [jJ,jV,jc,QO,JKG,JJ8,Z7,JWH,JYD,JVG,JY8,JVr,JWA,JXr,JWu,JXn,JRH,JQW,JPu,JS5,JK6,JRG,JPO,JQV,JPX,JOx,JRQ,JOt,JS3,JR7,Z9,JQh,JPr,JRV,JQk,JQ3,JRo,JR4,JQM,JQt,JRa,JQN,JQ8,JRv,JJu,JRL,JRN,JPm,JQ4,JRm,JQZ,JQ7,JQB,JQH,ZT,ZS,JPd,JRh,JRi,JS8,JBx,JFL,Kj,ZR,JGk,JHF,JH5,JGb,JGQ,JGr,JGg,JHX,JHY,JBk,JAo,JBT,JB8,qZ,JBp,JAp,JBF,JBc,JBB,JBW,JBq,JBa,JB2,ZQ,JBg,JAu,JBt,JBE,JBH,JBR,JBI,JBn,JBM,JBQ,JBC,JBG,JBZ,jr,JBX,JAs,JB5,JBb,JB4,JBf,JAr,JB9,JAt,JBV,JAn,JAq,JAx,JAy,JB7,JBJ,JBN,JB0,KC,We,KX,Kd,Yh,KS,JEQ,JEF,JEH,JER,JEK,JEN,JEM,JEE,qi,qS,jm,jy,qX,q8,qf,jz,qq,jg,qt,jp,qj,qd,ju,qV,qY,qE,qO,jh,jl,qC,qB,qQ,qm,qk,qo,qg,qK,jw,qe,qA,qW,qp,jn,qF,ql,qM,qJ,j3,q9,jt,ji,jo,qL,Kx,Yp,JCg,JD9,JCe,JCY,Yu,jD,jC,Km,YH,nx0,nx1,nx2,nx3,nx4,nx5,nx6,nx7,nx8,nx9,JNa,JO6,JN8,JNm,JNN,JNj,JOS,JO3,JOo,JOT,JNX,JNz,e2,hc,hi,cond_true,cond_false,Bool.not_false,Bool.not_true,Bool.true_and,Bool.false_and,Bool.and_false,Bool.and_true,Bool.or_false,Bool.false_or,beq_self_eq_true,bne_self_eq_false,ho,hm,hd,hE,hS,hs1,hs2]
    simp only [he]
    try rw [← hl]
    try rw [← hy]
    all_goals kernel_rfl
  · unfold Kn
    simp only [jJ,jV,jc,QO,JKG,JJ8,ZT,ZS,JBx,Kj,KC,KX,Kd,KS,JCg,JD9,JCe,JCY,Yu,jD,jC,Km,ZN,YH,nx0,nx1,nx2,nx3,nx4,nx5,nx6,nx7,nx8,nx9,JNa,JO6,JN8,JNm,JNN,JNj,JOS,JO3,JOo,JOT,JNX,JNz,e2,hc,hi,cond_true,cond_false,Bool.not_false,Bool.not_true,Bool.true_and,Bool.false_and,Bool.and_false,Bool.and_true,Bool.or_false,Bool.false_or,beq_self_eq_true,bne_self_eq_false,ho,hm,hd,hE,hS,hs1,hs2]
    all_goals kernel_rfl
def Jti (x:List GC) (s:St):Int :=
  bif s.cl then 13 else bif inv x s then 1 else
  bif !s.op && J5 (xi x 0) && xi x 16 != 0 then (bif !JZ (J1 x) (xi x 8) (xi x 17) then 14 else 0)
  else bif !s.op then 0
  else bif J5 (xi x 0) && xi x 16 == 0 then
    (bif !JZ (J1 x) (xi s.l 8) (xi s.l 17) || xi s.y 0 == 0 then 14 else
      bif nE s.l s.y == 0 then (bif shE (f0 s.l s.y) (f1 s.l s.y) false s != 0 then shE (f0 s.l s.y) (f1 s.l s.y) false s else 0) else (bif nE s.l s.y != 0 then nE s.l s.y else 0))
  else bif three x then 13 else bif odd x s.l then 13
  else bif jE x s.l then (bif Int.ofNat s.C.length == 8 then 10 else 0)
  else bif xi s.y 0 == 0 then (bif nE s.l x != 0 then nE s.l x else 0)
  else bif kd s.l s.y x == 2 then
    (bif trE s.l s.y x == 0 then (bif shE (tr0 s.l s.y x) (tr1 s.l s.y x) true s != 0 then shE (tr0 s.l s.y x) (tr1 s.l s.y x) true s else 0) else (bif trE s.l s.y x != 0 then trE s.l s.y x else 0))
  else (bif nE s.l s.y != 0 then nE s.l s.y else
    bif nE s.l x == 0 then (bif shE (f0 s.l s.y) (f1 s.l s.y) false s != 0 then shE (f0 s.l s.y) (f1 s.l s.y) false s else 0) else (bif nE s.l x != 0 then nE s.l x else 0))
theorem JZ6 (x:List GC) (s:St) (he:s.er = 0):Ye x s = Jti x s := by
  unfold Ye
  rw [JRp]
  unfold Kx
  rw [he,beq_self_eq_true,cond_true]
  kernel_rfl
theorem jv {c:Bool} {a b:Int} (ha:a ≠ 0) (h:(bif c then a else b) = 0):c = false ∧ b = 0 := by
  cases c
  · exact ⟨rfl,h⟩
  · exact absurd h ha
theorem JtA {a:Int} (h:(bif a != 0 then a else 0) = 0):a = 0 := by
  cases ha:(a != 0)
  · simpa using ha
  · rw [ha] at h; exact h
theorem Jkr {a b:Int} (h:(bif a == 0 then (bif b != 0 then b else 0) else (bif a != 0 then a else 0)) = 0):a = 0 ∧ b = 0 := by
  cases ha:(a == 0)
  · rw [ha] at h
    have := JtA h
    rw [this] at ha; cases ha
  · rw [ha] at h
    exact ⟨by simpa using ha,JtA h⟩
theorem JjV (x:List GC) (s:St) (he:s.er = 0) (h:Ye x s = 0):s.cl = false ∧ inv x s = false ∧
    ((s.op = false ∧ (J5 (xi x 0) && xi x 16 != 0) = false) ∨
     (s.op = false ∧ (J5 (xi x 0) && xi x 16 != 0) = true ∧ JZ (J1 x) (xi x 8) (xi x 17) = true) ∨
     (s.op = true ∧ (J5 (xi x 0) && xi x 16 == 0) = true ∧ (!JZ (J1 x) (xi s.l 8) (xi s.l 17) || xi s.y 0 == 0) = false ∧ nE s.l s.y = 0 ∧ shE (f0 s.l s.y) (f1 s.l s.y) false s = 0) ∨
     (s.op = true ∧ (J5 (xi x 0) && xi x 16 == 0) = false ∧ three x = false ∧ odd x s.l = false ∧
       ((jE x s.l = true ∧ (Int.ofNat s.C.length == 8) = false) ∨
        (jE x s.l = false ∧ (xi s.y 0 == 0) = true ∧ nE s.l x = 0) ∨
        (jE x s.l = false ∧ (xi s.y 0 == 0) = false ∧ (kd s.l s.y x == 2) = true ∧ trE s.l s.y x = 0 ∧ shE (tr0 s.l s.y x) (tr1 s.l s.y x) true s = 0) ∨
        (jE x s.l = false ∧ (xi s.y 0 == 0) = false ∧ (kd s.l s.y x == 2) = false ∧ nE s.l s.y = 0 ∧ nE s.l x = 0 ∧ shE (f0 s.l s.y) (f1 s.l s.y) false s = 0)))) := by
  rw [JZ6 x s he] at h
  unfold Jti at h
  obtain ⟨h1,h⟩ := jv (by decide) h
  obtain ⟨h2,h⟩ := jv (by decide) h
  refine ⟨h1,h2,?_⟩
  cases ho:s.op
  · rw [ho] at h
    simp only [Bool.not_false,Bool.true_and,cond_true] at h
    cases hm:(J5 (xi x 0) && xi x 16 != 0)
    · exact .inl ⟨rfl,rfl⟩
    · rw [hm,cond_true] at h
      obtain ⟨h3,_⟩ := jv (by decide) h
      exact .inr (.inl ⟨rfl,rfl,by simpa using h3⟩)
  · rw [ho] at h
    simp only [Bool.not_true,Bool.false_and,cond_false] at h
    cases hm:(J5 (xi x 0) && xi x 16 == 0)
    · rw [hm,cond_false] at h
      obtain ⟨h3,h⟩ := jv (by decide) h
      obtain ⟨h4,h⟩ := jv (by decide) h
      refine .inr (.inr (.inr ⟨rfl,rfl,h3,h4,?_⟩))
      cases hs:jE x s.l
      · rw [hs,cond_false] at h
        cases h0:(xi s.y 0 == 0)
        · rw [h0,cond_false] at h
          cases hk:(kd s.l s.y x == 2)
          · rw [hk,cond_false] at h
            have hn:nE s.l s.y = 0 := by
              cases hn:(nE s.l s.y != 0)
              · simpa using hn
              · rw [hn,cond_true] at h; exact h
            rw [hn,bne_self_eq_false,cond_false] at h
            obtain ⟨h5,h6⟩ := Jkr h
            exact .inr (.inr (.inr ⟨rfl,rfl,rfl,hn,h5,h6⟩))
          · rw [hk,cond_true] at h
            obtain ⟨h5,h6⟩ := Jkr h
            exact .inr (.inr (.inl ⟨rfl,rfl,rfl,h5,h6⟩))
        · rw [h0,cond_true] at h
          exact .inr (.inl ⟨rfl,rfl,JtA h⟩)
      · rw [hs,cond_true] at h
        obtain ⟨h5,_⟩ := jv (by decide) h
        exact .inl ⟨rfl,h5⟩
    · rw [hm,cond_true] at h
      obtain ⟨h3,h⟩ := jv (by decide) h
      obtain ⟨h5,h6⟩ := Jkr h
      exact .inr (.inr (.inl ⟨rfl,rfl,h3,h5,h6⟩))
structure Rt where
  cl:Bool
  op:Bool
  er:Int
  mo:Bool
  en:Bool
  la0:Int
  la1:Int
  la2:Int
  l:List GC
  has:Bool
  y:List GC
  st0:Int
  st1:Int
  tr:Bool
  pn0:Int
  pn1:Int
  C:LL
section
variable (x l y:List GC) (t:Rt)
def rS:Rt:=
  ⟨(JBL x t.cl t.op t.er t.mo t.en t.la0 t.la1 t.la2 (J1 t.l) t.has (J1 t.y) t.st0 t.st1 t.tr t.C),(JBD x t.cl t.op t.er t.mo t.en t.la0 t.la1 t.la2 (J1 t.l) t.has (J1 t.y) t.st0 t.st1 t.tr t.C),(qh x t.cl t.op t.er t.mo t.en t.la0 t.la1 t.la2 (J1 t.l) t.has (J1 t.y) t.st0 t.st1 t.tr t.C),(JDH x t.cl t.op t.er t.mo t.en t.la0 t.la1 t.la2 (J1 t.l) t.has (J1 t.y) t.st0 t.st1 t.tr t.C),(JDi x t.cl t.op t.er t.mo t.en t.la0 t.la1 t.la2 (J1 t.l) t.has (J1 t.y) t.st0 t.st1 t.tr t.C),(JDp x t.cl t.op t.er t.mo t.en t.la0 t.la1 t.la2 (J1 t.l) t.has (J1 t.y) t.st0 t.st1 t.tr t.C),(JDP x t.cl t.op t.er t.mo t.en t.la0 t.la1 t.la2 (J1 t.l) t.has (J1 t.y) t.st0 t.st1 t.tr t.C),(JDe x t.cl t.op t.er t.mo t.en t.la0 t.la1 t.la2 (J1 t.l) t.has (J1 t.y) t.st0 t.st1 t.tr t.C),
   [.i ((zf x t.cl t.op t.er t.mo t.en t.la0 t.la1 t.la2 (J1 t.l) t.has (J1 t.y) t.st0 t.st1 t.tr t.C)),.i ((qz x t.cl t.op t.er t.mo t.en t.la0 t.la1 t.la2 (J1 t.l) t.has (J1 t.y) t.st0 t.st1 t.tr t.C)),.i ((zy x t.cl t.op t.er t.mo t.en t.la0 t.la1 t.la2 (J1 t.l) t.has (J1 t.y) t.st0 t.st1 t.tr t.C)),.i ((JAO x t.cl t.op t.er t.mo t.en t.la0 t.la1 t.la2 (J1 t.l) t.has (J1 t.y) t.st0 t.st1 t.tr t.C)),.i ((JAN x t.cl t.op t.er t.mo t.en t.la0 t.la1 t.la2 (J1 t.l) t.has (J1 t.y) t.st0 t.st1 t.tr t.C)),.i ((ke x t.cl t.op t.er t.mo t.en t.la0 t.la1 t.la2 (J1 t.l) t.has (J1 t.y) t.st0 t.st1 t.tr t.C)),.i ((kb x t.cl t.op t.er t.mo t.en t.la0 t.la1 t.la2 (J1 t.l) t.has (J1 t.y) t.st0 t.st1 t.tr t.C)),.i ((kF x t.cl t.op t.er t.mo t.en t.la0 t.la1 t.la2 (J1 t.l) t.has (J1 t.y) t.st0 t.st1 t.tr t.C)),.i ((kt x t.cl t.op t.er t.mo t.en t.la0 t.la1 t.la2 (J1 t.l) t.has (J1 t.y) t.st0 t.st1 t.tr t.C)),.i ((kK x t.cl t.op t.er t.mo t.en t.la0 t.la1 t.la2 (J1 t.l) t.has (J1 t.y) t.st0 t.st1 t.tr t.C)),.i ((ko x t.cl t.op t.er t.mo t.en t.la0 t.la1 t.la2 (J1 t.l) t.has (J1 t.y) t.st0 t.st1 t.tr t.C)),.i ((JAM x t.cl t.op t.er t.mo t.en t.la0 t.la1 t.la2 (J1 t.l) t.has (J1 t.y) t.st0 t.st1 t.tr t.C)),.i ((kZ x t.cl t.op t.er t.mo t.en t.la0 t.la1 t.la2 (J1 t.l) t.has (J1 t.y) t.st0 t.st1 t.tr t.C)),.b ((zE x t.cl t.op t.er t.mo t.en t.la0 t.la1 t.la2 (J1 t.l) t.has (J1 t.y) t.st0 t.st1 t.tr t.C)),.i ((kH x t.cl t.op t.er t.mo t.en t.la0 t.la1 t.la2 (J1 t.l) t.has (J1 t.y) t.st0 t.st1 t.tr t.C)),.b ((kf x t.cl t.op t.er t.mo t.en t.la0 t.la1 t.la2 (J1 t.l) t.has (J1 t.y) t.st0 t.st1 t.tr t.C)),.i ((z9 x t.cl t.op t.er t.mo t.en t.la0 t.la1 t.la2 (J1 t.l) t.has (J1 t.y) t.st0 t.st1 t.tr t.C)),.i ((JAd x t.cl t.op t.er t.mo t.en t.la0 t.la1 t.la2 (J1 t.l) t.has (J1 t.y) t.st0 t.st1 t.tr t.C)),.i ((JAf x t.cl t.op t.er t.mo t.en t.la0 t.la1 t.la2 (J1 t.l) t.has (J1 t.y) t.st0 t.st1 t.tr t.C)),.i ((JAc x t.cl t.op t.er t.mo t.en t.la0 t.la1 t.la2 (J1 t.l) t.has (J1 t.y) t.st0 t.st1 t.tr t.C)),.i ((JAQ x t.cl t.op t.er t.mo t.en t.la0 t.la1 t.la2 (J1 t.l) t.has (J1 t.y) t.st0 t.st1 t.tr t.C)),.b ((zI x t.cl t.op t.er t.mo t.en t.la0 t.la1 t.la2 (J1 t.l) t.has (J1 t.y) t.st0 t.st1 t.tr t.C))],(zB x t.cl t.op t.er t.mo t.en t.la0 t.la1 t.la2 (J1 t.l) t.has (J1 t.y) t.st0 t.st1 t.tr t.C),
   [.i ((zn x t.cl t.op t.er t.mo t.en t.la0 t.la1 t.la2 (J1 t.l) t.has (J1 t.y) t.st0 t.st1 t.tr t.C)),.i ((JAD x t.cl t.op t.er t.mo t.en t.la0 t.la1 t.la2 (J1 t.l) t.has (J1 t.y) t.st0 t.st1 t.tr t.C)),.i ((JAT x t.cl t.op t.er t.mo t.en t.la0 t.la1 t.la2 (J1 t.l) t.has (J1 t.y) t.st0 t.st1 t.tr t.C)),.i ((JAX x t.cl t.op t.er t.mo t.en t.la0 t.la1 t.la2 (J1 t.l) t.has (J1 t.y) t.st0 t.st1 t.tr t.C)),.i ((kX x t.cl t.op t.er t.mo t.en t.la0 t.la1 t.la2 (J1 t.l) t.has (J1 t.y) t.st0 t.st1 t.tr t.C)),.i ((z7 x t.cl t.op t.er t.mo t.en t.la0 t.la1 t.la2 (J1 t.l) t.has (J1 t.y) t.st0 t.st1 t.tr t.C)),.i ((JAL x t.cl t.op t.er t.mo t.en t.la0 t.la1 t.la2 (J1 t.l) t.has (J1 t.y) t.st0 t.st1 t.tr t.C)),.i ((kJ x t.cl t.op t.er t.mo t.en t.la0 t.la1 t.la2 (J1 t.l) t.has (J1 t.y) t.st0 t.st1 t.tr t.C)),.i ((zZ x t.cl t.op t.er t.mo t.en t.la0 t.la1 t.la2 (J1 t.l) t.has (J1 t.y) t.st0 t.st1 t.tr t.C)),.i ((JAe x t.cl t.op t.er t.mo t.en t.la0 t.la1 t.la2 (J1 t.l) t.has (J1 t.y) t.st0 t.st1 t.tr t.C)),.i ((z8 x t.cl t.op t.er t.mo t.en t.la0 t.la1 t.la2 (J1 t.l) t.has (J1 t.y) t.st0 t.st1 t.tr t.C)),.i ((ki x t.cl t.op t.er t.mo t.en t.la0 t.la1 t.la2 (J1 t.l) t.has (J1 t.y) t.st0 t.st1 t.tr t.C)),.i ((JA4 x t.cl t.op t.er t.mo t.en t.la0 t.la1 t.la2 (J1 t.l) t.has (J1 t.y) t.st0 t.st1 t.tr t.C)),.b ((zU x t.cl t.op t.er t.mo t.en t.la0 t.la1 t.la2 (J1 t.l) t.has (J1 t.y) t.st0 t.st1 t.tr t.C)),.i ((z6 x t.cl t.op t.er t.mo t.en t.la0 t.la1 t.la2 (J1 t.l) t.has (J1 t.y) t.st0 t.st1 t.tr t.C)),.b ((JAP x t.cl t.op t.er t.mo t.en t.la0 t.la1 t.la2 (J1 t.l) t.has (J1 t.y) t.st0 t.st1 t.tr t.C)),.i ((JA7 x t.cl t.op t.er t.mo t.en t.la0 t.la1 t.la2 (J1 t.l) t.has (J1 t.y) t.st0 t.st1 t.tr t.C)),.i ((zR x t.cl t.op t.er t.mo t.en t.la0 t.la1 t.la2 (J1 t.l) t.has (J1 t.y) t.st0 t.st1 t.tr t.C)),.i ((zT x t.cl t.op t.er t.mo t.en t.la0 t.la1 t.la2 (J1 t.l) t.has (J1 t.y) t.st0 t.st1 t.tr t.C)),.i ((zJ x t.cl t.op t.er t.mo t.en t.la0 t.la1 t.la2 (J1 t.l) t.has (J1 t.y) t.st0 t.st1 t.tr t.C)),.i ((zh x t.cl t.op t.er t.mo t.en t.la0 t.la1 t.la2 (J1 t.l) t.has (J1 t.y) t.st0 t.st1 t.tr t.C)),.b ((zL x t.cl t.op t.er t.mo t.en t.la0 t.la1 t.la2 (J1 t.l) t.has (J1 t.y) t.st0 t.st1 t.tr t.C))],(kS x t.cl t.op t.er t.mo t.en t.la0 t.la1 t.la2 (J1 t.l) t.has (J1 t.y) t.st0 t.st1 t.tr t.C),(kq x t.cl t.op t.er t.mo t.en t.la0 t.la1 t.la2 (J1 t.l) t.has (J1 t.y) t.st0 t.st1 t.tr t.C),(JAG x t.cl t.op t.er t.mo t.en t.la0 t.la1 t.la2 (J1 t.l) t.has (J1 t.y) t.st0 t.st1 t.tr t.C),(JA2 x t.cl t.op t.er t.mo t.en t.la0 t.la1 t.la2 (J1 t.l) t.has (J1 t.y) t.st0 t.st1 t.tr t.pn0 t.C),(zS x t.cl t.op t.er t.mo t.en t.la0 t.la1 t.la2 (J1 t.l) t.has (J1 t.y) t.st0 t.st1 t.tr t.pn1 t.C),(YR x t.cl t.op t.er t.mo t.en t.la0 t.la1 t.la2 (J1 t.l) t.has (J1 t.y) t.st0 t.st1 t.tr t.C)⟩
def rO:LL:= (KJ x t.cl t.op t.er t.mo t.en t.la0 t.la1 t.la2 (J1 t.l) t.has (J1 t.y) t.st0 t.st1 t.tr t.C)
def rE:Int:= (ZA x t.cl t.op t.er t.mo t.en t.la0 t.la1 t.la2 (J1 t.l) t.has (J1 t.y) t.st0 t.st1 t.tr t.C)
def JIm:Bool:= !Qr (J1 x) || t.en || J5 (xi x 0) && t.mo && !(xi x 2 == t.la0 && (xi x 3 == t.la1 && xi x 4 == t.la2))
def JJ7:Rt:= { t with en := xi x 0 == 14,mo := J5 (xi x 0) || t.mo,la0 := bif J5 (xi x 0) then xi x 5 else t.la0,la1 := bif J5 (xi x 0) then xi x 6 else t.la1,la2 := bif J5 (xi x 0) then xi x 7 else t.la2 }
def JuC:Int:=
  bif Jv x l y == 2 then
   JDm (J3 (xi l 8) (xi y 2) (xi y 3) (xi y 4)) (J4 (xi l 8) (xi y 2) (xi y 3) (xi y 4)) (J3 (xi l 8) (xi y 5) (xi y 6) (xi y 7)) (J4 (xi l 8) (xi y 5) (xi y 6) (xi y 7))
   (JL (xi l 8) (J1 y)) (JM (xi l 8) (J1 y)) (JJ (J1 y)) (QF (J1 y)) (J3 (xi l 8) (xi x 2) (xi x 3) (xi x 4)) (J4 (xi l 8) (xi x 2) (xi x 3) (xi x 4))
   (J3 (xi l 8) (xi x 5) (xi x 6) (xi x 7)) (J4 (xi l 8) (xi x 5) (xi x 6) (xi x 7)) (JL (xi l 8) (J1 x)) (JM (xi l 8) (J1 x)) (JJ (J1 x)) (QF (J1 x))
   (JO (J1 l))
   else
   bif YS l y == 0 then
   QX (J3 (xi l 8) (xi x 2) (xi x 3) (xi x 4)) (J4 (xi l 8) (xi x 2) (xi x 3) (xi x 4)) (J3 (xi l 8) (xi x 5) (xi x 6) (xi x 7)) (J4 (xi l 8) (xi x 5) (xi x 6) (xi x 7))
   (JL (xi l 8) (J1 x)) (JM (xi l 8) (J1 x)) (JJ (J1 x)) (JO (J1 l))
   else YS l y
end
theorem Jdn (x l y:List GC):JWZ x l y = JuC x l y := by kernel_rfl
theorem JcC (x l y:List GC) (a b:Int) (c:Bool):Ja0 x l y a b c = Jz (Xm x l y) (Xo x l y) (Jv x l y == 2) (J1 l) (J1 y) a b c := by kernel_rfl
def Jvt (l:List GC) (u0 u1 v0 v1:Int):List Int := [xi l 0,xi l 1,JR (xi l 8) u0 u1 (J9 (xi l 8) (xi l 2) (xi l 3) (xi l 4)),
   JP (xi l 8) u0 u1 (J9 (xi l 8) (xi l 2) (xi l 3) (xi l 4)),
   JQ (xi l 8) u0 u1 (J9 (xi l 8) (xi l 2) (xi l 3) (xi l 4)),
   JR (xi l 8) v0 v1 (J9 (xi l 8) (xi l 5) (xi l 6) (xi l 7)),JP (xi l 8) v0 v1 (J9 (xi l 8) (xi l 5) (xi l 6) (xi l 7)),
   JQ (xi l 8) v0 v1 (J9 (xi l 8) (xi l 5) (xi l 6) (xi l 7)),KW l,
   XI l u0 u1 l,
   XK l u0 u1 l,
   XN l u0 u1 l,xi l 12,bif xb l 13 then 1 else 0,xi l 14,bif xb l 15 then 1 else 0,0,0,
   xi l 18,xi l 19,xi l 20,bif xb l 21 then 1 else 0]
def JtF (x l:List GC) (u0 u1:Int):List Int := [xi x 0,xi x 1,JR (xi l 8) u0 u1 (J9 (xi l 8) (xi x 2) (xi x 3) (xi x 4)),
   JP (xi l 8) u0 u1 (J9 (xi l 8) (xi x 2) (xi x 3) (xi x 4)),JQ (xi l 8) u0 u1 (J9 (xi l 8) (xi x 2) (xi x 3) (xi x 4)),
   xi x 5,xi x 6,xi x 7,xi x 8,xi x 9,xi x 10,xi x 11,xi x 12,bif xb x 13 then 1 else 0,xi x 14,bif xb x 15 then 1 else 0,xi x 16,xi x 17,xi x 18,xi x 19,xi x 20,
   bif xb x 21 then 1 else 0]
theorem Jg4 (x:List GC) (t:Rt) (hx:J1 x = x) (he:t.er = 0) (hl:J1 t.l = t.l) (hy:J1 t.y = t.y) (hc:t.cl = false) (hi:JIm x t = false) (ho:t.op = false) (hm:(!J5 (xi x 0) || xi x 16 == 0) = true) :
    rE x t = 0 ∧ rS x t = JJ7 x t ∧ rO x t = [JHh x] := by
  unfold JIm at hi
  have e2:(t.er != 0) = false := by rw [he]; rfl
  rw [hx] at hi
  have hE:rE x t = 0 := by
    unfold rE
    simp only [QA,ZX,QB,Za,QD,QE,Q8,Qx,ZA,hx,hl,hy,e2,hc,hi,cond_true,cond_false,Bool.not_false,Bool.not_true,Bool.true_and,Bool.false_and,Bool.and_false,Bool.and_true,Bool.or_false,Bool.false_or,beq_self_eq_true,bne_self_eq_false,Bool.and_self,Bool.or_self,ho,hm]
  refine ⟨hE,?_,?_⟩
  · unfold rS JJ7
    simp only [QA,ZX,QB,Za,QD,QE,Q8,YJ,JE4,JE0,JEC,JDX,JDO,JDt,JDQ,JDs,kC,kO,ku,zN,JAV,qw,kA,qu,zY,zG,JAZ,JAA,zF,kD,zp,JAa,kp,zc,zK,kh,JA6,JAF,JA8,kU,kL,JA3,ze,zm,zz,ka,zt,kW,qy,kT,JAW,zM,zj,kV,ky,zd,JA1,kG,JAY,kB,zV,k8,zO,zC,W9,Qx,ZA,KJ,JBL,JBD,qh,JDH,JDi,JDp,JDP,JDe,zf,qz,zy,JAO,JAN,ke,kb,kF,kt,kK,ko,JAM,kZ,zE,kH,kf,z9,JAd,JAf,JAc,JAQ,zI,zB,zn,JAD,JAT,JAX,kX,z7,JAL,kJ,zZ,JAe,z8,ki,JA4,zU,z6,JAP,JA7,zR,zT,zJ,zh,zL,kS,kq,JAG,JA2,zS,YR,hx,hl,hy,e2,hc,hi,cond_true,cond_false,Bool.not_false,Bool.not_true,Bool.true_and,Bool.false_and,Bool.and_false,Bool.and_true,Bool.or_false,Bool.false_or,beq_self_eq_true,bne_self_eq_false,Bool.and_self,Bool.or_self,ho,hm]
    try simp only [he]
    try rw [← hl]
    try rw [← hy]
    try rw [← hx]
    all_goals kernel_rfl
  · unfold rO
    simp only [QA,ZX,QB,Za,QD,QE,Q8,Qx,ZA,YJ,KJ,hx,hl,hy,e2,hc,hi,cond_true,cond_false,Bool.not_false,Bool.not_true,Bool.true_and,Bool.false_and,Bool.and_false,Bool.and_true,Bool.or_false,Bool.false_or,beq_self_eq_true,bne_self_eq_false,Bool.and_self,Bool.or_self,ho,hm]
    all_goals kernel_rfl
theorem JfW (x:List GC) (t:Rt) (hx:J1 x = x) (he:t.er = 0) (hl:J1 t.l = t.l) (hy:J1 t.y = t.y) (hc:t.cl = false) (hi:JIm x t = false) (ho:t.op = false) (hm:(!J5 (xi x 0) || xi x 16 == 0) = false) (hd:ZI (xi x 8) (xi x 17) x = true) :
    rE x t = 0 ∧ rS x t = { JJ7 x t with l := x,op := true,has := false,C := [] } ∧ rO x t = [] := by
  unfold JIm at hi
  have e2:(t.er != 0) = false := by rw [he]; rfl
  rw [hx] at hi
  have hE:rE x t = 0 := by
    unfold rE
    simp only [QA,ZX,QB,Za,QD,QE,Q8,Qx,ZA,hx,hl,hy,e2,hc,hi,cond_true,cond_false,Bool.not_false,Bool.not_true,Bool.true_and,Bool.false_and,Bool.and_false,Bool.and_true,Bool.or_false,Bool.false_or,beq_self_eq_true,bne_self_eq_false,Bool.and_self,Bool.or_self,ho,hm,hd]
  refine ⟨hE,?_,?_⟩
  · unfold rS JJ7
    simp only [QA,ZX,QB,Za,QD,QE,Q8,YJ,JE4,JE0,JEC,JDX,JDO,JDt,JDQ,JDs,kC,kO,ku,zN,JAV,qw,kA,qu,zY,zG,JAZ,JAA,zF,kD,zp,JAa,kp,zc,zK,kh,JA6,JAF,JA8,kU,kL,JA3,ze,zm,zz,ka,zt,kW,qy,kT,JAW,zM,zj,kV,ky,zd,JA1,kG,JAY,kB,zV,k8,zO,zC,W9,Qx,ZA,KJ,JBL,JBD,qh,JDH,JDi,JDp,JDP,JDe,zf,qz,zy,JAO,JAN,ke,kb,kF,kt,kK,ko,JAM,kZ,zE,kH,kf,z9,JAd,JAf,JAc,JAQ,zI,zB,zn,JAD,JAT,JAX,kX,z7,JAL,kJ,zZ,JAe,z8,ki,JA4,zU,z6,JAP,JA7,zR,zT,zJ,zh,zL,kS,kq,JAG,JA2,zS,YR,hx,hl,hy,e2,hc,hi,cond_true,cond_false,Bool.not_false,Bool.not_true,Bool.true_and,Bool.false_and,Bool.and_false,Bool.and_true,Bool.or_false,Bool.false_or,beq_self_eq_true,bne_self_eq_false,Bool.and_self,Bool.or_self,ho,hm,hd]
    try simp only [he]
    try rw [← hl]
    try rw [← hy]
    try rw [← hx]
    all_goals kernel_rfl
  · unfold rO
    simp only [QA,ZX,QB,Za,QD,QE,Q8,Qx,ZA,YJ,KJ,hx,hl,hy,e2,hc,hi,cond_true,cond_false,Bool.not_false,Bool.not_true,Bool.true_and,Bool.false_and,Bool.and_false,Bool.and_true,Bool.or_false,Bool.false_or,beq_self_eq_true,bne_self_eq_false,Bool.and_self,Bool.or_self,ho,hm,hd]
    all_goals kernel_rfl
theorem Jgv (x:List GC) (t:Rt) (hx:J1 x = x) (he:t.er = 0) (hl:J1 t.l = t.l) (hy:J1 t.y = t.y) (hc:t.cl = false) (hi:JIm x t = false) (ho:t.op = true) (hm:(J5 (xi x 0) && xi x 16 == 0) = false) (h3:(xi x 0 == 1 || xi x 0 == 11 || xi x 0 == 14 || J5 (xi x 0) && (xi x 8 != xi t.l 8 || xi x 16 != xi t.l 16 || xi x 17 != xi t.l 17)) = false) (hs:(!J5 (xi x 0) || !ZH (xi t.l 8) x) = true) (hn:(Int.ofNat t.C.length == 8) = false) :
    rE x t = 0 ∧ rS x t = { JJ7 x t with C := t.C ++ [JHh x] } ∧ rO x t = [] := by
  unfold JIm at hi
  have e2:(t.er != 0) = false := by rw [he]; rfl
  rw [hx] at hi
  have hE:rE x t = 0 := by
    unfold rE
    simp only [QA,ZX,QB,Za,QD,QE,Q8,Qx,ZA,hx,hl,hy,e2,hc,hi,cond_true,cond_false,Bool.not_false,Bool.not_true,Bool.true_and,Bool.false_and,Bool.and_false,Bool.and_true,Bool.or_false,Bool.false_or,beq_self_eq_true,bne_self_eq_false,Bool.and_self,Bool.or_self,ho,hm,h3,hs,hn]
  refine ⟨hE,?_,?_⟩
  · unfold rS JJ7
    simp only [QA,ZX,QB,Za,QD,QE,Q8,YJ,JE4,JE0,JEC,JDX,JDO,JDt,JDQ,JDs,kC,kO,ku,zN,JAV,qw,kA,qu,zY,zG,JAZ,JAA,zF,kD,zp,JAa,kp,zc,zK,kh,JA6,JAF,JA8,kU,kL,JA3,ze,zm,zz,ka,zt,kW,qy,kT,JAW,zM,zj,kV,ky,zd,JA1,kG,JAY,kB,zV,k8,zO,zC,W9,Qx,ZA,KJ,JBL,JBD,qh,JDH,JDi,JDp,JDP,JDe,zf,qz,zy,JAO,JAN,ke,kb,kF,kt,kK,ko,JAM,kZ,zE,kH,kf,z9,JAd,JAf,JAc,JAQ,zI,zB,zn,JAD,JAT,JAX,kX,z7,JAL,kJ,zZ,JAe,z8,ki,JA4,zU,z6,JAP,JA7,zR,zT,zJ,zh,zL,kS,kq,JAG,JA2,zS,YR,hx,hl,hy,e2,hc,hi,cond_true,cond_false,Bool.not_false,Bool.not_true,Bool.true_and,Bool.false_and,Bool.and_false,Bool.and_true,Bool.or_false,Bool.false_or,beq_self_eq_true,bne_self_eq_false,Bool.and_self,Bool.or_self,ho,hm,h3,hs,hn]
    try simp only [he]
    try rw [← hl]
    try rw [← hy]
    try rw [← hx]
    all_goals kernel_rfl
  · unfold rO
    simp only [QA,ZX,QB,Za,QD,QE,Q8,Qx,ZA,YJ,KJ,hx,hl,hy,e2,hc,hi,cond_true,cond_false,Bool.not_false,Bool.not_true,Bool.true_and,Bool.false_and,Bool.and_false,Bool.and_true,Bool.or_false,Bool.false_or,beq_self_eq_true,bne_self_eq_false,Bool.and_self,Bool.or_self,ho,hm,h3,hs,hn]
    all_goals kernel_rfl
theorem JgJ (x:List GC) (t:Rt) (hx:J1 x = x) (he:t.er = 0) (hl:J1 t.l = t.l) (hy:J1 t.y = t.y) (hc:t.cl = false) (hi:JIm x t = false) (ho:t.op = true) (hm:(J5 (xi x 0) && xi x 16 == 0) = false) (h3:(xi x 0 == 1 || xi x 0 == 11 || xi x 0 == 14 || J5 (xi x 0) && (xi x 8 != xi t.l 8 || xi x 16 != xi t.l 16 || xi x 17 != xi t.l 17)) = false) (hs:(!J5 (xi x 0) || !ZH (xi t.l 8) x) = false) (h0:t.has = false) (hE0:WX x t.l = 0) :
    rE x t = 0 ∧ rS x t = { JJ7 x t with has := true,y := x,st0 := Yr x t.l,st1 := Yj x t.l,tr := false,pn0 := Yr x t.l,pn1 := Yj x t.l,C := [] } ∧ rO x t = Jvt t.l (J3 (xi t.l 8) (xi t.l 2) (xi t.l 3) (xi t.l 4)) (J4 (xi t.l 8) (xi t.l 2) (xi t.l 3) (xi t.l 4)) (Yr x t.l) (Yj x t.l) :: Z8 (J1 t.l) (Yr x t.l) (Yj x t.l) t.C := by
  unfold JIm at hi
  have e2:(t.er != 0) = false := by rw [he]; rfl
  rw [hx] at hi
  unfold WX at hE0
  rw [hx,hl] at hE0
  have hE:rE x t = 0 := by
    unfold rE
    simp only [Qt,JBy,QA,ZX,QB,Za,QD,QE,JCV,Q8,Qx,ZA,hx,hl,hy,e2,hc,hi,cond_true,cond_false,Bool.not_false,Bool.not_true,Bool.true_and,Bool.false_and,Bool.and_false,Bool.and_true,Bool.or_false,Bool.false_or,beq_self_eq_true,bne_self_eq_false,Bool.and_self,Bool.or_self,ho,hm,h3,hs,h0,hE0,WX]
  refine ⟨hE,?_,?_⟩
  · unfold rS JJ7
    simp only [Qt,JBy,QA,ZX,QB,Za,QD,QE,JCV,JOP,JPG,JPR,JPP,JOv,JPA,JOu,JPn,JPT,JP4,JRr,JRg,JRw,JPb,JPQ,JPD,JPC,JRn,JPq,JPs,JPj,JQw,JRc,JPZ,JFW,JF5,JPf,JEe,Q8,YJ,JE4,JE0,JEC,JDX,JDO,JDt,JDQ,JDs,kC,kO,ku,zN,JAV,qw,kA,qu,zY,zG,JAZ,JAA,zF,kD,zp,JAa,kp,zc,zK,kh,JA6,JAF,JA8,kU,kL,JA3,ze,zm,zz,ka,zt,kW,qy,kT,JAW,zM,zj,kV,ky,zd,JA1,kG,JAY,kB,zV,k8,zO,zC,W9,Qx,ZA,KJ,JBL,JBD,qh,JDH,JDi,JDp,JDP,JDe,zf,qz,zy,JAO,JAN,ke,kb,kF,kt,kK,ko,JAM,kZ,zE,kH,kf,z9,JAd,JAf,JAc,JAQ,zI,zB,zn,JAD,JAT,JAX,kX,z7,JAL,kJ,zZ,JAe,z8,ki,JA4,zU,z6,JAP,JA7,zR,zT,zJ,zh,zL,kS,kq,JAG,JA2,zS,YR,hx,hl,hy,e2,hc,hi,cond_true,cond_false,Bool.not_false,Bool.not_true,Bool.true_and,Bool.false_and,Bool.and_false,Bool.and_true,Bool.or_false,Bool.false_or,beq_self_eq_true,bne_self_eq_false,Bool.and_self,Bool.or_self,ho,hm,h3,hs,h0,hE0,WX]
    try simp only [he]
    try rw [← hl]
    try rw [← hy]
    try rw [← hx]
    all_goals kernel_rfl
  · unfold rO
    simp only [Qt,JBy,QA,ZX,QB,Za,QD,QE,JCV,Q8,Qx,ZA,JOP,YJ,KJ,hx,hl,hy,e2,hc,hi,cond_true,cond_false,Bool.not_false,Bool.not_true,Bool.true_and,Bool.false_and,Bool.and_false,Bool.and_true,Bool.or_false,Bool.false_or,beq_self_eq_true,bne_self_eq_false,Bool.and_self,Bool.or_self,ho,hm,h3,hs,h0,hE0,WX]
    all_goals kernel_rfl
theorem JVy (x:List GC) (t:Rt) (hx:J1 x = x) (he:t.er = 0) (hl:J1 t.l = t.l) (hy:J1 t.y = t.y) (hc:t.cl = false) (hi:JIm x t = false) (ho:t.op = true) (hm:(J5 (xi x 0) && xi x 16 == 0) = false) (h3:(xi x 0 == 1 || xi x 0 == 11 || xi x 0 == 14 || J5 (xi x 0) && (xi x 8 != xi t.l 8 || xi x 16 != xi t.l 16 || xi x 17 != xi t.l 17)) = false) (hs:(!J5 (xi x 0) || !ZH (xi t.l 8) x) = false) (h0:t.has = true) (hb:JuC x t.l t.y = 0) (hg:Jz (Xm x t.l t.y) (Xo x t.l t.y) (Jv x t.l t.y == 2) t.l t.y t.st0 t.st1 t.tr = 0) :
    rE x t = 0 ∧ rS x t = { JJ7 x t with y := x,st0 := JAH x t.l t.y,st1 := JAB x t.l t.y,tr := Jv x t.l t.y == 2,pn0 := JAH x t.l t.y,pn1 := JAB x t.l t.y,C := [] } ∧ rO x t = bif Jv x t.l t.y != 2 then JEg x t.l t.y t.st0 t.st1 t.tr t.C ++ WS x (Xm x t.l t.y) (Xo x t.l t.y) (JAH x t.l t.y) (JAB x t.l t.y) (Jv x t.l t.y == 1) t.l else JEg x t.l t.y t.st0 t.st1 t.tr t.C := by
  unfold JIm at hi
  have e2:(t.er != 0) = false := by rw [he]; rfl
  rw [hx] at hi
  have hb0 := hb
  have hg1 := hg
  simp only [Xm,Xo,hx,hl,hy] at hg1
  unfold JuC at hb
  rw [hx,hl,hy] at hb
  have hE:rE x t = 0 := by
    unfold rE
    simp only [JL4,JKs,JAk,JT9,JSp,JDW,JE3,ZJ,JFN,JTZ,QA,ZX,QB,Za,QD,QE,JHe,Q8,Qx,ZA,hx,hl,hy,e2,hc,hi,cond_true,cond_false,Bool.not_false,Bool.not_true,Bool.true_and,Bool.false_and,Bool.and_false,Bool.and_true,Bool.or_false,Bool.false_or,beq_self_eq_true,bne_self_eq_false,Bool.and_self,Bool.or_self,ho,hm,h3,hs,h0,hb0,hg,Jdn,JcC]
  refine ⟨hE,?_,?_⟩
  · unfold rS JJ7
    simp only [JL4,JKs,JAk,JT9,JSp,JDW,JE3,ZJ,JFN,JTZ,QA,ZX,QB,Za,QD,QE,JHe,JUL,JVq,JXw,JYC,JVv,JYQ,JZ5,JVk,JYO,JaE,JXv,JXL,JWB,JWI,JV2,JWm,JWO,JW3,JYm,JW8,JWW,JW1,JWp,JWD,JZc,JV8,JZT,JVA,JI5,Q8,YJ,JE4,JE0,JEC,JDX,JDO,JDt,JDQ,JDs,kC,kO,ku,zN,JAV,qw,kA,qu,zY,zG,JAZ,JAA,zF,kD,zp,JAa,kp,zc,zK,kh,JA6,JAF,JA8,kU,kL,JA3,ze,zm,zz,ka,zt,kW,qy,kT,JAW,zM,zj,kV,ky,zd,JA1,kG,JAY,kB,zV,k8,zO,zC,W9,Qx,ZA,KJ,JBL,JBD,qh,JDH,JDi,JDp,JDP,JDe,zf,qz,zy,JAO,JAN,ke,kb,kF,kt,kK,ko,JAM,kZ,zE,kH,kf,z9,JAd,JAf,JAc,JAQ,zI,zB,zn,JAD,JAT,JAX,kX,z7,JAL,kJ,zZ,JAe,z8,ki,JA4,zU,z6,JAP,JA7,zR,zT,zJ,zh,zL,kS,kq,JAG,JA2,zS,YR,hx,hl,hy,e2,hc,hi,cond_true,cond_false,Bool.not_false,Bool.not_true,Bool.true_and,Bool.false_and,Bool.and_false,Bool.and_true,Bool.or_false,Bool.false_or,beq_self_eq_true,bne_self_eq_false,Bool.and_self,Bool.or_self,ho,hm,h3,hs,h0,hb,hb0,hg,hg1,Jdn,JcC,Bool.cond_self]
    try simp only [he]
    try rw [← hl]
    try rw [← hy]
    try rw [← hx]
    all_goals kernel_rfl
  · unfold rO
    simp only [JL4,JKs,JAk,JT9,JSp,JDW,JE3,ZJ,JFN,JTZ,QA,ZX,QB,Za,QD,QE,JHe,Q8,Qx,ZA,JUL,YJ,KJ,hx,hl,hy,e2,hc,hi,cond_true,cond_false,Bool.not_false,Bool.not_true,Bool.true_and,Bool.false_and,Bool.and_false,Bool.and_true,Bool.or_false,Bool.false_or,beq_self_eq_true,bne_self_eq_false,Bool.and_self,Bool.or_self,ho,hm,h3,hs,h0,hb,hb0,hg,hg1,Jdn,JcC,Bool.cond_self]
    all_goals kernel_rfl
theorem Jgh (x:List GC) (t:Rt) (hx:J1 x = x) (he:t.er = 0) (hl:J1 t.l = t.l) (hy:J1 t.y = t.y) (hc:t.cl = false) (hi:JIm x t = false) (ho:t.op = true) (hm:(J5 (xi x 0) && xi x 16 == 0) = true) (hd:(!ZI (xi t.l 8) (xi t.l 17) x || !t.has) = false) (hb:WQ t.l t.y = 0) (hg:Jz (QS t.l t.y) (QR t.l t.y) false t.l t.y t.st0 t.st1 t.tr = 0) :
    rE x t = 0 ∧ rS x t = { JJ7 x t with op := false,has := false,pn0 := QS t.l t.y,pn1 := QR t.l t.y,C := [] } ∧ rO x t = ZO (QS t.l t.y) (QR t.l t.y) false t.l t.y t.st0 t.st1 t.tr ++ Z8 t.l (QS t.l t.y) (QR t.l t.y) t.C ++ [JtF x t.l (QS t.l t.y) (QR t.l t.y)] := by
  unfold JIm at hi
  have e2:(t.er != 0) = false := by rw [he]; rfl
  rw [hx] at hi
  unfold WQ at hb
  rw [hl,hy] at hb
  have hg1 := hg
  simp only [QS,QR,hl,hy] at hg1
  have hE:rE x t = 0 := by
    unfold rE
    simp only [JL4,JKs,JAk,JT9,JSp,JDW,JE3,JTZ,QA,ZX,QB,Za,QD,QE,JD6,Q8,Qx,ZA,hx,hl,hy,e2,hc,hi,cond_true,cond_false,Bool.not_false,Bool.not_true,Bool.true_and,Bool.false_and,Bool.and_false,Bool.and_true,Bool.or_false,Bool.false_or,beq_self_eq_true,bne_self_eq_false,Bool.and_self,Bool.or_self,ho,hm,hd,hb,hg1,WQ,JC1,QS,QR]
  refine ⟨hE,?_,?_⟩
  · unfold rS JJ7
    simp only [JL4,JKs,JAk,JT9,JSp,JDW,JE3,JTZ,QA,ZX,QB,Za,QD,QE,JD6,JNb,JYM,JPp,JRs,JQl,JG8,Q8,YJ,JE4,JE0,JEC,JDX,JDO,JDt,JDQ,JDs,kC,kO,ku,zN,JAV,qw,kA,qu,zY,zG,JAZ,JAA,zF,kD,zp,JAa,kp,zc,zK,kh,JA6,JAF,JA8,kU,kL,JA3,ze,zm,zz,ka,zt,kW,qy,kT,JAW,zM,zj,kV,ky,zd,JA1,kG,JAY,kB,zV,k8,zO,zC,W9,Qx,ZA,KJ,JBL,JBD,qh,JDH,JDi,JDp,JDP,JDe,zf,qz,zy,JAO,JAN,ke,kb,kF,kt,kK,ko,JAM,kZ,zE,kH,kf,z9,JAd,JAf,JAc,JAQ,zI,zB,zn,JAD,JAT,JAX,kX,z7,JAL,kJ,zZ,JAe,z8,ki,JA4,zU,z6,JAP,JA7,zR,zT,zJ,zh,zL,kS,kq,JAG,JA2,zS,YR,hx,hl,hy,e2,hc,hi,cond_true,cond_false,Bool.not_false,Bool.not_true,Bool.true_and,Bool.false_and,Bool.and_false,Bool.and_true,Bool.or_false,Bool.false_or,beq_self_eq_true,bne_self_eq_false,Bool.and_self,Bool.or_self,ho,hm,hd,hb,hg1,WQ,JC1,QS,QR]
    try simp only [he]
    try rw [← hl]
    try rw [← hy]
    try rw [← hx]
    all_goals kernel_rfl
  · unfold rO
    simp only [JL4,JKs,JAk,JT9,JSp,JDW,JE3,JTZ,QA,ZX,QB,Za,QD,QE,JD6,Q8,Qx,ZA,JNb,YJ,KJ,hx,hl,hy,e2,hc,hi,cond_true,cond_false,Bool.not_false,Bool.not_true,Bool.true_and,Bool.false_and,Bool.and_false,Bool.and_true,Bool.or_false,Bool.false_or,beq_self_eq_true,bne_self_eq_false,Bool.and_self,Bool.or_self,ho,hm,hd,hb,hg1,WQ,JC1,QS,QR]
    all_goals kernel_rfl
theorem JNZ {a b n:Int} (ha:XT a) (hb:XT b):Xg a b n 2 = Wz a b n 2 := by
  by_cases h:J6 a ≤ 2147483648 ∧ J6 b ≤ 2147483648 ∧ 1 ≤ n ∧ n ≤ 4611686018427387904
  · exact Jo5 ha hb h.1 h.2.1 h.2.2
  · have hc:(decide (J6 a > 2147483648) || decide (J6 b > 2147483648) || decide (n < 1) || decide (n > 4611686018427387904) || !((2:Int) == 0 || (2:Int) == 1 || (2:Int) == 2)) = true := by
      by_cases h1:J6 a > 2147483648
      · rw [decide_eq_true h1]; rfl
      · by_cases h2:J6 b > 2147483648
        · rw [decide_eq_true h2,decide_eq_false h1]; rfl
        · by_cases h3:n < 1
          · rw [decide_eq_true h3,decide_eq_false h1,decide_eq_false h2]; rfl
          · rw [decide_eq_true (show n > 4611686018427387904 by omega)]; simp
    unfold Xg Wz
    rw [hc,cond_true,cond_true]
theorem JrL (a b n:Int) (hn:n < 1):Xg a b n 2 = 0 := by
  have hc:(decide (J6 a > 2147483648) || decide (J6 b > 2147483648) || decide (n < 1) || decide (n > 4611686018427387904) || !((2:Int) == 0 || (2:Int) == 1 || (2:Int) == 2)) = true := by
    rw [decide_eq_true hn]; simp
  unfold Xg
  rw [hc,cond_true]
theorem JpA (a b:Int):Xg a b 0 2 = 0 := JrL a b 0 (by omega)
theorem JSB (p0 p1 t0 t1 r:Int):XE p0 p1 t0 t1 r = Zo p0 p1 t0 t1 r ∧ XD p0 p1 t0 t1 r = Zk p0 p1 t0 t1 r ∧ JKE p0 p1 t0 t1 r = JKH p0 p1 t0 t1 r := by
  unfold XE XD JKE Zo Zk JKH
  rw [JgY]
  cases hc:(t0 == 0 && t1 == 0 || !Jc t0 4194304 || !Jc t1 4194304 || !Jc p0 1048576 || !Jc p1 1048576 || !Jc r 32768)
  · obtain ⟨h0,h1,h2,h3,h4,h5⟩ := JlJ hc
    have i0:XT t0 := ⟨by omega,by omega⟩
    have ir:XT r := ⟨by omega,by omega⟩
    rw [JNZ (a := IntKind.i64.wrap (0 - t1)) (Jk _) ir,JNZ i0 ir]
    unfold JI
    simp only [cond_false,and_self,Bool.not_false]
  · simp only [cond_true,and_self]
theorem Jgj (a b c d s:Int):JBz a b c d s = JC4 a b c d s := by
  unfold JBz JC4
  have e:(bif JHN a b c d s then JHN a b c d s else decide (JE a b c d < 0) && decide (s < 0)) = (decide (JE a b c d > 0) && decide (s > 0) || decide (JE a b c d < 0) && decide (s < 0)) := by
    show (bif (decide (JE a b c d > 0) && decide (s > 0)) then (decide (JE a b c d > 0) && decide (s > 0)) else _) = _
    cases (decide (JE a b c d > 0) && decide (s > 0)) <;> rfl
  rw [e]
theorem Jqz (a c:Int):IntKind.i64.wrap (IntKind.i64.wrap (0 - a) - c) = IntKind.i64.wrap (0 - IntKind.i64.wrap (a + c)) := by
  unfold IntKind.wrap
  simp only [IntKind.bits,IntKind.signed]
  simp
  omega
theorem JsQ (a b c d i:Int):QL a b c d i = Zu a b c d i ∧ QM a b c d i = Zt a b c d i := by
  unfold QL QM Zu Zt Kk
  rw [Jqz,Jqz]
  by_cases h1:J8 a b c d > 0
  · rw [decide_eq_true h1]
    by_cases h2:IntKind.i64.wrap (JE a b c d * i) > 0
    · rw [decide_eq_true h2,decide_eq_false (show ¬ IntKind.i64.wrap (JE a b c d * i) ≤ 0 by omega)]
      exact ⟨rfl,rfl⟩
    · rw [decide_eq_false h2,decide_eq_true (show IntKind.i64.wrap (JE a b c d * i) ≤ 0 by omega)]
      exact ⟨rfl,rfl⟩
  · rw [decide_eq_false h1]
    exact ⟨rfl,rfl⟩
theorem Jsu (a b c d i:Int):XT (QL a b c d i) ∧ XT (QM a b c d i) := by
  constructor
  · unfold QL
    cases (Kk a b c d && decide (IntKind.i64.wrap (JE a b c d * i) > 0)) <;> cases Kk a b c d <;> exact Jk _
  · unfold QM
    cases (Kk a b c d && decide (IntKind.i64.wrap (JE a b c d * i) > 0)) <;> cases Kk a b c d <;> exact Jk _
theorem Jar (a b c d i:Int) {s:Int} (hs:XT s):oH0 a b c d i s = JKX a b c d i s ∧ oH1 a b c d i s = JK4 a b c d i s := by
  obtain ⟨e1,e2⟩ := JsQ a b c d i
  obtain ⟨i1,i2⟩ := Jsu a b c d i
  unfold oH0 oH1 JKX JK4
  rw [← e1,← e2]
  generalize QL a b c d i = u at *
  generalize QM a b c d i = v at *
  by_cases h:u = 0 ∧ v = 0
  · obtain ⟨rfl,rfl⟩ := h
    have e:J8 0 0 0 0 = 0 := rfl
    rw [e,JpA]
    exact ⟨rfl,rfl⟩
  · have e:(u == 0 && v == 0) = false := by
      rw [Bool.and_eq_false_iff,beq_eq_false_iff_ne,beq_eq_false_iff_ne]; omega
    rw [e,JNZ i1 hs,JNZ i2 hs]
    exact ⟨rfl,rfl⟩
theorem JvX (x:Int):∃ p:Int,0 ≤ p ∧ (x = p ∨ x = -p) ∧ (0 ≤ x → p = x) ∧ p * p = x * x := by
  by_cases h:x < 0
  · exact ⟨-x,by omega,by omega,by omega,Int.neg_mul_neg _ _⟩
  · exact ⟨x,by omega,by omega,by omega,rfl⟩
abbrev b9 (x:Int):Prop := bd 1000000000 x
abbrev Jtk (d:Int):Prop := d = 0 ∨ d = 1 ∨ d = -1
structure EP (e0 e1 e2 e3 e4 e5 e6:Int):Prop where
  c0:bd 1048576 e0
  c1:bd 1048576 e1
  c2:bd 1048576 e2
  c3:bd 1048576 e3
  c4:bd 1048576 e4
  c5:bd 1048576 e5
  dir:e6 = 0 ∨ e6 = 1 ∨ e6 = -1
  s1:e6 ≠ 0 → e0 - e4 ≠ 0 ∨ e1 - e5 ≠ 0
  s2:e6 ≠ 0 → e2 - e4 ≠ 0 ∨ e3 - e5 ≠ 0
theorem WW {d:Int} (hd:Jtk d) (r:Int):YC d r = Xy d r := by
  unfold YC Xy
  rcases hd with rfl | rfl | rfl <;> rfl
theorem JvR {r:Int} (hr:bd 1000000000 r):YE r = (if -r > r then -r else r) ∧ IntKind.i64.wrap (YE r * YE r) = IntKind.i64.wrap (r * r) ∧ IntKind.i64.wrap (IntKind.i64.wrap (4 * YE r) * YE r) = IntKind.i64.wrap (IntKind.i64.wrap (4 * r) * r) := by
  have e:YE r = (if -r > r then -r else r) := by
    unfold YE
    rw [Zy (x := 0 - r) (by omega) (by omega),show 0 - r = -r by omega]
  refine ⟨e,?_,?_⟩
  · rw [e]; split
    · rw [Int.neg_mul_neg]
    · rfl
  · rw [e]; split
    · rw [Zy (x := 4 * -r) (by omega) (by omega),Zy (x := 4 * r) (by omega) (by omega)]
      have:4 * -r * -r = 4 * r * r := by rw [Int.mul_neg 4 r,Int.neg_mul_neg]
      rw [this]
    · rfl
theorem Ju0 (x y:Int):decide (K6 x y ≤ 0) = decide (K6 y x ≥ 0) := by
  rcases JCH x y with ⟨h1,h2⟩ | ⟨h1,h2⟩ | ⟨h1,h2⟩ <;> rcases JCH y x with ⟨h3,h4⟩ | ⟨h3,h4⟩ | ⟨h3,h4⟩ <;> rw [h2,h4] <;> first | rfl | (exfalso; omega)
theorem JhX (a b c d:Int):XT (J8 a b c d) := Jk _
theorem JLq {e0 e1 e2 e3 e4 e5 e6:Int} (y0 y1:Int) {r:Int} (hd:Jtk e6) (hr:bd 1000000000 r):ZW e0 e1 e2 e3 e4 e5 e6 y0 y1 r = X9 e0 e1 e2 e3 e4 e5 e6 y0 y1 r := by
  obtain ⟨_,q1,q2⟩ := JvR hr
  have re:∀ {n m:Int},XT n → JBv n (YE r) m = (decide (IntKind.i64.wrap (IntKind.i64.wrap (m - n) - IntKind.i64.wrap (r * r)) ≥ 0) && decide (JHJ (IntKind.i64.wrap (IntKind.i64.wrap (m - n) - IntKind.i64.wrap (r * r))) (IntKind.i64.wrap (IntKind.i64.wrap (m - n) - IntKind.i64.wrap (r * r))) (IntKind.i64.wrap (IntKind.i64.wrap (4 * r) * r)) n ≥ 0)) := fun {n m} hn => by
    unfold JBv JZY JGR
    rw [q1,q2,JdD _ _ _ _ (Jk _) hn (Jk _) (Jk _),JcW _ _ _ _ (Jk _) (Jk _) (Jk _) hn,Ju0]
  have sp:∀ a b c:Int,JF a b c true = J0 b c := fun _ _ _ => rfl
  unfold ZW X9
  cases h6:e6 == 0
  · rw [cond_false,cond_false]
    unfold Jbs Yk jX
    rw [WW hd]
    simp only [sp]
    cases Xy e6 r
    · rw [cond_false,cond_false,cond_false,re (JhX _ _ _ _)]
    · rw [cond_true,cond_true,cond_true,re (JhX _ _ _ _)]
  · rw [cond_true,cond_true]
    have e:JRJ e0 e1 e2 e3 y0 y1 r = JQg e0 e1 e2 e3 y0 y1 r := by
      unfold JRJ JQg
      have hx:XT (JE (J0 e2 e0) (J0 e3 e1) (J0 y0 e0) (J0 y1 e1)) := Jk _
      rw [JdD _ _ _ _ hx hx (Jk _) (JhX _ _ _ _),JcW _ _ _ _ hx hx (Jk _) (JhX _ _ _ _)]
    rw [e]
theorem JQn {e0 e1 e2 e3 e4 e5 e6:Int} (w:Bool) (hd:Jtk e6) (h0:bd 1048576 e0) (h1:bd 1048576 e1) (h2:bd 1048576 e2) (h3:bd 1048576 e3) (h4:bd 1048576 e4) (h5:bd 1048576 e5) :
    Z2 (Q0 e6) e0 e1 0 e2 e3 0 17 (JN e4 e6) (JN e5 e6) 0 (Jo e6) w = Qj e0 e1 e2 e3 e5 e6 w ∧ Z3 (Q0 e6) e0 e1 0 e2 e3 0 17 (JN e4 e6) (JN e5 e6) 0 (Jo e6) w = Qh e0 e1 e2 e3 e4 e6 w := by
  rcases hd with rfl | rfl | rfl
  · exact ⟨rfl,rfl⟩
  · have a0:Z2 (Q0 1) e0 e1 0 e2 e3 0 17 (JN e4 1) (JN e5 1) 0 (Jo 1) w = IntKind.i64.wrap (0 - (bif w then J0 e3 e5 else J0 e1 e5)) := rfl
    have a1:Z3 (Q0 1) e0 e1 0 e2 e3 0 17 (JN e4 1) (JN e5 1) 0 (Jo 1) w = (bif w then J0 e2 e4 else J0 e0 e4) := rfl
    have b0:Qj e0 e1 e2 e3 e5 1 w = IntKind.i64.wrap (IntKind.i64.wrap (0 - (bif w then J0 e3 e5 else J0 e1 e5)) * 1) := rfl
    have b1:Qh e0 e1 e2 e3 e4 1 w = IntKind.i64.wrap ((bif w then J0 e2 e4 else J0 e0 e4) * 1) := rfl
    rw [a0,a1,b0,b1]
    rw [XR (a := e3) (by omega) (by omega),XR (a := e1) (by omega) (by omega),XR (a := e2) (by omega) (by omega),XR (a := e0) (by omega) (by omega)]
    cases w
    · simp only [cond_false]
      rw [Zy (x := 0 - (e1 - e5)) (by omega) (by omega),Zy (by omega) (by omega),Zy (by omega) (by omega)]; omega
    · simp only [cond_true]
      rw [Zy (x := 0 - (e3 - e5)) (by omega) (by omega),Zy (by omega) (by omega),Zy (by omega) (by omega)]; omega
  · have a0:Z2 (Q0 (-1)) e0 e1 0 e2 e3 0 17 (JN e4 (-1)) (JN e5 (-1)) 0 (Jo (-1)) w = (bif w then J0 e3 e5 else J0 e1 e5) := rfl
    have a1:Z3 (Q0 (-1)) e0 e1 0 e2 e3 0 17 (JN e4 (-1)) (JN e5 (-1)) 0 (Jo (-1)) w = IntKind.i64.wrap (0 - (bif w then J0 e2 e4 else J0 e0 e4)) := rfl
    have b0:Qj e0 e1 e2 e3 e5 (-1) w = IntKind.i64.wrap (IntKind.i64.wrap (0 - (bif w then J0 e3 e5 else J0 e1 e5)) * -1) := rfl
    have b1:Qh e0 e1 e2 e3 e4 (-1) w = IntKind.i64.wrap ((bif w then J0 e2 e4 else J0 e0 e4) * -1) := rfl
    rw [a0,a1,b0,b1]
    rw [XR (a := e3) (by omega) (by omega),XR (a := e1) (by omega) (by omega),XR (a := e2) (by omega) (by omega),XR (a := e0) (by omega) (by omega)]
    cases w
    · simp only [cond_false]
      rw [Zy (x := 0 - (e1 - e5)) (by omega) (by omega),Zy (x := 0 - (e0 - e4)) (by omega) (by omega),Zy (by omega) (by omega),Zy (by omega) (by omega)]; omega
    · simp only [cond_true]
      rw [Zy (x := 0 - (e3 - e5)) (by omega) (by omega),Zy (x := 0 - (e2 - e4)) (by omega) (by omega),Zy (by omega) (by omega),Zy (by omega) (by omega)]; omega
theorem JNR {α:Type} (a b:Bool) (z x:α):(bif a then z else bif b then z else x) = (bif a || b then z else x) := by
  cases a <;> cases b <;> rfl
theorem JS6 {e0 e1 e2 e3 e4 e5 e6:Int} (r:Int) (E:EP e0 e1 e2 e3 e4 e5 e6) :
    XM e0 e1 e2 e3 e4 e5 e6 r = KY e0 e1 e2 e3 e4 e5 e6 r ∧ XJ e0 e1 e2 e3 e4 e5 e6 r = Ka e0 e1 e2 e3 e4 e5 e6 r ∧ Xc e0 e1 e2 e3 e4 e5 e6 r = Xf e0 e1 e2 e3 e4 e5 e6 r ∧ Xd e0 e1 e2 e3 e4 e5 e6 r = Xe e0 e1 e2 e3 e4 e5 e6 r ∧ Qk e0 e1 e2 e3 e4 e5 e6 r = QX e0 e1 e2 e3 e4 e5 e6 r := by
  obtain ⟨t0,t1⟩ := JQn false E.dir E.c0 E.c1 E.c2 E.c3 E.c4 E.c5
  obtain ⟨t2,t3⟩ := JQn true E.dir E.c0 E.c1 E.c2 E.c3 E.c4 E.c5
  have sp:∀ a b c:Int,JF a b c true = J0 b c := fun _ _ _ => rfl
  have sp':∀ a b c:Int,JF a b c false = J0 a c := fun _ _ _ => rfl
  have hw:∀ a b,QN a b = (Jc a 1048576 && Jc b 1048576) := fun _ _ => rfl
  have hs:Zb r = Zc r := rfl
  have N0:∀ p0 p1 t0 t1 r,XE p0 p1 t0 t1 r = Zo p0 p1 t0 t1 r := fun p0 p1 t0 t1 r => (JSB p0 p1 t0 t1 r).1
  have N1:∀ p0 p1 t0 t1 r,XD p0 p1 t0 t1 r = Zk p0 p1 t0 t1 r := fun p0 p1 t0 t1 r => (JSB p0 p1 t0 t1 r).2.1
  refine ⟨?_,?_,?_,?_,?_⟩
  · unfold XM KY JVJ JZB JXp
    simp only [JNR,Bool.not_and,Bool.or_assoc,WW E.dir,t0,t1,t2,t3,N0,N1,sp,sp',hw,hs]
  · unfold XJ Ka JZp JYH JYa
    simp only [JNR,Bool.not_and,Bool.or_assoc,WW E.dir,t0,t1,t2,t3,N0,N1,sp,sp',hw,hs]
  · unfold Xc Xf JZu JV0 JVT
    simp only [JNR,Bool.not_and,Bool.or_assoc,WW E.dir,t0,t1,t2,t3,N0,N1,sp,sp',hw,hs]
  · unfold Xd Xe JV9 Ja2 JXB
    simp only [JNR,Bool.not_and,Bool.or_assoc,WW E.dir,t0,t1,t2,t3,N0,N1,sp,sp',hw,hs]
  · unfold Qk QX JZI JZz
    simp only [JNR,Bool.not_and,Bool.or_assoc,WW E.dir,t0,t1,t2,t3,N0,N1,sp,sp',hw,hs]
end
end Go.Proofs.YtmbfbhimdkjkoaaGreat
