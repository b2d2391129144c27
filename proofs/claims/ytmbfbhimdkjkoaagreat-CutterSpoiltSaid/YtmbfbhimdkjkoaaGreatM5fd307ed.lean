/-
  Texts of one claim, laid together. Conditions: none.
-/
import Derived.Test.YtmbfbhimdkjkoaaGreatMc93c3253
set_option linter.all false
set_option maxRecDepth 1000000
namespace Go.Proofs.YtmbfbhimdkjkoaaGreat
noncomputable section
open Go.SX Go.RowKit
theorem JqZ (a b c d:Int) (e:Bool):(decide (J8 a b a b < 64) || decide (J8 c d c d < 64) || !jc (J8 a b a b) (J8 c d c d) || e && !(a == c && b == d) || !e && XK a b c d) = !JgK a b c d e := by
  have hx:XY (J8 a b a b) := Jk _
  have hy:XY (J8 c d c d) := Jk _
  unfold JgK
  have e0:JAC a b c d = if J8 c d c d < J8 a b a b then J8 c d c d else J8 a b a b := by
    unfold JAC
    by_cases g:J8 a b a b > J8 c d c d
    · rw [decide_eq_true g,cond_true,if_pos g]
    · rw [decide_eq_false g,cond_false,if_neg g]
  have e1:Ww a b c d = WQ (J8 a b a b) (J8 c d c d) := by
    unfold Ww WQ
    rw [e0]
    by_cases g:J8 a b a b > J8 c d c d
    · rw [decide_eq_true g,cond_true,if_neg (show ¬ J8 c d c d > J8 a b a b by omega)]
    · rw [decide_eq_false g,cond_false]
      by_cases g2:J8 c d c d > J8 a b a b
      · rw [if_pos g2]
      · rw [if_neg g2,show J8 c d c d = J8 a b a b by omega]
  have hm:XY (if J8 c d c d < J8 a b a b then J8 c d c d else J8 a b a b) := by split <;> assumption
  have hs:XY (WQ (J8 a b a b) (J8 c d c d)) := Jk _
  have e2:(decide (Ww a b c d > 0) && decide (JHv (Ww a b c d) (Ww a b c d) 64 (JAC a b c d) > 0)) = !jc (J8 a b a b) (J8 c d c d) := by
    unfold jc JVS
    rw [e1,e0,JfQ _ _ _ _ hs hs (by decide) hm,Jfj _ _ _ _ hs hs (by decide) hm]
    generalize KC _ _ = k
    generalize WQ _ _ = s
    rw [Bool.eq_iff_iff]
    simp
  have e3:decide (JAC a b c d < 64) = (decide (J8 a b a b < 64) || decide (J8 c d c d < 64)) := by
    rw [e0,Bool.eq_iff_iff]
    simp only [Bool.or_eq_true,decide_eq_true_eq]
    split <;> omega
  have e4:XK a b c d = (JE a b c d == 0 && decide (J8 a b c d > 0)) := rfl
  rw [e2,e3,e4]
  generalize (decide (J8 a b a b < 64) || decide (J8 c d c d < 64)) = u
  generalize jc _ _ = v
  generalize (JE a b c d == 0 && decide (J8 a b c d > 0)) = w
  generalize (a == c && b == d) = z
  revert u v w z e
  decide
theorem Jh2 (p:Int):JCD p = Kt p := by
  unfold Kt JCD
  rw [Bool.or_assoc]
theorem JFy (a b c:Int):Y1 a b c = XI a b c := by
  unfold Y1 XI Ja
  rw [show IntKind.i64.wrap (0 - 1048576) = -1048576 from by decide]
theorem JZO (k f0 f1 f2 t0 t1 t2 p c0 c1 c2 d:Int) (fu:Bool):XW k f0 f1 f2 t0 t1 t2 p c0 c1 c2 d fu = WH k f0 f1 f2 t0 t1 t2 p c0 c1 c2 d fu := by
  unfold XW WH
  rw [JqZ,Jh2,JFy,JFy,JFy]
  rfl
theorem JlO (k x1 x2 x3 x4 x5 x6 x7 x8 x9 x10 x11 x12 x14 x16 x17 x18 x19 x20 ac:Int) (b13 b15 b21 w1 w2 p:Bool) (h1:x2 = 0 → x3 = 0 → x4 = 0 → w1 = true) (h2:x5 = 0 → x6 = 0 → x7 = 0 → w2 = true) :
    (bif decide (x1 < 0) || decide (x1 ≥ 2000) then false
  else
   bif J5 k then
   bif
   !w1 || !w2 || x20 != 0 || b21 ||
   !bif x16 == 0 then x17 == 0 && (x8 == 0 || k == 3)
   else (k == 1 || k == 2 || k == 3) && p && (x16 == 1 || x16 == -1) && decide (x17 ≥ 0) && decide (x17 ≤ 32768) then
   false
   else
   bif k == 3 then bif ac != 0 then false else (bif k == 6 then bif x19 != 3 && x19 != 4 then false else (bif k == 1 then x14 == 0 && !b15 && x18 == 0 else bif decide (x14 < 1) || decide (x14 > 60000000) then false else bif bif k == 2 then k == 2 else k == 3 then decide (x18 ≥ 0) && decide (x18 ≤ 1000) else bif bif k == 5 then k == 5 else k == 6 then x18 == 0 && b15 else x18 == 0) else bif x19 != 0 then false else (bif k == 1 then x14 == 0 && !b15 && x18 == 0 else bif decide (x14 < 1) || decide (x14 > 60000000) then false else bif bif k == 2 then k == 2 else k == 3 then decide (x18 ≥ 0) && decide (x18 ≤ 1000) else bif bif k == 5 then k == 5 else k == 6 then x18 == 0 && b15 else x18 == 0))
   else bif !(x9 == 0 && (x10 == 0 && x11 == 0)) || x12 != 0 || b13 then false else (bif k == 6 then bif x19 != 3 && x19 != 4 then false else (bif k == 1 then x14 == 0 && !b15 && x18 == 0 else bif decide (x14 < 1) || decide (x14 > 60000000) then false else bif bif k == 2 then k == 2 else k == 3 then decide (x18 ≥ 0) && decide (x18 ≤ 1000) else bif bif k == 5 then k == 5 else k == 6 then x18 == 0 && b15 else x18 == 0) else bif x19 != 0 then false else (bif k == 1 then x14 == 0 && !b15 && x18 == 0 else bif decide (x14 < 1) || decide (x14 > 60000000) then false else bif bif k == 2 then k == 2 else k == 3 then decide (x18 ≥ 0) && decide (x18 ≤ 1000) else bif bif k == 5 then k == 5 else k == 6 then x18 == 0 && b15 else x18 == 0))
   else
   bif
   !(k == k && (x1 == x1 && (x2 == 0 && (x3 == 0 && (x4 == 0 && (x5 == 0 && (x6 == 0 && (x7 == 0 && (x8 == 0 && (x9 == 0 && (x10 == 0 && (x11 == 0 && (x12 == 0 && (b13 == false && (x14 == 0 && (b15 == false && (x16 == 0 && (x17 == 0 && (x18 == 0 && (x19 == x19 && (x20 == x20 && b21 == b21))))))))))))))))))))) then
   false
   else
   bif k == 8 then !b21 && decide (x19 ≥ 3) && decide (x19 ≤ 5) && decide (x20 ≥ 0) && decide (x20 ≤ 30000) && (x19 != 5 || x20 == 0)
   else
   bif k == 9 then x20 == 0 && (x19 == 7 || x19 == 8)
   else
   bif k == 10 then x20 == 0 && decide (x19 ≥ 0) && decide (x19 < 16)
   else
   bif k == 7 then !b21 && x20 == 0 && decide (x19 ≥ 0) && decide (x19 ≤ 60000)
   else
   bif k == 11 then !b21 && x20 == 0 && decide (x19 ≥ 0) && decide (x19 ≤ 32)
   else (bif k == 12 then k == 12 else bif k == 13 then k == 13 else k == 14) && (!b21 && x20 == 0 && x19 == 0)) =
    (bif
   !(decide (k ≥ 1) && decide (k ≤ 14)) || !(decide (x1 ≥ 0) && decide (x1 ≤ 1999)) ||
   !(k == k && (x1 == x1 &&
   ((bif J5 k then x2 else 0) == x2 &&
   ((bif J5 k then x3 else 0) == x3 &&
   ((bif J5 k then x4 else 0) == x4 &&
   ((bif J5 k then x5 else 0) == x5 &&
   ((bif J5 k then x6 else 0) == x6 &&
   ((bif J5 k then x7 else 0) == x7 &&
   ((bif bif k == 1 then k == 1 else bif k == 2 then k == 2 else k == 3 then x8 else 0) == x8 &&
   ((bif k == 2 then 0 else bif k == 3 then x9 else 0) == x9 &&
   ((bif k == 2 then 0 else bif k == 3 then x10 else 0) == x10 &&
   ((bif k == 2 then 0 else bif k == 3 then x11 else 0) == x11 &&
   ((bif k == 2 then 0 else bif k == 3 then x12 else 0) == x12 &&
   ((bif k == 2 then false else k == 3 && b13) == b13 &&
   ((bif (decide (k ≥ 2) && decide (k ≤ 6)) then x14 else 0) == x14 &&
   (((decide (k ≥ 2) && decide (k ≤ 6)) && b15) == b15 &&
   ((bif bif k == 1 then k == 1 else bif k == 2 then k == 2 else k == 3 then x16 else 0) == x16 &&
   ((bif bif k == 1 then k == 1 else bif k == 2 then k == 2 else k == 3 then x17 else 0) == x17 &&
   ((bif k == 2 then x18 else bif k == 3 then x18 else 0) == x18 &&
   ((bif k == 2 then 0 else bif k == 3 then 0 else bif bif k == 6 then k == 6 else bif k == 7 then k == 7 else k == 11 then x19 else bif k == 8 then x19 else bif bif k == 9 then k == 9 else k == 10 then x19 else 0) == x19 &&
   ((bif k == 2 then 0 else bif k == 3 then 0 else bif bif k == 6 then k == 6 else bif k == 7 then k == 7 else k == 11 then 0 else bif k == 8 then x20 else 0) == x20 &&
   (bif k == 2 then false else bif k == 3 then false else bif bif k == 6 then k == 6 else bif k == 7 then k == 7 else k == 11 then false else bif k == 8 then false else (bif k == 9 then k == 9 else k == 10) && b21) == b21))))))))))))))))))))) ||
   !w1 || !w2 || !(decide (x18 ≥ 0) && decide (x18 ≤ 1000)) || !(decide (x16 ≥ -1) && decide (x16 ≤ 1)) then
   false
  else
   bif (decide (k ≥ 2) && decide (k ≤ 6)) && !(decide (x14 ≥ 1) && decide (x14 ≤ 60000000)) then false
   else
   bif x16 == 0 && (x17 != 0 || x8 != 0 && k != 3) || x16 != 0 && (!p || !(decide (x17 ≥ 0) && decide (x17 ≤ 32768))) then false
   else (bif k == 5 then b15 else bif k == 6 then b15 && (decide (x19 ≥ 3) && decide (x19 ≤ 4)) else bif k == 7 then (decide (x19 ≥ 0) && decide (x19 ≤ 60000)) else bif k == 8 then (decide (x19 ≥ 3) && decide (x19 ≤ 5)) && (decide (x20 ≥ 0) && decide (x20 ≤ 30000)) && (x19 != 5 || x20 == 0) else bif k == 9 then (decide (x19 ≥ 7) && decide (x19 ≤ 8)) else bif k == 10 then (decide (x19 ≥ 0) && decide (x19 ≤ 15)) else bif k == 11 then (decide (x19 ≥ 0) && decide (x19 ≤ 32)) else true) && (k != 3 || ac == 0)) := by
  have hk:k < 1 ∨ 14 < k ∨ k = 1 ∨ k = 2 ∨ k = 3 ∨ k = 4 ∨ k = 5 ∨ k = 6 ∨ k = 7 ∨ k = 8 ∨ k = 9 ∨ k = 10 ∨ k = 11 ∨ k = 12 ∨ k = 13 ∨ k = 14 := by omega
  have two:∀ a b:Bool,(a = true ↔ b = true) → a = b := fun a b h => Bool.eq_iff_iff.2 h
  rcases hk with hk | hk | rfl | rfl | rfl | rfl | rfl | rfl | rfl | rfl | rfl | rfl | rfl | rfl | rfl | rfl
  · have e:∀ c:Int,1 ≤ c → c ≤ 14 → (k == c) = false := fun c h h' => by simpa using (by omega:¬ k = c)
    have c0:J5 k = false := by
      unfold J5
      rw [Bool.and_eq_false_iff,decide_eq_false_iff_not,decide_eq_false_iff_not]; omega
    have c1:(decide (k ≥ 1) && decide (k ≤ 14)) = false := by
      rw [Bool.and_eq_false_iff,decide_eq_false_iff_not,decide_eq_false_iff_not]; omega
    simp only [c0,c1,e 8 (by decide) (by decide),e 9 (by decide) (by decide),e 10 (by decide) (by decide),e 7 (by decide) (by decide),e 11 (by decide) (by decide),e 12 (by decide) (by decide),e 13 (by decide) (by decide),e 14 (by decide) (by decide),Bool.not_false,Bool.true_or,cond_true,cond_false,Bool.false_and]
    cases (decide (x1 < 0) || decide (x1 ≥ 2000)) <;> simp
  · have e:∀ c:Int,1 ≤ c → c ≤ 14 → (k == c) = false := fun c h h' => by simpa using (by omega:¬ k = c)
    have c0:J5 k = false := by
      unfold J5
      rw [Bool.and_eq_false_iff,decide_eq_false_iff_not,decide_eq_false_iff_not]; omega
    have c1:(decide (k ≥ 1) && decide (k ≤ 14)) = false := by
      rw [Bool.and_eq_false_iff,decide_eq_false_iff_not,decide_eq_false_iff_not]; omega
    simp only [c0,c1,e 8 (by decide) (by decide),e 9 (by decide) (by decide),e 10 (by decide) (by decide),e 7 (by decide) (by decide),e 11 (by decide) (by decide),e 12 (by decide) (by decide),e 13 (by decide) (by decide),e 14 (by decide) (by decide),Bool.not_false,Bool.true_or,cond_true,cond_false,Bool.false_and]
    cases (decide (x1 < 0) || decide (x1 ≥ 2000)) <;> simp
  all_goals
    refine two _ _ ?_
    simp only [show ∀ a b:Int,(a == b) = decide (a = b) from fun a b => rfl,bne]
    simp (config := {decide := true}) [J5,-Bool.not_eq_true]
    try grind
theorem JjU (x:List GC):Qc x = Qt x := by
  have h1:xi x 2 = 0 → xi x 3 = 0 → xi x 4 = 0 → XI (xi x 2) (xi x 3) (xi x 4) = true := fun a b c => by rw [a,b,c]; rfl
  have h2:xi x 5 = 0 → xi x 6 = 0 → xi x 7 = 0 → XI (xi x 5) (xi x 6) (xi x 7) = true := fun a b c => by rw [a,b,c]; rfl
  have := JlO (xi x 0) (xi x 1) (xi x 2) (xi x 3) (xi x 4) (xi x 5) (xi x 6) (xi x 7) (xi x 8) (xi x 9) (xi x 10) (xi x 11) (xi x 12) (xi x 14) (xi x 16) (xi x 17) (xi x 18) (xi x 19) (xi x 20)
    (XW (xi x 0) (xi x 2) (xi x 3) (xi x 4) (xi x 5) (xi x 6) (xi x 7) (xi x 8) (xi x 9) (xi x 10) (xi x 11) (xi x 12) (xb x 13)) (xb x 13) (xb x 15) (xb x 21) (XI (xi x 2) (xi x 3) (xi x 4)) (XI (xi x 5) (xi x 6) (xi x 7)) (Kt (xi x 8)) h1 h2
  refine (show Qc x = _ from this).trans ?_
  unfold Qt
  rw [JFy,JFy,Jh2,← JZO]
  rfl
def Jvo:List (Nat × Nat × Nat × Nat) := [(74,30,40,22)]
def JGx (S:FuncId → Option JW) (L:FuncId → Nat → Option QH) (f:FuncId):JW := Jwg Jvo (Jdw Jbp (JcX Tryz.prog (Jbt Tryz.prog S L 100 10) 100 (L f) f))
theorem KM {S:FuncId → Option JW} {L:FuncId → Nat → Option QH} (hk:Known Tryz.prog S L) (f:FuncId):Qk Tryz.prog f (JGx S L f) := Jun Jvo (Jck Jbp (Jg7 Zy hk 100 10 f))
def JFB:Tpl := ⟨[.one (.int .i64),.agg pI],[],0⟩
def JNk:List GK := [.i,.v Jy]
section
variable (pl:Int) (x:List GC)
def JL:Int:= bif xi x 0 == 3 then J3 pl (xi x 9) (xi x 10) (xi x 11) else 0
def JM:Int:= bif xi x 0 == 3 then J4 pl (xi x 9) (xi x 10) (xi x 11) else 0
def JJ:Int:= bif xi x 0 == 3 then xi x 12 else 0
def QI:Bool:= xi x 0 == 3 && xb x 13
end
theorem Jil (pl:Int) (x:List GC):Runs (JGx (JB JZ0) XR 84) (JFB.args (Jc JNk [.i pl,.v x])) (JFB.memo (Jc JNk [.i pl,.v x]) []) JFB.n (SV.agg [Ci (J3 pl (xi x 2) (xi x 3) (xi x 4)),Ci (J4 pl (xi x 2) (xi x 3) (xi x 4)),Ci (J3 pl (xi x 5) (xi x 6) (xi x 7)),Ci (J4 pl (xi x 5) (xi x 6) (xi x 7)),Ci (JL pl x),Ci (JM pl x),Ci (JJ x),Cb (QI x)]) ([]) :=
  Runs.of1 (ps := []) (by kernel_rfl) (by simp)
def JPX:List Gm → Qr → Option CRes
  | [.i pl,.v x],[] => some ⟨SV.agg [Ci (J3 pl (xi x 2) (xi x 3) (xi x 4)),Ci (J4 pl (xi x 2) (xi x 3) (xi x 4)),Ci (J3 pl (xi x 5) (xi x 6) (xi x 7)),Ci (J4 pl (xi x 5) (xi x 6) (xi x 7)),Ci (JL pl x),Ci (JM pl x),Ci (JJ x),Cb (QI x)],
 [],[],[],382⟩
  | _,_ => none
theorem JtN:Qk Tryz.prog 84 (Z9 JNk JFB JPX) := by
  refine Qd (KM JOj 84) fun ps ls r hr hn _ => ?_
  unfold JPX at hr
  split at hr
  · cases hr; exact ⟨_,Jil _ _,fun _ => rfl⟩
  · cases hr
def Jeb:List (Nat × JW) := (84,Z9 JNk JFB JPX) :: JZ0
theorem JSs:Known Tryz.prog (JB Jeb) XR := J7 JOj JtN
def JCh:Tpl := ⟨[.one (.int .i64),.agg pI],[],0⟩
def JKq:List GK := [.i,.v Jy]
def ZL (pl:Int) (x:List GC):Bool := xb x 13 || !(J3 pl (xi x 2) (xi x 3) (xi x 4) == J3 pl (xi x 5) (xi x 6) (xi x 7) && J4 pl (xi x 2) (xi x 3) (xi x 4) == J4 pl (xi x 5) (xi x 6) (xi x 7))
theorem Jhw (pl:Int) (x:List GC):Runs (JGx (JB Jeb) XR 61) (JCh.args (Jc JKq [.i pl,.v x])) (JCh.memo (Jc JKq [.i pl,.v x]) []) JCh.n (SV.one (Cb (ZL pl x))) ([]) :=
  Runs.of1 (ps := []) (by kernel_rfl) (by simp)
def JMx:List Gm → Qr → Option CRes
  | [.i pl,.v x],[] => some ⟨SV.one (Cb (ZL pl x)),
 [],[],[],229⟩
  | _,_ => none
theorem JpL:Qk Tryz.prog 61 (Z9 JKq JCh JMx) := by
  refine Qd (KM JSs 61) fun ps ls r hr hn _ => ?_
  unfold JMx at hr
  split at hr
  · cases hr; exact ⟨_,Jhw _ _,fun _ => rfl⟩
  · cases hr
def JZk:List (Nat × JW) := (61,Z9 JKq JCh JMx) :: Jeb
theorem JO0:Known Tryz.prog (JB JZk) XR := J7 JSs JpL
def JCL:Tpl := ⟨[.one (.int .i64),.one (.int .i64),.agg pI],[],0⟩
def JKX:List GK := [.i,.i,.v Jy]
def JFf (pl:Int) (x:List GC):Int := J8 (J0 (J3 pl (xi x 5) (xi x 6) (xi x 7)) (J3 pl (xi x 2) (xi x 3) (xi x 4))) (J0 (J4 pl (xi x 5) (xi x 6) (xi x 7)) (J4 pl (xi x 2) (xi x 3) (xi x 4))) (J0 (J3 pl (xi x 5) (xi x 6) (xi x 7)) (J3 pl (xi x 2) (xi x 3) (xi x 4))) (J0 (J4 pl (xi x 5) (xi x 6) (xi x 7)) (J4 pl (xi x 2) (xi x 3) (xi x 4)))
def ZO (pl ra:Int) (x:List GC):Bool := xi x 0 == 2 && decide (JFf pl x > 0) && decide (JFf pl x ≥ IntKind.i64.wrap (ra * ra)) && J9 pl (xi x 2) (xi x 3) (xi x 4) == J9 pl (xi x 5) (xi x 6) (xi x 7)
theorem JhO (pl ra:Int) (x:List GC):Runs (JGx (JB JZk) XR 59) (JCL.args (Jc JKX [.i pl,.i ra,.v x])) (JCL.memo (Jc JKX [.i pl,.i ra,.v x]) []) JCL.n (SV.one (Cb (ZO pl ra x))) ([]) :=
  Runs.of1 (ps := []) (by kernel_rfl) (by simp)
def JMh:List Gm → Qr → Option CRes
  | [.i pl,.i ra,.v x],[] => some ⟨SV.one (Cb (ZO pl ra x)),
 [],[],[],488⟩
  | _,_ => none
theorem Jo5:Qk Tryz.prog 59 (Z9 JKX JCL JMh) := by
  refine Qd (KM JO0 59) fun ps ls r hr hn _ => ?_
  unfold JMh at hr
  split at hr
  · cases hr; exact ⟨_,JhO _ _ _,fun _ => rfl⟩
  · cases hr
def JVg:List (Nat × JW) := (59,Z9 JKX JCL JMh) :: JZk
theorem JOC:Known Tryz.prog (JB JVg) XR := J7 JO0 Jo5
def YF:List (Nat × PO) := [(0,.blk 74 [(2,.bool),(3,.bool),(4,.int .i64),(5,.bool),(6,.bool),(7,.int .i64),(8,.int .i64),(9,.int .i64),(10,.int .i64),(11,.int .i64),(12,.int .i64),(13,.int .i64),(14,.int .i64),(15,.int .i64),(16,.int .i64),(17,.int .i64),(18,.int .i64),(19,.int .i64),(20,.int .i64),(21,.int .i64),(22,.int .i64),(23,.bool),(24,.int .i64),(25,.bool),(26,.int .i64),(27,.int .i64),(28,.int .i64),(29,.int .i64),(30,.int .i64),(31,.bool),(32,.wh 1),(33,.bool),(34,.int .i64),(35,.int .i64),(36,.int .i64),(37,.int .i64),(38,.int .i64),(39,.int .i64),(40,.int .i64),(41,.int .i64),(42,.int .i64),(43,.int .i64),(44,.int .i64),(45,.int .i64),(46,.int .i64),(47,.bool),(48,.int .i64),(49,.bool),(50,.int .i64),(51,.int .i64),(52,.int .i64),(53,.int .i64),(54,.int .i64),(55,.bool),(56,.int .i64),(57,.int .i64),(58,.bool),(59,.int .i64),(60,.int .i64)]),(1,.row true 40 22 61 jH)]
def JGW:Tpl := ⟨[.one (.ptr 0 0),.agg pI,.agg [.int .i64,.int .i64],.agg [.int .i64,.int .i64]],YF,62⟩
def JNv:List GK := [.v Jy,.i,.i,.i,.i,.b,.b,.i,.b,.b,.i,.i,.i,.v Jy,.b,.v Jy,.i,.i,.b,.i,.i]
section
variable (rcl rop:Bool) (rer:Int) (rmo ren:Bool) (rla0 rla1 rla2:Int) (x:List GC) (u0 u1:Int) (l:List GC) (has:Bool) (y:List GC) (st0 st1:Int) (rtr:Bool) (pn0 pn1:Int) (C:LL)
def Ki:Int:= bif xi x 0 != 3 then 0 else xi x 8
def XL:Int:= bif xi x 0 != 3 then xi x 9 else JP (xi l 8) (J3 (xi l 8) (xi x 9) (xi x 10) (xi x 11)) (J4 (xi l 8) (xi x 9) (xi x 10) (xi x 11)) (J9 (xi l 8) (JP (xi l 8) u0 u1 (J9 (xi l 8) (xi x 2) (xi x 3) (xi x 4))) (JQ (xi l 8) u0 u1 (J9 (xi l 8) (xi x 2) (xi x 3) (xi x 4))) (JR (xi l 8) u0 u1 (J9 (xi l 8) (xi x 2) (xi x 3) (xi x 4))))
def XO:Int:= bif xi x 0 != 3 then xi x 10 else JQ (xi l 8) (J3 (xi l 8) (xi x 9) (xi x 10) (xi x 11)) (J4 (xi l 8) (xi x 9) (xi x 10) (xi x 11)) (J9 (xi l 8) (JP (xi l 8) u0 u1 (J9 (xi l 8) (xi x 2) (xi x 3) (xi x 4))) (JQ (xi l 8) u0 u1 (J9 (xi l 8) (xi x 2) (xi x 3) (xi x 4))) (JR (xi l 8) u0 u1 (J9 (xi l 8) (xi x 2) (xi x 3) (xi x 4))))
def XS:Int:= bif xi x 0 != 3 then xi x 11 else JR (xi l 8) (J3 (xi l 8) (xi x 9) (xi x 10) (xi x 11)) (J4 (xi l 8) (xi x 9) (xi x 10) (xi x 11)) (J9 (xi l 8) (JP (xi l 8) u0 u1 (J9 (xi l 8) (xi x 2) (xi x 3) (xi x 4))) (JQ (xi l 8) u0 u1 (J9 (xi l 8) (xi x 2) (xi x 3) (xi x 4))) (JR (xi l 8) u0 u1 (J9 (xi l 8) (xi x 2) (xi x 3) (xi x 4))))
def Ji7:Jo:= [(0,Obj.blk 74 [(2,Cb rcl),(3,Cb rop),(4,Ci rer),(5,Cb rmo),(6,Cb ren),(7,Ci rla0),(8,Ci rla1),(9,Ci rla2),(10,Ci (xi l 0)),(11,Ci (xi l 1)),(12,Ci (xi l 2)),(13,Ci (xi l 3)),(14,Ci (xi l 4)),(15,Ci (xi l 5)),(16,Ci (xi l 6)),(17,Ci (xi l 7)),(18,Ci (xi l 8)),(19,Ci (xi l 9)),(20,Ci (xi l 10)),(21,Ci (xi l 11)),(22,Ci (xi l 12)),(23,Cb (xb l 13)),(24,Ci (xi l 14)),(25,Cb (xb l 15)),(26,Ci (xi l 16)),(27,Ci (xi l 17)),(28,Ci (xi l 18)),(29,Ci (xi l 19)),(30,Ci (xi l 20)),(31,Cb (xb l 21)),(32,SC.wh 1),(33,Cb has),(34,Ci (xi y 0)),(35,Ci (xi y 1)),(36,Ci (xi y 2)),(37,Ci (xi y 3)),(38,Ci (xi y 4)),(39,Ci (xi y 5)),(40,Ci (xi y 6)),(41,Ci (xi y 7)),(42,Ci (xi y 8)),(43,Ci (xi y 9)),(44,Ci (xi y 10)),(45,Ci (xi y 11)),(46,Ci (xi y 12)),(47,Cb (xb y 13)),(48,Ci (xi y 14)),(49,Cb (xb y 15)),(50,Ci (xi y 16)),(51,Ci (xi y 17)),(52,Ci (xi y 18)),(53,Ci (xi y 19)),(54,Ci (xi y 20)),(55,Cb (xb y 21)),(56,Ci st0),(57,Ci st1),(58,Cb rtr),(59,Ci pn0),(60,Ci pn1)]),(1,Obj.row true 40 22 (RowC.lst 61 jH C))]
end
theorem Jiy (x:List GC) (u0 u1 v0 v1:Int) (rcl rop:Bool) (rer:Int) (rmo ren:Bool) (rla0 rla1 rla2:Int) (l:List GC) (has:Bool) (y:List GC) (st0 st1:Int) (rtr:Bool) (pn0 pn1:Int) (C:LL):Runs (JGx (JB JVg) XR 88) (JGW.args (Jc JNv [.v x,.i u0,.i u1,.i v0,.i v1,.b rcl,.b rop,.i rer,.b rmo,.b ren,.i rla0,.i rla1,.i rla2,.v l,.b has,.v y,.i st0,.i st1,.b rtr,.i pn0,.i pn1])) (JGW.memo (Jc JNv [.v x,.i u0,.i u1,.i v0,.i v1,.b rcl,.b rop,.i rer,.b rmo,.b ren,.i rla0,.i rla1,.i rla2,.v l,.b has,.v y,.i st0,.i st1,.b rtr,.i pn0,.i pn1]) [C]) JGW.n (SV.agg [Ci (xi x 0),Ci (xi x 1),Ci (JP (xi l 8) u0 u1 (J9 (xi l 8) (xi x 2) (xi x 3) (xi x 4))),Ci (JQ (xi l 8) u0 u1 (J9 (xi l 8) (xi x 2) (xi x 3) (xi x 4))),Ci (JR (xi l 8) u0 u1 (J9 (xi l 8) (xi x 2) (xi x 3) (xi x 4))),Ci (JP (xi l 8) v0 v1 (J9 (xi l 8) (xi x 5) (xi x 6) (xi x 7))),Ci (JQ (xi l 8) v0 v1 (J9 (xi l 8) (xi x 5) (xi x 6) (xi x 7))),Ci (JR (xi l 8) v0 v1 (J9 (xi l 8) (xi x 5) (xi x 6) (xi x 7))),Ci (Ki x),Ci (XL x u0 u1 l),Ci (XO x u0 u1 l),Ci (XS x u0 u1 l),Ci (xi x 12),Cb (xb x 13),Ci (xi x 14),Cb (xb x 15),SC.int IntKind.i64 (SI.c 0),SC.int IntKind.i64 (SI.c 0),Ci (xi x 18),Ci (xi x 19),Ci (xi x 20),Cb (xb x 21)]) (Ji7 rcl rop rer rmo ren rla0 rla1 rla2 l has y st0 st1 rtr pn0 pn1 C) :=
  Runs.of1 (ps := []) (by kernel_rfl) (by simp)
def JSS:List Gm → Qr → Option CRes
  | [.v x,.i u0,.i u1,.i v0,.i v1,.b rcl,.b rop,.i rer,.b rmo,.b ren,.i rla0,.i rla1,.i rla2,.v l,.b has,.v y,.i st0,.i st1,.b rtr,.i pn0,.i pn1],[C] => some ⟨SV.agg [Ci (xi x 0),Ci (xi x 1),Ci (JP (xi l 8) u0 u1 (J9 (xi l 8) (xi x 2) (xi x 3) (xi x 4))),Ci (JQ (xi l 8) u0 u1 (J9 (xi l 8) (xi x 2) (xi x 3) (xi x 4))),Ci (JR (xi l 8) u0 u1 (J9 (xi l 8) (xi x 2) (xi x 3) (xi x 4))),Ci (JP (xi l 8) v0 v1 (J9 (xi l 8) (xi x 5) (xi x 6) (xi x 7))),Ci (JQ (xi l 8) v0 v1 (J9 (xi l 8) (xi x 5) (xi x 6) (xi x 7))),Ci (JR (xi l 8) v0 v1 (J9 (xi l 8) (xi x 5) (xi x 6) (xi x 7))),Ci (Ki x),Ci (XL x u0 u1 l),Ci (XO x u0 u1 l),Ci (XS x u0 u1 l),Ci (xi x 12),Cb (xb x 13),Ci (xi x 14),Cb (xb x 15),SC.int IntKind.i64 (SI.c 0),SC.int IntKind.i64 (SI.c 0),Ci (xi x 18),Ci (xi x 19),Ci (xi x 20),Cb (xb x 21)],
 Ji7 rcl rop rer rmo ren rla0 rla1 rla2 l has y st0 st1 rtr pn0 pn1 C,[],[],856⟩
  | _,_ => none
theorem JrK:Qk Tryz.prog 88 (Z9 JNv JGW JSS) := by
  refine Qd (KM JOC 88) fun ps ls r hr hn _ => ?_
  unfold JSS at hr
  split at hr
  · cases hr; exact ⟨_,Jiy _ _ _ _ _ _ _ _ _ _ _ _ _ _ _ _ _ _ _ _ _ _,fun _ => rfl⟩
  · cases hr
def Jcw:List (Nat × JW) := (88,Z9 JNv JGW JSS) :: JVg
theorem JTw:Known Tryz.prog (JB Jcw) XR := J7 JOC JrK
def kG:Tpl := ⟨[.one (.ptr 0 0)],YF,62⟩
def JGd:List GK := [.b,.b,.i,.b,.b,.i,.i,.i,.v Jy,.b,.v Jy,.i,.i,.b,.i,.i]
def JO (l:List GC):Int := IntKind.i64.wrap (xi l 16 * xi l 17)
def JYI (rcl rop:Bool) (rer:Int) (rmo ren:Bool) (rla0 rla1 rla2:Int) (l:List GC) (has:Bool) (y:List GC) (st0 st1:Int) (rtr:Bool) (pn0 pn1:Int) (C:LL):Jo := [(0,Obj.blk 74 [(2,Cb rcl),(3,Cb rop),(4,Ci rer),(5,Cb rmo),(6,Cb ren),(7,Ci rla0),(8,Ci rla1),(9,Ci rla2),(10,Ci (xi l 0)),(11,Ci (xi l 1)),(12,Ci (xi l 2)),(13,Ci (xi l 3)),(14,Ci (xi l 4)),(15,Ci (xi l 5)),(16,Ci (xi l 6)),(17,Ci (xi l 7)),(18,Ci (xi l 8)),(19,Ci (xi l 9)),(20,Ci (xi l 10)),(21,Ci (xi l 11)),(22,Ci (xi l 12)),(23,Cb (xb l 13)),(24,Ci (xi l 14)),(25,Cb (xb l 15)),(26,Ci (xi l 16)),(27,Ci (xi l 17)),(28,Ci (xi l 18)),(29,Ci (xi l 19)),(30,Ci (xi l 20)),(31,Cb (xb l 21)),(32,SC.wh 1),(33,Cb has),(34,Ci (xi y 0)),(35,Ci (xi y 1)),(36,Ci (xi y 2)),(37,Ci (xi y 3)),(38,Ci (xi y 4)),(39,Ci (xi y 5)),(40,Ci (xi y 6)),(41,Ci (xi y 7)),(42,Ci (xi y 8)),(43,Ci (xi y 9)),(44,Ci (xi y 10)),(45,Ci (xi y 11)),(46,Ci (xi y 12)),(47,Cb (xb y 13)),(48,Ci (xi y 14)),(49,Cb (xb y 15)),(50,Ci (xi y 16)),(51,Ci (xi y 17)),(52,Ci (xi y 18)),(53,Ci (xi y 19)),(54,Ci (xi y 20)),(55,Cb (xb y 21)),(56,Ci st0),(57,Ci st1),(58,Cb rtr),(59,Ci pn0),(60,Ci pn1)]),(1,Obj.row true 40 22 (RowC.lst 61 jH C))]
theorem Jfp (rcl rop:Bool) (rer:Int) (rmo ren:Bool) (rla0 rla1 rla2:Int) (l:List GC) (has:Bool) (y:List GC) (st0 st1:Int) (rtr:Bool) (pn0 pn1:Int) (C:LL):Runs (JGx (JB Jcw) XR 85) (kG.args (Jc JGd [.b rcl,.b rop,.i rer,.b rmo,.b ren,.i rla0,.i rla1,.i rla2,.v l,.b has,.v y,.i st0,.i st1,.b rtr,.i pn0,.i pn1])) (kG.memo (Jc JGd [.b rcl,.b rop,.i rer,.b rmo,.b ren,.i rla0,.i rla1,.i rla2,.v l,.b has,.v y,.i st0,.i st1,.b rtr,.i pn0,.i pn1]) [C]) kG.n (SV.one (Ci (JO l))) (JYI rcl rop rer rmo ren rla0 rla1 rla2 l has y st0 st1 rtr pn0 pn1 C) :=
  Runs.of1 (ps := []) (by kernel_rfl) (by simp)
def JJq:List Gm → Qr → Option CRes
  | [.b rcl,.b rop,.i rer,.b rmo,.b ren,.i rla0,.i rla1,.i rla2,.v l,.b has,.v y,.i st0,.i st1,.b rtr,.i pn0,.i pn1],[C] => some ⟨SV.one (Ci (JO l)),
 JYI rcl rop rer rmo ren rla0 rla1 rla2 l has y st0 st1 rtr pn0 pn1 C,[],[],75⟩
  | _,_ => none
theorem Jjt:Qk Tryz.prog 85 (Z9 JGd kG JJq) := by
  refine Qd (KM JTw 85) fun ps ls r hr hn _ => ?_
  unfold JJq at hr
  split at hr
  · cases hr; exact ⟨_,Jfp _ _ _ _ _ _ _ _ _ _ _ _ _ _ _ _ _,fun _ => rfl⟩
  · cases hr
def JS5:List (Nat × JW) := (85,Z9 JGd kG JJq) :: Jcw
theorem JLf:Known Tryz.prog (JB JS5) XR := J7 JTw Jjt
def Wb:Tpl := ⟨[.one (.wh 0),.agg pI],[(0,.row false 40 22 1 jH)],2⟩
def JCs:List GK := [.v Jy]
def Yz (x:List GC) (O:LL):LL := bif xi x 0 == 2 && (xi x 2 == xi x 5 && (xi x 3 == xi x 6 && xi x 4 == xi x 7)) then O else O ++ [JI2 x]
def jz (x:List GC) (O:LL):List Prop := [(xi x 0 == 2 && (xi x 2 == xi x 5 && (xi x 3 == xi x 6 && xi x 4 == xi x 7))) = false → (O.length + 1) * 176 ≤ 140737488355328 ∧ O.length + 1 ≤ 9223372036854775807]
theorem Jfr {x:List GC} {O:LL} (hW:∀ q ∈ ([O.length ≤ 1000000]:List Prop),q):∀ q ∈ (jz x O),q := by
  simp only [awc,awn,and_true] at hW
  unfold jz
  simp only [awc,awn,and_true]
  exact fun _ => ⟨by omega,by omega⟩
theorem JeO (x:List GC) (O:LL) (hNeeds:∀ pN ∈ (jz x O),pN):Runs (JGx (JB JS5) XR 118) (Wb.args (Jc JCs [.v x])) (Wb.memo (Jc JCs [.v x]) [O]) Wb.n (SV.one (SC.wh 50)) ([(50,Obj.row false 40 22 (RowC.lst 49 jH (Yz x O)))]) :=
  Runs.of1 (ps := (jz x O)) (by kernel_rfl) hNeeds
def JDX:List Gm → Qr → Option CRes
  | [.v x],[O] => some ⟨SV.one (SC.wh 50),
 [(50,Obj.row false 40 22 (RowC.lst 49 jH (Yz x O)))],[O.length ≤ 1000000],[],51⟩
  | _,_ => none
theorem Ja6:Qk Tryz.prog 118 (Z9 JCs Wb JDX) := by
  refine Qd (KM JLf 118) fun ps ls r hr hn _ => ?_
  unfold JDX at hr
  split at hr
  · cases hr; exact ⟨_,JeO _ _ (Jfr (by exact hn)),fun _ => rfl⟩
  · cases hr
def JS1:List (Nat × JW) := (118,Z9 JCs Wb JDX) :: JS5
theorem JLR:Known Tryz.prog (JB JS1) XR := J7 JLf Ja6
def Wq:Tpl := ⟨[.one .nilsl,.agg pI],[],0⟩
def JE2:List GK := [.v Jy]
def Yo (x:List GC):LL := bif xi x 0 == 2 && (xi x 2 == xi x 5 && (xi x 3 == xi x 6 && xi x 4 == xi x 7)) then [] else [JI2 x]
theorem Jaw (x:List GC):Runs (JGx (JB JS1) XR 118) (Wq.args (Jc JE2 [.v x])) (Wq.memo (Jc JE2 [.v x]) []) Wq.n (SV.one (SC.wh 48)) ([(48,Obj.row false 40 22 (RowC.lst 47 jH (Yo x)))]) :=
  Runs.of1 (ps := []) (by kernel_rfl) (by simp)
def JH5:List Gm → Qr → Option CRes
  | [.v x],[] => some ⟨SV.one (SC.wh 48),
 [(48,Obj.row false 40 22 (RowC.lst 47 jH (Yo x)))],[],[],49⟩
  | _,_ => none
theorem JgQ:Qk Tryz.prog 118 (Z9 JE2 Wq JH5) := by
  refine Qd (KM JLR 118) fun ps ls r hr hn _ => ?_
  unfold JH5 at hr
  split at hr
  · cases hr; exact ⟨_,Jaw _,fun _ => rfl⟩
  · cases hr
def jQ:List (Nat × JW) := (118,orS (Z9 JE2 Wq JH5) (Z9 JCs Wb JDX)) :: JS1
theorem JIe:Known Tryz.prog (JB jQ) XR := J7 JLR (JJN JgQ Ja6)
section
variable (id tag:Nat) (xs:LL) (g:Nat → Nat) (rcl rop:Bool) (rer:Int) (rmo ren:Bool) (rla0 rla1 rla2:Int) (l x:List GC) (u0 u1 v0 v1:Int) (c:Nat) (has:Bool) (y:List GC) (st0 st1:Int) (rtr:Bool) (pn0 pn1:Int) (C:LL) (j:Nat) (O:LL) (r:List Int)
def JjV:List (Nat × SC):= [(g 0,B rcl),(g 1,B rop),(g 2,I rer),(g 3,B rmo),(g 4,B ren),(g 5,I rla0),(g 6,I rla1),(g 7,I rla2),(g 8,I (xi l 0)),(g 9,I (xi l 1)),(g 10,I (xi l 2)),(g 11,I (xi l 3)),(g 12,I (xi l 4)),(g 13,I (xi l 5)),(g 14,I (xi l 6)),(g 15,I (xi l 7)),(g 16,I (xi l 8)),(g 17,I (xi l 9)),(g 18,I (xi l 10)),(g 19,I (xi l 11)),(g 20,I (xi l 12)),(g 21,B (xb l 13)),(g 22,I (xi l 14)),(g 23,B (xb l 15)),(g 24,I (xi l 16)),(g 25,I (xi l 17)),(g 26,I (xi l 18)),(g 27,I (xi l 19)),(g 28,I (xi l 20)),(g 29,B (xb l 21)),(g 30,.wh c),(g 31,B has),(g 32,I (xi y 0)),(g 33,I (xi y 1)),(g 34,I (xi y 2)),(g 35,I (xi y 3)),(g 36,I (xi y 4)),(g 37,I (xi y 5)),(g 38,I (xi y 6)),(g 39,I (xi y 7)),(g 40,I (xi y 8)),(g 41,I (xi y 9)),(g 42,I (xi y 10)),(g 43,I (xi y 11)),(g 44,I (xi y 12)),(g 45,B (xb y 13)),(g 46,I (xi y 14)),(g 47,B (xb y 15)),(g 48,I (xi y 16)),(g 49,I (xi y 17)),(g 50,I (xi y 18)),(g 51,I (xi y 19)),(g 52,I (xi y 20)),(g 53,B (xb y 21)),(g 54,I st0),(g 55,I st1),(g 56,B rtr),(g 57,I pn0),(g 58,I pn1)]
def JoK:Nat × SX.Obj:= (id,.row true 40 22 (.lst tag CKi xs))
def Jqi:List GC:= [.i (xi x 0),.i (xi x 1),.i (JP (xi l 8) u0 u1 (J9 (xi l 8) (xi x 2) (xi x 3) (xi x 4))),.i (JQ (xi l 8) u0 u1 (J9 (xi l 8) (xi x 2) (xi x 3) (xi x 4))),.i (JR (xi l 8) u0 u1 (J9 (xi l 8) (xi x 2) (xi x 3) (xi x 4))),.i (JP (xi l 8) v0 v1 (J9 (xi l 8) (xi x 5) (xi x 6) (xi x 7))),.i (JQ (xi l 8) v0 v1 (J9 (xi l 8) (xi x 5) (xi x 6) (xi x 7))),.i (JR (xi l 8) v0 v1 (J9 (xi l 8) (xi x 5) (xi x 6) (xi x 7))),.i (Ki x),.i (XL x u0 u1 (J2 l)),.i (XO x u0 u1 (J2 l)),.i (XS x u0 u1 (J2 l)),.i (xi x 12),.b (xb x 13),.i (xi x 14),.b (xb x 15),.i 0,.i 0,.i (xi x 18),.i (xi x 19),.i (xi x 20),.b (xb x 21)]
def rfS:LL:= bif J5 (r.getD 0 0) then Yz (Jqi l (Jj r) pn0 pn1 pn0 pn1) O else O ++ [JmK r]
def rfJ:LL:= (C.take j).foldl (rfS l pn0 pn1) []
def rfL:LL:= C.foldl (rfS l pn0 pn1) []
end
def rfF (l y:List GC) (rcl rop rmo ren has rtr:Bool) (rer rla0 rla1 rla2 st0 st1 pn0 pn1:Int) (C:LL):Fam Nat Unit where
  k := 120
  E j := [(4,ent 1000000000 (.one (I (Int.ofNat j)))),(3,ent 1000000001 (.one (.wh 70))),(0,ent 0 (.one (.ptr 0 0)))]
  M j := [(0,.blk 74 (JjV (fun k => k + 2) rcl rop rer rmo ren rla0 rla1 rla2 l 1 has y st0 st1 rtr pn0 pn1)),JoK 1 61 C,Ku 70 1000000002 (rfJ l pn0 pn1 C j)]
  out _ := .leaf (.exit 0) [(3,ent 66 (.one (.wh 70))),(0,ent 0 (.one (.ptr 0 0)))] [(0,.blk 74 (JjV (fun k => k + 2) rcl rop rer rmo ren rla0 rla1 rla2 l 1 has y st0 st1 rtr pn0 pn1)),JoK 1 61 C,Ku 70 71 (rfL l pn0 pn1 C)]
  fin _ := ()
  next j _ := j + 1
  J j := j ≤ C.length ∧ C.length ≤ 1000
  μ j := C.length - j
section
variable (l y:List GC) (rcl rop rmo ren has rtr:Bool) (rer rla0 rla1 rla2 st0 st1 pn0 pn1:Int) (C:LL) (j:Nat)
def Jmi:Prop:= decide (Int.ofNat j < Int.ofNat C.length) = true
def Jqk:Prop:= J5 ((C.getD (Int.ofNat j).toNat []).getD 0 0) = true
def JtP:Prop:= J5 ((C.getD (Int.ofNat j).toNat []).getD 0 0) = false
def JqS:Int:= J9 (xi l 8) (xi (Jj (C.getD (Int.ofNat j).toNat [])) 2) (xi (Jj (C.getD (Int.ofNat j).toNat [])) 3) (xi (Jj (C.getD (Int.ofNat j).toNat [])) 4)
def Jsu:Int:= J9 (xi l 8) (xi (Jj (C.getD (Int.ofNat j).toNat [])) 5) (xi (Jj (C.getD (Int.ofNat j).toNat [])) 6) (xi (Jj (C.getD (Int.ofNat j).toNat [])) 7)
def JVW:List Prop:=
 [Jmi C j → 0 ≤ Int.ofNat j ∧ (Int.ofNat j).toNat < C.length ∧ (Int.ofNat j).toNat < C.length ∧ (Jqk C j → (rfJ l pn0 pn1 C j).length ≤ 1000000) ∧ (JtP C j → ((rfJ l pn0 pn1 C j).length + 1) * 176 ≤ 140737488355328 ∧ (rfJ l pn0 pn1 C j).length + 1 ≤ 9223372036854775807),Jmi C j → (Jqk C j → ((rfF l y rcl rop rmo ren has rtr rer rla0 rla1 rla2 st0 st1 pn0 pn1 C).next j 0 ≤ C.length ∧ C.length ≤ 1000) ∧ (rfF l y rcl rop rmo ren has rtr rer rla0 rla1 rla2 st0 st1 pn0 pn1 C).μ ((rfF l y rcl rop rmo ren has rtr rer rla0 rla1 rla2 st0 st1 pn0 pn1 C).next j 0) < (rfF l y rcl rop rmo ren has rtr rer rla0 rla1 rla2 st0 st1 pn0 pn1 C).μ j ∧ (rfF l y rcl rop rmo ren has rtr rer rla0 rla1 rla2 st0 st1 pn0 pn1 C).fin ((rfF l y rcl rop rmo ren has rtr rer rla0 rla1 rla2 st0 st1 pn0 pn1 C).next j 0) = (rfF l y rcl rop rmo ren has rtr rer rla0 rla1 rla2 st0 st1 pn0 pn1 C).fin j ∧ Int.ofNat ((rfF l y rcl rop rmo ren has rtr rer rla0 rla1 rla2 st0 st1 pn0 pn1 C).next j 0) = IntKind.i64.wrap (Int.ofNat j + 1) ∧ rfJ l pn0 pn1 C ((rfF l y rcl rop rmo ren has rtr rer rla0 rla1 rla2 st0 st1 pn0 pn1 C).next j 0) = Yz [GC.i (xi (Jj (C.getD (Int.ofNat j).toNat [])) 0),GC.i (xi (Jj (C.getD (Int.ofNat j).toNat [])) 1),GC.i (JP (xi l 8) pn0 pn1 (JqS l C j)),GC.i (JQ (xi l 8) pn0 pn1 (JqS l C j)),GC.i (JR (xi l 8) pn0 pn1 (JqS l C j)),GC.i (JP (xi l 8) pn0 pn1 (Jsu l C j)),GC.i (JQ (xi l 8) pn0 pn1 (Jsu l C j)),GC.i (JR (xi l 8) pn0 pn1 (Jsu l C j)),GC.i (Ki (Jj (C.getD (Int.ofNat j).toNat []))),GC.i (XL (Jj (C.getD (Int.ofNat j).toNat [])) pn0 pn1 (J2 l)),GC.i (XO (Jj (C.getD (Int.ofNat j).toNat [])) pn0 pn1 (J2 l)),GC.i (XS (Jj (C.getD (Int.ofNat j).toNat [])) pn0 pn1 (J2 l)),GC.i (xi (Jj (C.getD (Int.ofNat j).toNat [])) 12),GC.b (xb (Jj (C.getD (Int.ofNat j).toNat [])) 13),GC.i (xi (Jj (C.getD (Int.ofNat j).toNat [])) 14),GC.b (xb (Jj (C.getD (Int.ofNat j).toNat [])) 15),GC.i 0,GC.i 0,GC.i (xi (Jj (C.getD (Int.ofNat j).toNat [])) 18),GC.i (xi (Jj (C.getD (Int.ofNat j).toNat [])) 19),GC.i (xi (Jj (C.getD (Int.ofNat j).toNat [])) 20),GC.b (xb (Jj (C.getD (Int.ofNat j).toNat [])) 21)] (rfJ l pn0 pn1 C j)) ∧ (JtP C j → ((rfF l y rcl rop rmo ren has rtr rer rla0 rla1 rla2 st0 st1 pn0 pn1 C).next j 1 ≤ C.length ∧ C.length ≤ 1000) ∧ (rfF l y rcl rop rmo ren has rtr rer rla0 rla1 rla2 st0 st1 pn0 pn1 C).μ ((rfF l y rcl rop rmo ren has rtr rer rla0 rla1 rla2 st0 st1 pn0 pn1 C).next j 1) < (rfF l y rcl rop rmo ren has rtr rer rla0 rla1 rla2 st0 st1 pn0 pn1 C).μ j ∧ (rfF l y rcl rop rmo ren has rtr rer rla0 rla1 rla2 st0 st1 pn0 pn1 C).fin ((rfF l y rcl rop rmo ren has rtr rer rla0 rla1 rla2 st0 st1 pn0 pn1 C).next j 1) = (rfF l y rcl rop rmo ren has rtr rer rla0 rla1 rla2 st0 st1 pn0 pn1 C).fin j ∧ Int.ofNat ((rfF l y rcl rop rmo ren has rtr rer rla0 rla1 rla2 st0 st1 pn0 pn1 C).next j 1) = IntKind.i64.wrap (Int.ofNat j + 1) ∧ rfJ l pn0 pn1 C ((rfF l y rcl rop rmo ren has rtr rer rla0 rla1 rla2 st0 st1 pn0 pn1 C).next j 1) = rfJ l pn0 pn1 C j ++ [JmK (C.getD (Int.ofNat j).toNat [])]),decide (Int.ofNat j < Int.ofNat C.length) = false → rfL l pn0 pn1 C = rfJ l pn0 pn1 C j]
end
theorem JrE (l y:List GC) (rcl rop rmo ren has rtr:Bool) (rer rla0 rla1 rla2 st0 st1 pn0 pn1:Int) (C:LL) (j:Nat) (hNeeds:∀ pN ∈ (JVW l y rcl rop rmo ren has rtr rer rla0 rla1 rla2 st0 st1 pn0 pn1 C j),pN):Jz (XU (rfF l y rcl rop rmo ren has rtr rer rla0 rla1 rla2 st0 st1 pn0 pn1 C) (QU Tryz.prog (JB jQ) XR 87 0) 65 j) :=
  Jz.of (ps := (JVW l y rcl rop rmo ren has rtr rer rla0 rla1 rla2 st0 st1 pn0 pn1 C j)) (by kernel_rfl) (by kernel_rfl) hNeeds
theorem JXl (l:List GC) (pn0 pn1:Int) (C:LL) (j:Nat) (h:j < C.length):rfJ l pn0 pn1 C (j + 1) = rfS l pn0 pn1 (rfJ l pn0 pn1 C j) (C.getD j []) := by
  have e:C.getD j [] = C[j] := by simp [List.getD,List.getElem?_eq_getElem h]
  unfold rfJ
  rw [List.take_succ_eq_append_getElem h,List.foldl_append,e]
  rfl
theorem JnM (l:List GC) (pn0 pn1:Int) (C:LL):rfJ l pn0 pn1 C C.length = rfL l pn0 pn1 C := by
  unfold rfJ; rw [List.take_length]; rfl
theorem Juy (l:List GC) (pn0 pn1:Int) (O:LL) (r:List Int):(rfS l pn0 pn1 O r).length ≤ O.length + 1 := by
  unfold rfS Yz
  cases J5 (r.getD 0 0)
  · rw [cond_false,List.length_append]; exact Nat.le_refl _
  · rw [cond_true]
    cases (_:Bool) && _
    · rw [cond_false,List.length_append]; exact Nat.le_refl _
    · rw [cond_true]; omega
theorem JdP (l:List GC) (pn0 pn1:Int) (C:LL):∀ (j:Nat),j ≤ C.length → (rfJ l pn0 pn1 C j).length ≤ j
  | 0,_ => Nat.le_refl _
  | j + 1,h => by
    have h1 := JdP l pn0 pn1 C j (by omega)
    have h2 := Juy l pn0 pn1 (rfJ l pn0 pn1 C j) (C.getD j [])
    rw [JXl _ _ _ _ _ (by omega)]; omega
theorem Jov (l y:List GC) (rcl rop rmo ren has rtr:Bool) (rer rla0 rla1 rla2 st0 st1 pn0 pn1:Int) (C:LL):Qv (rfF l y rcl rop rmo ren has rtr rer rla0 rla1 rla2 st0 st1 pn0 pn1 C) (QU Tryz.prog (JB jQ) XR 87 0) 65 := by
  intro j hJ
  obtain ⟨h1,h2⟩:j ≤ C.length ∧ C.length ≤ 1000 := hJ
  refine JrE l y rcl rop rmo ren has rtr rer rla0 rla1 rla2 st0 st1 pn0 pn1 C j ?_
  unfold JVW
  have hl := JdP l pn0 pn1 C j h1
  have lt:Jmi C j → j < C.length := by unfold Jmi; simp
  simp only [awc,awn,and_true]
  have e6 (h:j < C.length):IntKind.i64.wrap (Int.ofNat j + 1) = Int.ofNat (j + 1) := X7 (by simp; omega) (by simp; omega)
  refine ⟨fun h => ⟨by simp,lt h,lt h,fun _ => by omega,fun _ => ⟨by omega,by omega⟩⟩,fun h => ⟨fun h1 => ⟨⟨lt h,h2⟩,by have := lt h; show C.length - (j + 1) < C.length - j; omega,trivial,(e6 (lt h)).symm,?_⟩,fun h1 => ⟨⟨lt h,h2⟩,by have := lt h; show C.length - (j + 1) < C.length - j; omega,trivial,(e6 (lt h)).symm,?_⟩⟩,fun h => ?_⟩
  · show rfJ l pn0 pn1 C (j + 1) = _
    rw [JXl _ _ _ _ _ (lt h)]; unfold rfS
    unfold Jqk at h1
    rw [show J5 ((C.getD j []).getD 0 0) = true by simpa using h1]; rfl
  · show rfJ l pn0 pn1 C (j + 1) = _
    rw [JXl _ _ _ _ _ (lt h)]; unfold rfS
    unfold JtP at h1
    rw [show J5 ((C.getD j []).getD 0 0) = false by simpa using h1]; rfl
  · have:j = C.length := by simp at h; omega
    rw [this]; exact (JnM ..).symm
def JxI:QH := fun env mem m => match SX.JC mem 0,SX.JC mem 1 with
  | some (.blk _ ((_,.bool rcl) :: (_,.bool rop) :: (_,.int _ rer) :: (_,.bool rmo) :: (_,.bool ren) :: (_,.int _ rla0) :: (_,.int _ rla1) :: (_,.int _ rla2) :: r)),some (.row _ _ _ (.lst _ _ C)) => (match JcP Jy r with
    | some (l,_ :: (_,.bool has) :: r2) => (match JcP Jy r2 with
      | some (y,[(_,.int _ st0),(_,.int _ st1),(_,.bool rtr),(_,.int _ pn0),(_,.int _ pn1)]) => jY (rfF l y rcl.val rop.val rmo.val ren.val has.val rtr.val rer.val rla0.val rla1.val rla2.val st0.val st1.val pn0.val pn1.val C) 65 (fun _ _ => some 0) env mem m
      | _ => none)
    | _ => none)
  | _,_ => none
def WV:FuncId → Nat → Option QH := JBZ XR 87 3 JxI
theorem Jbj:Known Tryz.prog (JB jQ) WV := by
  refine Qj 0 JIe (by kernel_rfl) (Qy fun env mem m x h => ?_)
  unfold JxI at h
  have hlen:(QZ Tryz.prog 87).length = 1 := by kernel_rfl
  split at h
  · split at h
    · split at h
      · exact ⟨_,XF (Qa Zy JIe (by omega)) (Jov _ _ _ _ _ _ _ _ _ _ _ _ _ _ _ _ _),h⟩
      · cases h
    · cases h
  · cases h
def JCk:Tpl := ⟨[.one (.ptr 0 0)],YF,62⟩
def JKY:List GK := [.b,.b,.i,.b,.b,.i,.i,.i,.v Jy,.b,.v Jy,.i,.i,.b,.i,.i]
def ZC (l:List GC) (pn0 pn1:Int) (C:LL):LL := rfL (J2 l) pn0 pn1 C
def JAa (l:List GC) (pn0 pn1:Int) (C:LL):List Prop := [0 ≤ C.length ∧ C.length ≤ 1000,Int.ofNat 0 = 0,rfJ (J2 l) pn0 pn1 C 0 = []]
theorem JiS {l:List GC} {pn0:Int} {pn1:Int} {C:LL} (hW:∀ q ∈ ([C.length ≤ 1000]:List Prop),q):∀ q ∈ (JAa l pn0 pn1 C),q := by
  simp only [awc,awn,and_true] at hW
  unfold JAa
  simp only [awc,awn,and_true]
  exact ⟨⟨Nat.zero_le _,hW⟩,rfl,rfl⟩
def JcK (rcl rop:Bool) (rer:Int) (rmo ren:Bool) (rla0 rla1 rla2:Int) (l:List GC) (has:Bool) (y:List GC) (st0 st1:Int) (rtr:Bool) (pn0 pn1:Int) (C:LL):Jo := [(0,Obj.blk 74 [(2,Cb rcl),(3,Cb rop),(4,Ci rer),(5,Cb rmo),(6,Cb ren),(7,Ci rla0),(8,Ci rla1),(9,Ci rla2),(10,Ci (xi l 0)),(11,Ci (xi l 1)),(12,Ci (xi l 2)),(13,Ci (xi l 3)),(14,Ci (xi l 4)),(15,Ci (xi l 5)),(16,Ci (xi l 6)),(17,Ci (xi l 7)),(18,Ci (xi l 8)),(19,Ci (xi l 9)),(20,Ci (xi l 10)),(21,Ci (xi l 11)),(22,Ci (xi l 12)),(23,Cb (xb l 13)),(24,Ci (xi l 14)),(25,Cb (xb l 15)),(26,Ci (xi l 16)),(27,Ci (xi l 17)),(28,Ci (xi l 18)),(29,Ci (xi l 19)),(30,Ci (xi l 20)),(31,Cb (xb l 21)),(194,SC.wh 192),(33,Cb has),(34,Ci (xi y 0)),(35,Ci (xi y 1)),(36,Ci (xi y 2)),(37,Ci (xi y 3)),(38,Ci (xi y 4)),(39,Ci (xi y 5)),(40,Ci (xi y 6)),(41,Ci (xi y 7)),(42,Ci (xi y 8)),(43,Ci (xi y 9)),(44,Ci (xi y 10)),(45,Ci (xi y 11)),(46,Ci (xi y 12)),(47,Cb (xb y 13)),(48,Ci (xi y 14)),(49,Cb (xb y 15)),(50,Ci (xi y 16)),(51,Ci (xi y 17)),(52,Ci (xi y 18)),(53,Ci (xi y 19)),(54,Ci (xi y 20)),(55,Cb (xb y 21)),(56,Ci st0),(57,Ci st1),(58,Cb rtr),(59,Ci pn0),(60,Ci pn1)]),(192,Obj.row true 40 22 (RowC.lit 193 [])),(1,Obj.row true 40 22 (RowC.lst 61 jH C)),(70,Obj.row false 40 22 (RowC.lst 71 jH (ZC l pn0 pn1 C)))]
theorem Jh0 (rcl rop:Bool) (rer:Int) (rmo ren:Bool) (rla0 rla1 rla2:Int) (l:List GC) (has:Bool) (y:List GC) (st0 st1:Int) (rtr:Bool) (pn0 pn1:Int) (C:LL) (hNeeds:∀ pN ∈ (JAa l pn0 pn1 C),pN):Runs (JGx (JB jQ) WV 87) (JCk.args (Jc JKY [.b rcl,.b rop,.i rer,.b rmo,.b ren,.i rla0,.i rla1,.i rla2,.v l,.b has,.v y,.i st0,.i st1,.b rtr,.i pn0,.i pn1])) (JCk.memo (Jc JKY [.b rcl,.b rop,.i rer,.b rmo,.b ren,.i rla0,.i rla1,.i rla2,.v l,.b has,.v y,.i st0,.i st1,.b rtr,.i pn0,.i pn1]) [C]) JCk.n (SV.one (SC.wh 70)) (JcK rcl rop rer rmo ren rla0 rla1 rla2 l has y st0 st1 rtr pn0 pn1 C) :=
  Runs.of1 (ps := (JAa l pn0 pn1 C)) (by kernel_rfl) hNeeds
def JMw:List Gm → Qr → Option CRes
  | [.b rcl,.b rop,.i rer,.b rmo,.b ren,.i rla0,.i rla1,.i rla2,.v l,.b has,.v y,.i st0,.i st1,.b rtr,.i pn0,.i pn1],[C] => some ⟨SV.one (SC.wh 70),
 JcK rcl rop rer rmo ren rla0 rla1 rla2 l has y st0 st1 rtr pn0 pn1 C,[C.length ≤ 1000],[],195⟩
  | _,_ => none
theorem Jor:Qk Tryz.prog 87 (Z9 JKY JCk JMw) := by
  refine Qd (KM Jbj 87) fun ps ls r hr hn _ => ?_
  unfold JMw at hr
  split at hr
  · cases hr; exact ⟨_,Jh0 _ _ _ _ _ _ _ _ _ _ _ _ _ _ _ _ _ (JiS (by exact hn)),fun _ => rfl⟩
  · cases hr
def JZr:List (Nat × JW) := (87,Z9 JKY JCk JMw) :: jQ
theorem JNx:Known Tryz.prog (JB JZr) WV := J7 Jbj Jor
theorem JN4 (l:List GC) (a b:Int) (C:LL):(ZC l a b C).length ≤ C.length := by
  unfold ZC
  rw [← JnM]
  exact JdP _ _ _ _ _ (Nat.le_refl _)
theorem Jmt {c:Bool} {a b:LL} (h:a.length ≤ 1) (h':b.length ≤ 1):(bif c then a else b).length ≤ 1 := by cases c <;> assumption
theorem JOo (x:List GC):(Yo x).length ≤ 1 := by
  unfold Yo
  repeat' first | exact Nat.le_refl _ | exact Nat.zero_le _ | refine Jmt ?_ ?_
def JD2:Tpl := ⟨[.one (.ptr 0 0),.agg pI],YF,62⟩
def JKD:List GK := [.v Jy,.b,.b,.i,.b,.b,.i,.i,.i,.v Jy,.b,.v Jy,.i,.i,.b,.i,.i]
section
variable (x l:List GC) (rtr:Bool) (st1 st0:Int) (y:List GC) (q0:Nat) (has:Bool) (C:LL)
def Wi:Int:= Qb (J3 (xi l 8) (xi x 2) (xi x 3) (xi x 4)) (J4 (xi l 8) (xi x 2) (xi x 3) (xi x 4)) (J3 (xi l 8) (xi x 5) (xi x 6) (xi x 7)) (J4 (xi l 8) (xi x 5) (xi x 6) (xi x 7)) (JL (xi l 8) (J2 x)) (JM (xi l 8) (J2 x)) (JJ (J2 x)) (JO (J2 l))
def JCc:Int:= bif Wi x l != 0 then Wi x l else 0
def Ys:Int:= Kd (J3 (xi l 8) (xi x 2) (xi x 3) (xi x 4)) (J4 (xi l 8) (xi x 2) (xi x 3) (xi x 4)) (J3 (xi l 8) (xi x 5) (xi x 6) (xi x 7)) (J4 (xi l 8) (xi x 5) (xi x 6) (xi x 7)) (JL (xi l 8) (J2 x)) (JM (xi l 8) (J2 x)) (JJ (J2 x)) (JO (J2 l))
def Yv:Int:= Kf (J3 (xi l 8) (xi x 2) (xi x 3) (xi x 4)) (J4 (xi l 8) (xi x 2) (xi x 3) (xi x 4)) (J3 (xi l 8) (xi x 5) (xi x 6) (xi x 7)) (J4 (xi l 8) (xi x 5) (xi x 6) (xi x 7)) (JL (xi l 8) (J2 x)) (JM (xi l 8) (J2 x)) (JJ (J2 x)) (JO (J2 l))
def JOh:LL:= bif Qb (J3 (xi l 8) (xi x 2) (xi x 3) (xi x 4)) (J4 (xi l 8) (xi x 2) (xi x 3) (xi x 4)) (J3 (xi l 8) (xi x 5) (xi x 6) (xi x 7)) (J4 (xi l 8) (xi x 5) (xi x 6) (xi x 7)) (JL (xi l 8) (J2 x)) (JM (xi l 8) (J2 x)) (JJ (J2 x)) (JO (J2 l)) != 0 then [] else [[xi l 0,xi l 1,JP (xi l 8) (J3 (xi l 8) (xi l 2) (xi l 3) (xi l 4)) (J4 (xi l 8) (xi l 2) (xi l 3) (xi l 4)) (J9 (xi l 8) (xi l 2) (xi l 3) (xi l 4)),JQ (xi l 8) (J3 (xi l 8) (xi l 2) (xi l 3) (xi l 4)) (J4 (xi l 8) (xi l 2) (xi l 3) (xi l 4)) (J9 (xi l 8) (xi l 2) (xi l 3) (xi l 4)),JR (xi l 8) (J3 (xi l 8) (xi l 2) (xi l 3) (xi l 4)) (J4 (xi l 8) (xi l 2) (xi l 3) (xi l 4)) (J9 (xi l 8) (xi l 2) (xi l 3) (xi l 4)),JP (xi l 8) (Ys x l) (Yv x l) (J9 (xi l 8) (xi l 5) (xi l 6) (xi l 7)),JQ (xi l 8) (Ys x l) (Yv x l) (J9 (xi l 8) (xi l 5) (xi l 6) (xi l 7)),JR (xi l 8) (Ys x l) (Yv x l) (J9 (xi l 8) (xi l 5) (xi l 6) (xi l 7)),Ki (J2 l),XL (J2 l) (J3 (xi l 8) (xi l 2) (xi l 3) (xi l 4)) (J4 (xi l 8) (xi l 2) (xi l 3) (xi l 4)) (J2 l),XO (J2 l) (J3 (xi l 8) (xi l 2) (xi l 3) (xi l 4)) (J4 (xi l 8) (xi l 2) (xi l 3) (xi l 4)) (J2 l),XS (J2 l) (J3 (xi l 8) (xi l 2) (xi l 3) (xi l 4)) (J4 (xi l 8) (xi l 2) (xi l 3) (xi l 4)) (J2 l),xi l 12,bif xb l 13 then 1 else 0,xi l 14,bif xb l 15 then 1 else 0,0,0,xi l 18,xi l 19,xi l 20,bif xb l 21 then 1 else 0]] ++ ZC (J2 l) (Ys x l) (Yv x l) C
def JPR:Bool:= bif Qb (J3 (xi l 8) (xi x 2) (xi x 3) (xi x 4)) (J4 (xi l 8) (xi x 2) (xi x 3) (xi x 4)) (J3 (xi l 8) (xi x 5) (xi x 6) (xi x 7)) (J4 (xi l 8) (xi x 5) (xi x 6) (xi x 7)) (JL (xi l 8) (J2 x)) (JM (xi l 8) (J2 x)) (JJ (J2 x)) (JO (J2 l)) != 0 then has else true
def Qx:Int:= bif Qb (J3 (xi l 8) (xi x 2) (xi x 3) (xi x 4)) (J4 (xi l 8) (xi x 2) (xi x 3) (xi x 4)) (J3 (xi l 8) (xi x 5) (xi x 6) (xi x 7)) (J4 (xi l 8) (xi x 5) (xi x 6) (xi x 7)) (JL (xi l 8) (J2 x)) (JM (xi l 8) (J2 x)) (JJ (J2 x)) (JO (J2 l)) != 0 then xi y q0 else xi x q0
def JRj:Int:= Qx x l y 0
def JRL:Int:= Qx x l y 1
def JSb:Int:= Qx x l y 2
def JSF:Int:= Qx x l y 3
def JSZ:Int:= Qx x l y 4
def JSL:Int:= Qx x l y 5
def JPy:Int:= Qx x l y 6
def JRx:Int:= Qx x l y 7
def JPL:Int:= Qx x l y 8
def JPQ:Int:= Qx x l y 9
def JRo:Int:= Qx x l y 10
def JPs:Int:= Qx x l y 11
def JPN:Int:= Qx x l y 12
def JC9:Bool:= bif Qb (J3 (xi l 8) (xi x 2) (xi x 3) (xi x 4)) (J4 (xi l 8) (xi x 2) (xi x 3) (xi x 4)) (J3 (xi l 8) (xi x 5) (xi x 6) (xi x 7)) (J4 (xi l 8) (xi x 5) (xi x 6) (xi x 7)) (JL (xi l 8) (J2 x)) (JM (xi l 8) (J2 x)) (JJ (J2 x)) (JO (J2 l)) != 0 then xb y q0 else xb x q0
def JQ8:Bool:= JC9 x l y 13
def JQ0:Int:= Qx x l y 14
def JRQ:Bool:= JC9 x l y 15
def JPg:Int:= Qx x l y 16
def JPc:Int:= Qx x l y 17
def JRW:Int:= Qx x l y 18
def JRM:Int:= Qx x l y 19
def JQD:Int:= Qx x l y 20
def JPh:Bool:= JC9 x l y 21
def JGO:Int:= bif Qb (J3 (xi l 8) (xi x 2) (xi x 3) (xi x 4)) (J4 (xi l 8) (xi x 2) (xi x 3) (xi x 4)) (J3 (xi l 8) (xi x 5) (xi x 6) (xi x 7)) (J4 (xi l 8) (xi x 5) (xi x 6) (xi x 7)) (JL (xi l 8) (J2 x)) (JM (xi l 8) (J2 x)) (JJ (J2 x)) (JO (J2 l)) != 0 then st0 else Kd (J3 (xi l 8) (xi x 2) (xi x 3) (xi x 4)) (J4 (xi l 8) (xi x 2) (xi x 3) (xi x 4)) (J3 (xi l 8) (xi x 5) (xi x 6) (xi x 7)) (J4 (xi l 8) (xi x 5) (xi x 6) (xi x 7)) (JL (xi l 8) (J2 x)) (JM (xi l 8) (J2 x)) (JJ (J2 x)) (JO (J2 l))
def JG7:Int:= bif Qb (J3 (xi l 8) (xi x 2) (xi x 3) (xi x 4)) (J4 (xi l 8) (xi x 2) (xi x 3) (xi x 4)) (J3 (xi l 8) (xi x 5) (xi x 6) (xi x 7)) (J4 (xi l 8) (xi x 5) (xi x 6) (xi x 7)) (JL (xi l 8) (J2 x)) (JM (xi l 8) (J2 x)) (JJ (J2 x)) (JO (J2 l)) != 0 then st1 else Kf (J3 (xi l 8) (xi x 2) (xi x 3) (xi x 4)) (J4 (xi l 8) (xi x 2) (xi x 3) (xi x 4)) (J3 (xi l 8) (xi x 5) (xi x 6) (xi x 7)) (J4 (xi l 8) (xi x 5) (xi x 6) (xi x 7)) (JL (xi l 8) (J2 x)) (JM (xi l 8) (J2 x)) (JJ (J2 x)) (JO (J2 l))
def JQ6:Bool:= Qb (J3 (xi l 8) (xi x 2) (xi x 3) (xi x 4)) (J4 (xi l 8) (xi x 2) (xi x 3) (xi x 4)) (J3 (xi l 8) (xi x 5) (xi x 6) (xi x 7)) (J4 (xi l 8) (xi x 5) (xi x 6) (xi x 7)) (JL (xi l 8) (J2 x)) (JM (xi l 8) (J2 x)) (JJ (J2 x)) (JO (J2 l)) != 0 && rtr
def JFe:LL:= bif Qb (J3 (xi l 8) (xi x 2) (xi x 3) (xi x 4)) (J4 (xi l 8) (xi x 2) (xi x 3) (xi x 4)) (J3 (xi l 8) (xi x 5) (xi x 6) (xi x 7)) (J4 (xi l 8) (xi x 5) (xi x 6) (xi x 7)) (JL (xi l 8) (J2 x)) (JM (xi l 8) (J2 x)) (JJ (J2 x)) (JO (J2 l)) != 0 then C else []
def JBw:List Prop:= [(Qb (J3 (xi l 8) (xi x 2) (xi x 3) (xi x 4)) (J4 (xi l 8) (xi x 2) (xi x 3) (xi x 4)) (J3 (xi l 8) (xi x 5) (xi x 6) (xi x 7)) (J4 (xi l 8) (xi x 5) (xi x 6) (xi x 7)) (JL (xi l 8) (J2 x)) (JM (xi l 8) (J2 x)) (JJ (J2 x)) (JO (J2 l)) != 0) = false → C.length ≤ 1000 ∧ (1 + (ZC (J2 l) (Kd (J3 (xi l 8) (xi x 2) (xi x 3) (xi x 4)) (J4 (xi l 8) (xi x 2) (xi x 3) (xi x 4)) (J3 (xi l 8) (xi x 5) (xi x 6) (xi x 7)) (J4 (xi l 8) (xi x 5) (xi x 6) (xi x 7)) (JL (xi l 8) (J2 x)) (JM (xi l 8) (J2 x)) (JJ (J2 x)) (JO (J2 l))) (Kf (J3 (xi l 8) (xi x 2) (xi x 3) (xi x 4)) (J4 (xi l 8) (xi x 2) (xi x 3) (xi x 4)) (J3 (xi l 8) (xi x 5) (xi x 6) (xi x 7)) (J4 (xi l 8) (xi x 5) (xi x 6) (xi x 7)) (JL (xi l 8) (J2 x)) (JM (xi l 8) (J2 x)) (JJ (J2 x)) (JO (J2 l))) C).length) * 176 ≤ 140737488355328 ∧ 1 + (ZC (J2 l) (Kd (J3 (xi l 8) (xi x 2) (xi x 3) (xi x 4)) (J4 (xi l 8) (xi x 2) (xi x 3) (xi x 4)) (J3 (xi l 8) (xi x 5) (xi x 6) (xi x 7)) (J4 (xi l 8) (xi x 5) (xi x 6) (xi x 7)) (JL (xi l 8) (J2 x)) (JM (xi l 8) (J2 x)) (JJ (J2 x)) (JO (J2 l))) (Kf (J3 (xi l 8) (xi x 2) (xi x 3) (xi x 4)) (J4 (xi l 8) (xi x 2) (xi x 3) (xi x 4)) (J3 (xi l 8) (xi x 5) (xi x 6) (xi x 7)) (J4 (xi l 8) (xi x 5) (xi x 6) (xi x 7)) (JL (xi l 8) (J2 x)) (JM (xi l 8) (J2 x)) (JJ (J2 x)) (JO (J2 l))) C).length ≤ 9223372036854775807]
end
theorem Jh5 {x:List GC} {l:List GC} {C:LL} (hW:∀ q ∈ ([C.length ≤ 1000]:List Prop),q):∀ q ∈ (JBw x l C),q := by
  simp only [awc,awn,and_true] at hW
  unfold JBw
  simp only [awc,awn,and_true]
  have r := fun a b => JN4 (J2 l) a b C
  exact fun _ => ⟨hW,Nat.le_trans (Nat.mul_le_mul_right _ (Nat.add_le_add_left (r _ _) 1)) (by omega),Nat.le_trans (Nat.add_le_add_left (r _ _) 1) (by omega)⟩
def JbI (x:List GC) (rcl rop:Bool) (rer:Int) (rmo ren:Bool) (rla0 rla1 rla2:Int) (l:List GC) (has:Bool) (y:List GC) (st0 st1:Int) (rtr:Bool) (pn0 pn1:Int) (C:LL):Jo := [(11157,Obj.row false 40 22 (RowC.lst 11156 jH (JOh x l C))),(0,Obj.blk 74 [(2,Cb rcl),(3,Cb rop),(4,Ci rer),(5,Cb rmo),(6,Cb ren),(7,Ci rla0),(8,Ci rla1),(9,Ci rla2),(10,Ci (xi l 0)),(11,Ci (xi l 1)),(12,Ci (xi l 2)),(13,Ci (xi l 3)),(14,Ci (xi l 4)),(15,Ci (xi l 5)),(16,Ci (xi l 6)),(17,Ci (xi l 7)),(18,Ci (xi l 8)),(19,Ci (xi l 9)),(20,Ci (xi l 10)),(21,Ci (xi l 11)),(22,Ci (xi l 12)),(23,Cb (xb l 13)),(24,Ci (xi l 14)),(25,Cb (xb l 15)),(26,Ci (xi l 16)),(27,Ci (xi l 17)),(28,Ci (xi l 18)),(29,Ci (xi l 19)),(30,Ci (xi l 20)),(31,Cb (xb l 21)),(11155,SC.wh 11153),(11159,Cb (JPR x l has)),(11160,Ci (JRj x l y)),(11161,Ci (JRL x l y)),(11162,Ci (JSb x l y)),(11163,Ci (JSF x l y)),(11164,Ci (JSZ x l y)),(11165,Ci (JSL x l y)),(11166,Ci (JPy x l y)),(11167,Ci (JRx x l y)),(11168,Ci (JPL x l y)),(11169,Ci (JPQ x l y)),(11170,Ci (JRo x l y)),(11171,Ci (JPs x l y)),(11172,Ci (JPN x l y)),(11173,Cb (JQ8 x l y)),(11174,Ci (JQ0 x l y)),(11175,Cb (JRQ x l y)),(11176,Ci (JPg x l y)),(11177,Ci (JPc x l y)),(11178,Ci (JRW x l y)),(11179,Ci (JRM x l y)),(11180,Ci (JQD x l y)),(11181,Cb (JPh x l y)),(11182,Ci (JGO x l st0)),(11183,Ci (JG7 x l st1)),(11184,Cb (JQ6 x l rtr)),(11185,Ci (JGO x l pn0)),(11186,Ci (JG7 x l pn1))]),(11153,Obj.row true 40 22 (RowC.lst 11158 jH (JFe x l C))),(1,Obj.row true 40 22 (RowC.lst 61 jH C))]
theorem Jhc (x:List GC) (rcl rop:Bool) (rer:Int) (rmo ren:Bool) (rla0 rla1 rla2:Int) (l:List GC) (has:Bool) (y:List GC) (st0 st1:Int) (rtr:Bool) (pn0 pn1:Int) (C:LL) (hNeeds:∀ pN ∈ (JBw x l C),pN):Runs (JGx (JB JZr) WV 62) (JD2.args (Jc JKD [.v x,.b rcl,.b rop,.i rer,.b rmo,.b ren,.i rla0,.i rla1,.i rla2,.v l,.b has,.v y,.i st0,.i st1,.b rtr,.i pn0,.i pn1])) (JD2.memo (Jc JKD [.v x,.b rcl,.b rop,.i rer,.b rmo,.b ren,.i rla0,.i rla1,.i rla2,.v l,.b has,.v y,.i st0,.i st1,.b rtr,.i pn0,.i pn1]) [C]) JD2.n (SV.tup [(false,[SC.wh 11157]),(false,[Ci (JCc x l)])]) (JbI x rcl rop rer rmo ren rla0 rla1 rla2 l has y st0 st1 rtr pn0 pn1 C) :=
  Runs.of1 (ps := (JBw x l C)) (by kernel_rfl) hNeeds
def JLp:List Gm → Qr → Option CRes
  | [.v x,.b rcl,.b rop,.i rer,.b rmo,.b ren,.i rla0,.i rla1,.i rla2,.v l,.b has,.v y,.i st0,.i st1,.b rtr,.i pn0,.i pn1],[C] => some ⟨SV.tup [(false,[SC.wh 11157]),(false,[Ci (JCc x l)])],
 JbI x rcl rop rer rmo ren rla0 rla1 rla2 l has y st0 st1 rtr pn0 pn1 C,[C.length ≤ 1000],[],11187⟩
  | _,_ => none
theorem Jnm:Qk Tryz.prog 62 (Z9 JKD JD2 JLp) := by
  refine Qd (KM JNx 62) fun ps ls r hr hn _ => ?_
  unfold JLp at hr
  split at hr
  · cases hr; exact ⟨_,Jhc _ _ _ _ _ _ _ _ _ _ _ _ _ _ _ _ _ _ (Jh5 (by exact hn)),fun _ => rfl⟩
  · cases hr
def JaG:List (Nat × JW) := (62,Z9 JKD JD2 JLp) :: JZr
theorem JOR:Known Tryz.prog (JB JaG) WV := J7 JNx Jnm
def Wy:Tpl := ⟨[.one (.ptr 0 0),.agg [.int .i64,.int .i64],.one (.bool)],YF,62⟩
def JEJ:List GK := [.i,.i,.b,.b,.b,.i,.b,.b,.i,.i,.i,.v Jy,.b,.v Jy,.i,.i,.b,.i,.i]
section
variable (u0 u1:Int) (Xp:Bool) (l y:List GC) (st0 st1:Int) (rtr:Bool)
def JJn:Int:= J8 (J0 u0 st0) (J0 u1 st1) (J0 (J3 (xi l 8) (xi y 5) (xi y 6) (xi y 7)) (J3 (xi l 8) (xi y 2) (xi y 3) (xi y 4))) (J0 (J4 (xi l 8) (xi y 5) (xi y 6) (xi y 7)) (J4 (xi l 8) (xi y 2) (xi y 3) (xi y 4)))
def Xi:Int:= JF (J3 (xi l 8) (xi y 2) (xi y 3) (xi y 4)) (J3 (xi l 8) (xi y 5) (xi y 6) (xi y 7)) (JL (xi l 8) (J2 y)) false
def Xb:Int:= JF (J4 (xi l 8) (xi y 2) (xi y 3) (xi y 4)) (J4 (xi l 8) (xi y 5) (xi y 6) (xi y 7)) (JM (xi l 8) (J2 y)) false
def XV:Int:= JF (J3 (xi l 8) (xi y 2) (xi y 3) (xi y 4)) (J3 (xi l 8) (xi y 5) (xi y 6) (xi y 7)) (JL (xi l 8) (J2 y)) true
def Xa:Int:= JF (J4 (xi l 8) (xi y 2) (xi y 3) (xi y 4)) (J4 (xi l 8) (xi y 5) (xi y 6) (xi y 7)) (JM (xi l 8) (J2 y)) true
def Q0:Int:= bif JJ (J2 y) == 0 then bif (rtr || Xp) && decide (JJn u0 u1 l y st0 st1 ≤ 0) then 16 else 0 else bif rtr || Xp then bif !QI (J2 y) && (!QN (Xi l y) (Xb l y) (XV l y) (Xa l y) (bif rtr then J0 st0 (JL (xi l 8) (J2 y)) else Xi l y) (bif rtr then J0 st1 (JM (xi l 8) (J2 y)) else Xb l y) (JJ (J2 y)) false || !QN (bif rtr then J0 st0 (JL (xi l 8) (J2 y)) else Xi l y) (bif rtr then J0 st1 (JM (xi l 8) (J2 y)) else Xb l y) (XV l y) (Xa l y) (bif Xp then J0 u0 (JL (xi l 8) (J2 y)) else XV l y) (bif Xp then J0 u1 (JM (xi l 8) (J2 y)) else Xa l y) (JJ (J2 y)) false) then 16 else bif WH (xi y 0) (JP (xi l 8) st0 st1 (J9 (xi l 8) (xi y 2) (xi y 3) (xi y 4))) (JQ (xi l 8) st0 st1 (J9 (xi l 8) (xi y 2) (xi y 3) (xi y 4))) (JR (xi l 8) st0 st1 (J9 (xi l 8) (xi y 2) (xi y 3) (xi y 4))) (JP (xi l 8) u0 u1 (J9 (xi l 8) (xi y 5) (xi y 6) (xi y 7))) (JQ (xi l 8) u0 u1 (J9 (xi l 8) (xi y 5) (xi y 6) (xi y 7))) (JR (xi l 8) u0 u1 (J9 (xi l 8) (xi y 5) (xi y 6) (xi y 7))) (Ki (J2 y)) (XL (J2 y) st0 st1 (J2 l)) (XO (J2 y) st0 st1 (J2 l)) (XS (J2 y) st0 st1 (J2 l)) (xi y 12) false != 0 then 16 else 0 else bif WH (xi y 0) (JP (xi l 8) st0 st1 (J9 (xi l 8) (xi y 2) (xi y 3) (xi y 4))) (JQ (xi l 8) st0 st1 (J9 (xi l 8) (xi y 2) (xi y 3) (xi y 4))) (JR (xi l 8) st0 st1 (J9 (xi l 8) (xi y 2) (xi y 3) (xi y 4))) (JP (xi l 8) u0 u1 (J9 (xi l 8) (xi y 5) (xi y 6) (xi y 7))) (JQ (xi l 8) u0 u1 (J9 (xi l 8) (xi y 5) (xi y 6) (xi y 7))) (JR (xi l 8) u0 u1 (J9 (xi l 8) (xi y 5) (xi y 6) (xi y 7))) (Ki (J2 y)) (XL (J2 y) st0 st1 (J2 l)) (XO (J2 y) st0 st1 (J2 l)) (XS (J2 y) st0 st1 (J2 l)) (xi y 12) (xb y 13) != 0 then 16 else 0
def JSr:List Int:= [xi y 14,bif xb y 15 then 1 else 0,0,0,xi y 18,xi y 19,xi y 20,bif xb y 21 then 1 else 0]
def ZR:LL:=
 bif JJ (J2 y) == 0 then bif (rtr || Xp) && decide (JJn u0 u1 l y st0 st1 ≤ 0) then [] else Yo [GC.i (xi y 0),GC.i (xi y 1),GC.i (JP (xi l 8) st0 st1 (J9 (xi l 8) (xi y 2) (xi y 3) (xi y 4))),GC.i (JQ (xi l 8) st0 st1 (J9 (xi l 8) (xi y 2) (xi y 3) (xi y 4))),GC.i (JR (xi l 8) st0 st1 (J9 (xi l 8) (xi y 2) (xi y 3) (xi y 4))),GC.i (JP (xi l 8) u0 u1 (J9 (xi l 8) (xi y 5) (xi y 6) (xi y 7))),GC.i (JQ (xi l 8) u0 u1 (J9 (xi l 8) (xi y 5) (xi y 6) (xi y 7))),GC.i (JR (xi l 8) u0 u1 (J9 (xi l 8) (xi y 5) (xi y 6) (xi y 7))),GC.i (Ki (J2 y)),GC.i (XL (J2 y) st0 st1 (J2 l)),GC.i (XO (J2 y) st0 st1 (J2 l)),GC.i (XS (J2 y) st0 st1 (J2 l)),GC.i (xi y 12),GC.b (xb y 13),GC.i (xi y 14),GC.b (xb y 15),GC.i 0,GC.i 0,GC.i (xi y 18),GC.i (xi y 19),GC.i (xi y 20),GC.b (xb y 21)] else bif rtr || Xp then bif !QI (J2 y) && (!QN (Xi l y) (Xb l y) (XV l y) (Xa l y) (bif rtr then J0 st0 (JL (xi l 8) (J2 y)) else Xi l y) (bif rtr then J0 st1 (JM (xi l 8) (J2 y)) else Xb l y) (JJ (J2 y)) false || !QN (bif rtr then J0 st0 (JL (xi l 8) (J2 y)) else Xi l y) (bif rtr then J0 st1 (JM (xi l 8) (J2 y)) else Xb l y) (XV l y) (Xa l y) (bif Xp then J0 u0 (JL (xi l 8) (J2 y)) else XV l y) (bif Xp then J0 u1 (JM (xi l 8) (J2 y)) else Xa l y) (JJ (J2 y)) false) then [] else bif WH (xi y 0) (JP (xi l 8) st0 st1 (J9 (xi l 8) (xi y 2) (xi y 3) (xi y 4))) (JQ (xi l 8) st0 st1 (J9 (xi l 8) (xi y 2) (xi y 3) (xi y 4))) (JR (xi l 8) st0 st1 (J9 (xi l 8) (xi y 2) (xi y 3) (xi y 4))) (JP (xi l 8) u0 u1 (J9 (xi l 8) (xi y 5) (xi y 6) (xi y 7))) (JQ (xi l 8) u0 u1 (J9 (xi l 8) (xi y 5) (xi y 6) (xi y 7))) (JR (xi l 8) u0 u1 (J9 (xi l 8) (xi y 5) (xi y 6) (xi y 7))) (Ki (J2 y)) (XL (J2 y) st0 st1 (J2 l)) (XO (J2 y) st0 st1 (J2 l)) (XS (J2 y) st0 st1 (J2 l)) (xi y 12) false != 0 then [] else [xi y 0 :: xi y 1 :: JP (xi l 8) st0 st1 (J9 (xi l 8) (xi y 2) (xi y 3) (xi y 4)) :: JQ (xi l 8) st0 st1 (J9 (xi l 8) (xi y 2) (xi y 3) (xi y 4)) :: JR (xi l 8) st0 st1 (J9 (xi l 8) (xi y 2) (xi y 3) (xi y 4)) :: JP (xi l 8) u0 u1 (J9 (xi l 8) (xi y 5) (xi y 6) (xi y 7)) :: JQ (xi l 8) u0 u1 (J9 (xi l 8) (xi y 5) (xi y 6) (xi y 7)) :: JR (xi l 8) u0 u1 (J9 (xi l 8) (xi y 5) (xi y 6) (xi y 7)) :: Ki (J2 y) :: XL (J2 y) st0 st1 (J2 l) :: XO (J2 y) st0 st1 (J2 l) :: XS (J2 y) st0 st1 (J2 l) :: xi y 12 :: 0 :: JSr y] else bif WH (xi y 0) (JP (xi l 8) st0 st1 (J9 (xi l 8) (xi y 2) (xi y 3) (xi y 4))) (JQ (xi l 8) st0 st1 (J9 (xi l 8) (xi y 2) (xi y 3) (xi y 4))) (JR (xi l 8) st0 st1 (J9 (xi l 8) (xi y 2) (xi y 3) (xi y 4))) (JP (xi l 8) u0 u1 (J9 (xi l 8) (xi y 5) (xi y 6) (xi y 7))) (JQ (xi l 8) u0 u1 (J9 (xi l 8) (xi y 5) (xi y 6) (xi y 7))) (JR (xi l 8) u0 u1 (J9 (xi l 8) (xi y 5) (xi y 6) (xi y 7))) (Ki (J2 y)) (XL (J2 y) st0 st1 (J2 l)) (XO (J2 y) st0 st1 (J2 l)) (XS (J2 y) st0 st1 (J2 l)) (xi y 12) (xb y 13) != 0 then [] else [xi y 0 :: xi y 1 :: JP (xi l 8) st0 st1 (J9 (xi l 8) (xi y 2) (xi y 3) (xi y 4)) :: JQ (xi l 8) st0 st1 (J9 (xi l 8) (xi y 2) (xi y 3) (xi y 4)) :: JR (xi l 8) st0 st1 (J9 (xi l 8) (xi y 2) (xi y 3) (xi y 4)) :: JP (xi l 8) u0 u1 (J9 (xi l 8) (xi y 5) (xi y 6) (xi y 7)) :: JQ (xi l 8) u0 u1 (J9 (xi l 8) (xi y 5) (xi y 6) (xi y 7)) :: JR (xi l 8) u0 u1 (J9 (xi l 8) (xi y 5) (xi y 6) (xi y 7)) :: Ki (J2 y) :: XL (J2 y) st0 st1 (J2 l) :: XO (J2 y) st0 st1 (J2 l) :: XS (J2 y) st0 st1 (J2 l) :: xi y 12 :: (bif xb y 13 then 1
 else 0) :: JSr y]
end
theorem JJO (u0 u1:Int) (Xp:Bool) (l y:List GC) (st0 st1:Int) (rtr:Bool):(ZR u0 u1 Xp l y st0 st1 rtr).length ≤ 1 := by
  unfold ZR
  repeat' first | exact Nat.le_refl _ | exact Nat.zero_le _ | exact JOo _ | refine Jmt ?_ ?_
def JTL (u0 u1:Int) (Xp rcl rop:Bool) (rer:Int) (rmo ren:Bool) (rla0 rla1 rla2:Int) (l:List GC) (has:Bool) (y:List GC) (st0 st1:Int) (rtr:Bool) (pn0 pn1:Int) (C:LL):Jo := [(5087,Obj.row false 40 22 (RowC.lst 5086 jH (ZR u0 u1 Xp l y st0 st1 rtr))),(0,Obj.blk 74 [(2,Cb rcl),(3,Cb rop),(4,Ci rer),(5,Cb rmo),(6,Cb ren),(7,Ci rla0),(8,Ci rla1),(9,Ci rla2),(10,Ci (xi l 0)),(11,Ci (xi l 1)),(12,Ci (xi l 2)),(13,Ci (xi l 3)),(14,Ci (xi l 4)),(15,Ci (xi l 5)),(16,Ci (xi l 6)),(17,Ci (xi l 7)),(18,Ci (xi l 8)),(19,Ci (xi l 9)),(20,Ci (xi l 10)),(21,Ci (xi l 11)),(22,Ci (xi l 12)),(23,Cb (xb l 13)),(24,Ci (xi l 14)),(25,Cb (xb l 15)),(26,Ci (xi l 16)),(27,Ci (xi l 17)),(28,Ci (xi l 18)),(29,Ci (xi l 19)),(30,Ci (xi l 20)),(31,Cb (xb l 21)),(32,SC.wh 1),(33,Cb has),(34,Ci (xi y 0)),(35,Ci (xi y 1)),(36,Ci (xi y 2)),(37,Ci (xi y 3)),(38,Ci (xi y 4)),(39,Ci (xi y 5)),(40,Ci (xi y 6)),(41,Ci (xi y 7)),(42,Ci (xi y 8)),(43,Ci (xi y 9)),(44,Ci (xi y 10)),(45,Ci (xi y 11)),(46,Ci (xi y 12)),(47,Cb (xb y 13)),(48,Ci (xi y 14)),(49,Cb (xb y 15)),(50,Ci (xi y 16)),(51,Ci (xi y 17)),(52,Ci (xi y 18)),(53,Ci (xi y 19)),(54,Ci (xi y 20)),(55,Cb (xb y 21)),(56,Ci st0),(57,Ci st1),(58,Cb rtr),(59,Ci pn0),(60,Ci pn1)]),(1,Obj.row true 40 22 (RowC.lst 61 jH C))]
theorem Jb3 (u0 u1:Int) (Xp rcl rop:Bool) (rer:Int) (rmo ren:Bool) (rla0 rla1 rla2:Int) (l:List GC) (has:Bool) (y:List GC) (st0 st1:Int) (rtr:Bool) (pn0 pn1:Int) (C:LL):Runs (JGx (JB JaG) WV 86) (Wy.args (Jc JEJ [.i u0,.i u1,.b Xp,.b rcl,.b rop,.i rer,.b rmo,.b ren,.i rla0,.i rla1,.i rla2,.v l,.b has,.v y,.i st0,.i st1,.b rtr,.i pn0,.i pn1])) (Wy.memo (Jc JEJ [.i u0,.i u1,.b Xp,.b rcl,.b rop,.i rer,.b rmo,.b ren,.i rla0,.i rla1,.i rla2,.v l,.b has,.v y,.i st0,.i st1,.b rtr,.i pn0,.i pn1]) [C]) Wy.n (SV.tup [(false,[SC.wh 5087]),(false,[Ci (Q0 u0 u1 Xp l y st0 st1 rtr)])]) (JTL u0 u1 Xp rcl rop rer rmo ren rla0 rla1 rla2 l has y st0 st1 rtr pn0 pn1 C) :=
  Runs.of1 (ps := []) (by kernel_rfl) (by simp)
def JGX:List Gm → Qr → Option CRes
  | [.i u0,.i u1,.b Xp,.b rcl,.b rop,.i rer,.b rmo,.b ren,.i rla0,.i rla1,.i rla2,.v l,.b has,.v y,.i st0,.i st1,.b rtr,.i pn0,.i pn1],[C] => some ⟨SV.tup [(false,[SC.wh 5087]),(false,[Ci (Q0 u0 u1 Xp l y st0 st1 rtr)])],
 JTL u0 u1 Xp rcl rop rer rmo ren rla0 rla1 rla2 l has y st0 st1 rtr pn0 pn1 C,[],[],5089⟩
  | _,_ => none
theorem JiT:Qk Tryz.prog 86 (Z9 JEJ Wy JGX) := by
  refine Qd (KM JOR 86) fun ps ls r hr hn _ => ?_
  unfold JGX at hr
  split at hr
  · cases hr; exact ⟨_,Jb3 _ _ _ _ _ _ _ _ _ _ _ _ _ _ _ _ _ _ _ _,fun _ => rfl⟩
  · cases hr
def JM8:List (Nat × JW) := (86,Z9 JEJ Wy JGX) :: JaG
theorem JJJ:Known Tryz.prog (JB JM8) WV := J7 JOR JiT
def qu:Tpl := ⟨[.one (.ptr 0 0),.agg pI,.agg [.int .i64,.int .i64],.agg [.int .i64,.int .i64],.one (.bool)],YF,62⟩
def JGl:List GK := [.v Jy,.i,.i,.i,.i,.b,.b,.b,.i,.b,.b,.i,.i,.i,.v Jy,.b,.v Jy,.i,.i,.b,.i,.i]
section
variable (x:List GC) (u0 u1 v0 v1:Int) (out:Bool) (l:List GC)
def Ky:Int:= JE (J0 u0 (J3 (xi l 8) (xi x 2) (xi x 3) (xi x 4))) (J0 u1 (J4 (xi l 8) (xi x 2) (xi x 3) (xi x 4))) (J0 v0 (J3 (xi l 8) (xi x 2) (xi x 3) (xi x 4))) (J0 v1 (J4 (xi l 8) (xi x 2) (xi x 3) (xi x 4)))
def Y4:Int:= IntKind.i64.wrap (Ky x u0 u1 v0 v1 l * IntKind.i64.wrap (0 - xi l 16))
def Yl:Int:= J8 (J0 u0 (J3 (xi l 8) (xi x 2) (xi x 3) (xi x 4))) (J0 u1 (J4 (xi l 8) (xi x 2) (xi x 3) (xi x 4))) (J0 v0 (J3 (xi l 8) (xi x 2) (xi x 3) (xi x 4))) (J0 v1 (J4 (xi l 8) (xi x 2) (xi x 3) (xi x 4)))
def ZS:Int:= J8 (J0 u0 (J3 (xi l 8) (xi x 2) (xi x 3) (xi x 4))) (J0 u1 (J4 (xi l 8) (xi x 2) (xi x 3) (xi x 4))) (J0 u0 (J3 (xi l 8) (xi x 2) (xi x 3) (xi x 4))) (J0 u1 (J4 (xi l 8) (xi x 2) (xi x 3) (xi x 4)))
def Wa:LL:= Yo [GC.i (bif out && (decide (Y4 x u0 u1 v0 v1 l > 0) || Ky x u0 u1 v0 v1 l == 0 && decide (Yl x u0 u1 v0 v1 l < 0)) && decide (ZS x u0 u1 l ≥ 64) && decide (ZS x v0 v1 l ≥ 64) then 3 else 2),GC.i (xi x 1),GC.i (JP (xi l 8) u0 u1 (J9 (xi l 8) (xi x 2) (xi x 3) (xi x 4))),GC.i (JQ (xi l 8) u0 u1 (J9 (xi l 8) (xi x 2) (xi x 3) (xi x 4))),GC.i (JR (xi l 8) u0 u1 (J9 (xi l 8) (xi x 2) (xi x 3) (xi x 4))),GC.i (JP (xi l 8) v0 v1 (J9 (xi l 8) (xi x 2) (xi x 3) (xi x 4))),GC.i (JQ (xi l 8) v0 v1 (J9 (xi l 8) (xi x 2) (xi x 3) (xi x 4))),GC.i (JR (xi l 8) v0 v1 (J9 (xi l 8) (xi x 2) (xi x 3) (xi x 4))),GC.i (bif out && (decide (Y4 x u0 u1 v0 v1 l > 0) || Ky x u0 u1 v0 v1 l == 0 && decide (Yl x u0 u1 v0 v1 l < 0)) && decide (ZS x u0 u1 l ≥ 64) && decide (ZS x v0 v1 l ≥ 64) then xi l 8 else 0),GC.i (bif out && (decide (Y4 x u0 u1 v0 v1 l > 0) || Ky x u0 u1 v0 v1 l == 0 && decide (Yl x u0 u1 v0 v1 l < 0)) && decide (ZS x u0 u1 l ≥ 64) && decide (ZS x v0 v1 l ≥ 64) then JP (xi l 8) (J3 (xi l 8) (xi x 2) (xi x 3) (xi x 4)) (J4 (xi l 8) (xi x 2) (xi x 3) (xi x 4)) (J9 (xi l 8) (xi x 2) (xi x 3) (xi x 4)) else 0),GC.i (bif out && (decide (Y4 x u0 u1 v0 v1 l > 0) || Ky x u0 u1 v0 v1 l == 0 && decide (Yl x u0 u1 v0 v1 l < 0)) && decide (ZS x u0 u1 l ≥ 64) && decide (ZS x v0 v1 l ≥ 64) then JQ (xi l 8) (J3 (xi l 8) (xi x 2) (xi x 3) (xi x 4)) (J4 (xi l 8) (xi x 2) (xi x 3) (xi x 4)) (J9 (xi l 8) (xi x 2) (xi x 3) (xi x 4)) else 0),GC.i (bif out && (decide (Y4 x u0 u1 v0 v1 l > 0) || Ky x u0 u1 v0 v1 l == 0 && decide (Yl x u0 u1 v0 v1 l < 0)) && decide (ZS x u0 u1 l ≥ 64) && decide (ZS x v0 v1 l ≥ 64) then JR (xi l 8) (J3 (xi l 8) (xi x 2) (xi x 3) (xi x 4)) (J4 (xi l 8) (xi x 2) (xi x 3) (xi x 4)) (J9 (xi l 8) (xi x 2) (xi x 3) (xi x 4)) else 0),GC.i (bif out && (decide (Y4 x u0 u1 v0 v1 l > 0) || Ky x u0 u1 v0 v1 l == 0 && decide (Yl x u0 u1 v0 v1 l < 0)) && decide (ZS x u0 u1 l ≥ 64) && decide (ZS x v0 v1 l ≥ 64) then IntKind.i64.wrap (0 - xi l 16) else 0),GC.b false,GC.i (xi x 14),GC.b (xb x 15),GC.i 0,GC.i 0,GC.i 0,GC.i 0,GC.i 0,GC.b false]
end
theorem Jam (x:List GC) (u0 u1 v0 v1:Int) (out:Bool) (l:List GC):(Wa x u0 u1 v0 v1 out l).length ≤ 1 := by
  unfold Wa
  exact JOo _
def JZ5 (x:List GC) (u0 u1 v0 v1:Int) (out rcl rop:Bool) (rer:Int) (rmo ren:Bool) (rla0 rla1 rla2:Int) (l:List GC) (has:Bool) (y:List GC) (st0 st1:Int) (rtr:Bool) (pn0 pn1:Int) (C:LL):Jo := [(925,Obj.row false 40 22 (RowC.lst 924 jH (Wa x u0 u1 v0 v1 out l))),(0,Obj.blk 74 [(2,Cb rcl),(3,Cb rop),(4,Ci rer),(5,Cb rmo),(6,Cb ren),(7,Ci rla0),(8,Ci rla1),(9,Ci rla2),(10,Ci (xi l 0)),(11,Ci (xi l 1)),(12,Ci (xi l 2)),(13,Ci (xi l 3)),(14,Ci (xi l 4)),(15,Ci (xi l 5)),(16,Ci (xi l 6)),(17,Ci (xi l 7)),(18,Ci (xi l 8)),(19,Ci (xi l 9)),(20,Ci (xi l 10)),(21,Ci (xi l 11)),(22,Ci (xi l 12)),(23,Cb (xb l 13)),(24,Ci (xi l 14)),(25,Cb (xb l 15)),(26,Ci (xi l 16)),(27,Ci (xi l 17)),(28,Ci (xi l 18)),(29,Ci (xi l 19)),(30,Ci (xi l 20)),(31,Cb (xb l 21)),(32,SC.wh 1),(33,Cb has),(34,Ci (xi y 0)),(35,Ci (xi y 1)),(36,Ci (xi y 2)),(37,Ci (xi y 3)),(38,Ci (xi y 4)),(39,Ci (xi y 5)),(40,Ci (xi y 6)),(41,Ci (xi y 7)),(42,Ci (xi y 8)),(43,Ci (xi y 9)),(44,Ci (xi y 10)),(45,Ci (xi y 11)),(46,Ci (xi y 12)),(47,Cb (xb y 13)),(48,Ci (xi y 14)),(49,Cb (xb y 15)),(50,Ci (xi y 16)),(51,Ci (xi y 17)),(52,Ci (xi y 18)),(53,Ci (xi y 19)),(54,Ci (xi y 20)),(55,Cb (xb y 21)),(56,Ci st0),(57,Ci st1),(58,Cb rtr),(59,Ci pn0),(60,Ci pn1)]),(1,Obj.row true 40 22 (RowC.lst 61 jH C))]
theorem JfH (x:List GC) (u0 u1 v0 v1:Int) (out rcl rop:Bool) (rer:Int) (rmo ren:Bool) (rla0 rla1 rla2:Int) (l:List GC) (has:Bool) (y:List GC) (st0 st1:Int) (rtr:Bool) (pn0 pn1:Int) (C:LL):Runs (JGx (JB JM8) WV 92) (qu.args (Jc JGl [.v x,.i u0,.i u1,.i v0,.i v1,.b out,.b rcl,.b rop,.i rer,.b rmo,.b ren,.i rla0,.i rla1,.i rla2,.v l,.b has,.v y,.i st0,.i st1,.b rtr,.i pn0,.i pn1])) (qu.memo (Jc JGl [.v x,.i u0,.i u1,.i v0,.i v1,.b out,.b rcl,.b rop,.i rer,.b rmo,.b ren,.i rla0,.i rla1,.i rla2,.v l,.b has,.v y,.i st0,.i st1,.b rtr,.i pn0,.i pn1]) [C]) qu.n (SV.one (SC.wh 925)) (JZ5 x u0 u1 v0 v1 out rcl rop rer rmo ren rla0 rla1 rla2 l has y st0 st1 rtr pn0 pn1 C) :=
  Runs.of1 (ps := []) (by kernel_rfl) (by simp)
def JIT:List Gm → Qr → Option CRes
  | [.v x,.i u0,.i u1,.i v0,.i v1,.b out,.b rcl,.b rop,.i rer,.b rmo,.b ren,.i rla0,.i rla1,.i rla2,.v l,.b has,.v y,.i st0,.i st1,.b rtr,.i pn0,.i pn1],[C] => some ⟨SV.one (SC.wh 925),
 JZ5 x u0 u1 v0 v1 out rcl rop rer rmo ren rla0 rla1 rla2 l has y st0 st1 rtr pn0 pn1 C,[],[],928⟩
  | _,_ => none
theorem Jlt:Qk Tryz.prog 92 (Z9 JGl qu JIT) := by
  refine Qd (KM JJJ 92) fun ps ls r hr hn _ => ?_
  unfold JIT at hr
  split at hr
  · cases hr; exact ⟨_,JfH _ _ _ _ _ _ _ _ _ _ _ _ _ _ _ _ _ _ _ _ _ _ _,fun _ => rfl⟩
  · cases hr
def Jbq:List (Nat × JW) := (92,Z9 JGl qu JIT) :: JM8
theorem Jat:Known Tryz.prog (JB Jbq) WV := J7 JJJ Jlt
def JnO:JW := fun _ _ n => some ⟨.one .nilp,[],[False],[],n⟩
theorem JeP (P:Program) (f:FuncId):Qk P f JnO := fun _ _ _ r h hn => by cases h; exact absurd (hn False (by simp)) id
def JlD:List (Nat × JW) := (2000000 + 85,JnO) :: Jbq
theorem JWO:Known Tryz.prog (JB JlD) WV := J7 Jat (JeP _ _)
theorem JnW {A B C:LL} (ha:A.length ≤ 1) (hb:B.length ≤ C.length) (hc:C.length ≤ 1000):(A.length + B.length) * 176 ≤ 140737488355328 ∧ A.length + B.length ≤ 9223372036854775807 := by omega
theorem Jve {A B C:LL} (ha:A.length ≤ 1) (hb:B.length ≤ C.length) (hc:C.length ≤ 1000):((A ++ B).length + 1) * 176 ≤ 140737488355328 ∧ (A ++ B).length + 1 ≤ 9223372036854775807 := by rw [List.length_append]; omega
theorem JvS {A B C J:LL} (ha:A.length ≤ 1) (hb:B.length ≤ C.length) (hj:J.length ≤ 1) (hc:C.length ≤ 1000):((A ++ B).length + J.length) * 176 ≤ 140737488355328 ∧ (A ++ B).length + J.length ≤ 9223372036854775807 := by rw [List.length_append]; omega
theorem WU {c:Bool} {a b:LL} {k:Nat} (h:a.length ≤ k) (h':b.length ≤ k):(bif c then a else b).length ≤ k := by cases c <;> assumption
def JD1:Tpl := ⟨[.one (.ptr 0 0),.agg pI],YF,62⟩
def JKJ:List GK := [.v Jy,.b,.b,.i,.b,.b,.i,.i,.i,.v Jy,.b,.v Jy,.i,.i,.b,.i,.i]
section
variable (x l y:List GC) (st0 st1:Int) (rtr:Bool) (C:LL)
def Wd:Int:= Qb (J3 (xi l 8) (xi y 2) (xi y 3) (xi y 4)) (J4 (xi l 8) (xi y 2) (xi y 3) (xi y 4)) (J3 (xi l 8) (xi y 5) (xi y 6) (xi y 7)) (J4 (xi l 8) (xi y 5) (xi y 6) (xi y 7)) (JL (xi l 8) (J2 y)) (JM (xi l 8) (J2 y)) (JJ (J2 y)) (JO (J2 l))
def JCG:Int:= Q0 (Xj (J3 (xi l 8) (xi y 2) (xi y 3) (xi y 4)) (J4 (xi l 8) (xi y 2) (xi y 3) (xi y 4)) (J3 (xi l 8) (xi y 5) (xi y 6) (xi y 7)) (J4 (xi l 8) (xi y 5) (xi y 6) (xi y 7)) (JL (xi l 8) (J2 y)) (JM (xi l 8) (J2 y)) (JJ (J2 y)) (JO (J2 l))) (Xm (J3 (xi l 8) (xi y 2) (xi y 3) (xi y 4)) (J4 (xi l 8) (xi y 2) (xi y 3) (xi y 4)) (J3 (xi l 8) (xi y 5) (xi y 6) (xi y 7)) (J4 (xi l 8) (xi y 5) (xi y 6) (xi y 7)) (JL (xi l 8) (J2 y)) (JM (xi l 8) (J2 y)) (JJ (J2 y)) (JO (J2 l))) false (J2 l) (J2 y) st0 st1 rtr
def JCf:Int:= bif Wd l y != 0 then Wd l y else bif JCG l y st0 st1 rtr != 0 then JCG l y st0 st1 rtr else 0
def QW:Int:= Xj (J3 (xi l 8) (xi y 2) (xi y 3) (xi y 4)) (J4 (xi l 8) (xi y 2) (xi y 3) (xi y 4)) (J3 (xi l 8) (xi y 5) (xi y 6) (xi y 7)) (J4 (xi l 8) (xi y 5) (xi y 6) (xi y 7)) (JL (xi l 8) (J2 y)) (JM (xi l 8) (J2 y)) (JJ (J2 y)) (JO (J2 l))
def QX:Int:= Xm (J3 (xi l 8) (xi y 2) (xi y 3) (xi y 4)) (J4 (xi l 8) (xi y 2) (xi y 3) (xi y 4)) (J3 (xi l 8) (xi y 5) (xi y 6) (xi y 7)) (J4 (xi l 8) (xi y 5) (xi y 6) (xi y 7)) (JL (xi l 8) (J2 y)) (JM (xi l 8) (J2 y)) (JJ (J2 y)) (JO (J2 l))
def JOs:LL:= bif Qb (J3 (xi l 8) (xi y 2) (xi y 3) (xi y 4)) (J4 (xi l 8) (xi y 2) (xi y 3) (xi y 4)) (J3 (xi l 8) (xi y 5) (xi y 6) (xi y 7)) (J4 (xi l 8) (xi y 5) (xi y 6) (xi y 7)) (JL (xi l 8) (J2 y)) (JM (xi l 8) (J2 y)) (JJ (J2 y)) (JO (J2 l)) != 0 then [] else bif Q0 (QW l y) (QX l y) false (J2 l) (J2 y) st0 st1 rtr != 0 then [] else ZR (QW l y) (QX l y) false (J2 l) (J2 y) st0 st1 rtr ++ ZC (J2 l) (QW l y) (QX l y) C ++ [[xi x 0,xi x 1,JP (xi l 8) (QW l y) (QX l y) (J9 (xi l 8) (xi x 2) (xi x 3) (xi x 4)),JQ (xi l 8) (QW l y) (QX l y) (J9 (xi l 8) (xi x 2) (xi x 3) (xi x 4)),JR (xi l 8) (QW l y) (QX l y) (J9 (xi l 8) (xi x 2) (xi x 3) (xi x 4)),xi x 5,xi x 6,xi x 7,xi x 8,xi x 9,xi x 10,xi x 11,xi x 12,bif xb x 13 then 1 else 0,xi x 14,bif xb x 15 then 1 else 0,xi x 16,xi x 17,xi x 18,xi x 19,xi x 20,bif xb x 21 then 1 else 0]]
end
def JLJ (l:List GC) (y:List GC) := Xj (J3 (xi l 8) (xi y 2) (xi y 3) (xi y 4)) (J4 (xi l 8) (xi y 2) (xi y 3) (xi y 4)) (J3 (xi l 8) (xi y 5) (xi y 6) (xi y 7)) (J4 (xi l 8) (xi y 5) (xi y 6) (xi y 7)) (JL (xi l 8) (J2 y)) (JM (xi l 8) (J2 y)) (JJ (J2 y)) (JO (J2 l))
def JLO (l:List GC) (y:List GC) := Xm (J3 (xi l 8) (xi y 2) (xi y 3) (xi y 4)) (J4 (xi l 8) (xi y 2) (xi y 3) (xi y 4)) (J3 (xi l 8) (xi y 5) (xi y 6) (xi y 7)) (J4 (xi l 8) (xi y 5) (xi y 6) (xi y 7)) (JL (xi l 8) (J2 y)) (JM (xi l 8) (J2 y)) (JJ (J2 y)) (JO (J2 l))
section
variable (rop:Bool) (l:List GC) (has:Bool) (y:List GC) (st0 st1:Int) (rtr:Bool) (C:LL) (pn1 pn0:Int)
def JWc:Bool:= bif Qb (J3 (xi l 8) (xi y 2) (xi y 3) (xi y 4)) (J4 (xi l 8) (xi y 2) (xi y 3) (xi y 4)) (J3 (xi l 8) (xi y 5) (xi y 6) (xi y 7)) (J4 (xi l 8) (xi y 5) (xi y 6) (xi y 7)) (JL (xi l 8) (J2 y)) (JM (xi l 8) (J2 y)) (JJ (J2 y)) (JO (J2 l)) != 0 then rop else Q0 (JLJ l y) (JLO l y) false (J2 l) (J2 y) st0 st1 rtr != 0 && rop
def JPk:Bool:= bif Qb (J3 (xi l 8) (xi y 2) (xi y 3) (xi y 4)) (J4 (xi l 8) (xi y 2) (xi y 3) (xi y 4)) (J3 (xi l 8) (xi y 5) (xi y 6) (xi y 7)) (J4 (xi l 8) (xi y 5) (xi y 6) (xi y 7)) (JL (xi l 8) (J2 y)) (JM (xi l 8) (J2 y)) (JJ (J2 y)) (JO (J2 l)) != 0 then has else Q0 (JLJ l y) (JLO l y) false (J2 l) (J2 y) st0 st1 rtr != 0 && has
def JSU:Int:= bif Qb (J3 (xi l 8) (xi y 2) (xi y 3) (xi y 4)) (J4 (xi l 8) (xi y 2) (xi y 3) (xi y 4)) (J3 (xi l 8) (xi y 5) (xi y 6) (xi y 7)) (J4 (xi l 8) (xi y 5) (xi y 6) (xi y 7)) (JL (xi l 8) (J2 y)) (JM (xi l 8) (J2 y)) (JJ (J2 y)) (JO (J2 l)) != 0 then pn0 else bif Q0 (QW l y) (JLO l y) false (J2 l) (J2 y) st0 st1 rtr != 0 then pn0 else QW l y
def JQN:Int:= bif Qb (J3 (xi l 8) (xi y 2) (xi y 3) (xi y 4)) (J4 (xi l 8) (xi y 2) (xi y 3) (xi y 4)) (J3 (xi l 8) (xi y 5) (xi y 6) (xi y 7)) (J4 (xi l 8) (xi y 5) (xi y 6) (xi y 7)) (JL (xi l 8) (J2 y)) (JM (xi l 8) (J2 y)) (JJ (J2 y)) (JO (J2 l)) != 0 then pn1 else bif Q0 (JLJ l y) (QX l y) false (J2 l) (J2 y) st0 st1 rtr != 0 then pn1 else QX l y
def JFV:LL:= bif Qb (J3 (xi l 8) (xi y 2) (xi y 3) (xi y 4)) (J4 (xi l 8) (xi y 2) (xi y 3) (xi y 4)) (J3 (xi l 8) (xi y 5) (xi y 6) (xi y 7)) (J4 (xi l 8) (xi y 5) (xi y 6) (xi y 7)) (JL (xi l 8) (J2 y)) (JM (xi l 8) (J2 y)) (JJ (J2 y)) (JO (J2 l)) != 0 then C else bif Q0 (JLJ l y) (JLO l y) false (J2 l) (J2 y) st0 st1 rtr != 0 then C else []
def JBr:List Prop:= [(Qb (J3 (xi l 8) (xi y 2) (xi y 3) (xi y 4)) (J4 (xi l 8) (xi y 2) (xi y 3) (xi y 4)) (J3 (xi l 8) (xi y 5) (xi y 6) (xi y 7)) (J4 (xi l 8) (xi y 5) (xi y 6) (xi y 7)) (JL (xi l 8) (J2 y)) (JM (xi l 8) (J2 y)) (JJ (J2 y)) (JO (J2 l)) != 0) = false → (Q0 (QW l y) (QX l y) false (J2 l) (J2 y) st0 st1 rtr != 0) = false → C.length ≤ 1000 ∧ ((ZR (QW l y) (QX l y) false (J2 l) (J2 y) st0 st1 rtr).length + (ZC (J2 l) (QW l y) (QX l y) C).length) * 176 ≤ 140737488355328 ∧ (ZR (QW l y) (QX l y) false (J2 l) (J2 y) st0 st1 rtr).length + (ZC (J2 l) (QW l y) (QX l y) C).length ≤ 9223372036854775807 ∧ ((ZR (QW l y) (QX l y) false (J2 l) (J2 y) st0 st1 rtr ++ ZC (J2 l) (QW l y) (QX l y) C).length + 1) * 176 ≤ 140737488355328 ∧ (ZR (QW l y) (QX l y) false (J2 l) (J2 y) st0 st1 rtr ++ ZC (J2 l) (QW l y) (QX l y) C).length + 1 ≤ 9223372036854775807]
end
theorem Jgu {l:List GC} {y:List GC} {st0:Int} {st1:Int} {rtr:Bool} {C:LL} (hW:∀ q ∈ ([C.length ≤ 1000]:List Prop),q):∀ q ∈ (JBr l y st0 st1 rtr C),q := by
  simp only [awc,awn,and_true] at hW
  unfold JBr
  simp only [awc,awn,and_true]
  have r := fun a b => JN4 (J2 l) a b C
  have s := fun u w c => JJO u w c (J2 l) (J2 y) st0 st1 rtr
  exact fun _ _ => ⟨hW,(JnW (s _ _ _) (r _ _) hW).1,(JnW (s _ _ _) (r _ _) hW).2,(Jve (s _ _ _) (r _ _) hW).1,(Jve (s _ _ _) (r _ _) hW).2⟩
def Jc4 (x:List GC) (rcl rop:Bool) (rer:Int) (rmo ren:Bool) (rla0 rla1 rla2:Int) (l:List GC) (has:Bool) (y:List GC) (st0 st1:Int) (rtr:Bool) (pn0 pn1:Int) (C:LL):Jo := [(15482,Obj.row false 40 22 (RowC.lst 15481 jH (JOs x l y st0 st1 rtr C))),(0,Obj.blk 74 [(2,Cb rcl),(15487,Cb (JWc rop l y st0 st1 rtr)),(4,Ci rer),(5,Cb rmo),(6,Cb ren),(7,Ci rla0),(8,Ci rla1),(9,Ci rla2),(10,Ci (xi l 0)),(11,Ci (xi l 1)),(12,Ci (xi l 2)),(13,Ci (xi l 3)),(14,Ci (xi l 4)),(15,Ci (xi l 5)),(16,Ci (xi l 6)),(17,Ci (xi l 7)),(18,Ci (xi l 8)),(19,Ci (xi l 9)),(20,Ci (xi l 10)),(21,Ci (xi l 11)),(22,Ci (xi l 12)),(23,Cb (xb l 13)),(24,Ci (xi l 14)),(25,Cb (xb l 15)),(26,Ci (xi l 16)),(27,Ci (xi l 17)),(28,Ci (xi l 18)),(29,Ci (xi l 19)),(30,Ci (xi l 20)),(31,Cb (xb l 21)),(15480,SC.wh 15478),(15488,Cb (JPk l has y st0 st1 rtr)),(34,Ci (xi y 0)),(35,Ci (xi y 1)),(36,Ci (xi y 2)),(37,Ci (xi y 3)),(38,Ci (xi y 4)),(39,Ci (xi y 5)),(40,Ci (xi y 6)),(41,Ci (xi y 7)),(42,Ci (xi y 8)),(43,Ci (xi y 9)),(44,Ci (xi y 10)),(45,Ci (xi y 11)),(46,Ci (xi y 12)),(47,Cb (xb y 13)),(48,Ci (xi y 14)),(49,Cb (xb y 15)),(50,Ci (xi y 16)),(51,Ci (xi y 17)),(52,Ci (xi y 18)),(53,Ci (xi y 19)),(54,Ci (xi y 20)),(55,Cb (xb y 21)),(56,Ci st0),(57,Ci st1),(58,Cb rtr),(15489,Ci (JSU l y st0 st1 rtr pn0)),(15490,Ci (JQN l y st0 st1 rtr pn1))]),(15478,Obj.row true 40 22 (RowC.lst 15486 jH (JFV l y st0 st1 rtr C))),(1,Obj.row true 40 22 (RowC.lst 61 jH C))]
theorem JiL (x:List GC) (rcl rop:Bool) (rer:Int) (rmo ren:Bool) (rla0 rla1 rla2:Int) (l:List GC) (has:Bool) (y:List GC) (st0 st1:Int) (rtr:Bool) (pn0 pn1:Int) (C:LL) (hNeeds:∀ pN ∈ (JBr l y st0 st1 rtr C),pN):Runs (JGx (JB JlD) WV 60) (JD1.args (Jc JKJ [.v x,.b rcl,.b rop,.i rer,.b rmo,.b ren,.i rla0,.i rla1,.i rla2,.v l,.b has,.v y,.i st0,.i st1,.b rtr,.i pn0,.i pn1])) (JD1.memo (Jc JKJ [.v x,.b rcl,.b rop,.i rer,.b rmo,.b ren,.i rla0,.i rla1,.i rla2,.v l,.b has,.v y,.i st0,.i st1,.b rtr,.i pn0,.i pn1]) [C]) JD1.n (SV.tup [(false,[SC.wh 15482]),(false,[Ci (JCf l y st0 st1 rtr)])]) (Jc4 x rcl rop rer rmo ren rla0 rla1 rla2 l has y st0 st1 rtr pn0 pn1 C) :=
  Runs.of1 (ps := (JBr l y st0 st1 rtr C)) (by kernel_rfl) hNeeds
def JMe:List Gm → Qr → Option CRes
  | [.v x,.b rcl,.b rop,.i rer,.b rmo,.b ren,.i rla0,.i rla1,.i rla2,.v l,.b has,.v y,.i st0,.i st1,.b rtr,.i pn0,.i pn1],[C] => some ⟨SV.tup [(false,[SC.wh 15482]),(false,[Ci (JCf l y st0 st1 rtr)])],Jc4 x rcl rop rer rmo ren rla0 rla1 rla2 l has y st0 st1 rtr pn0 pn1 C,[C.length ≤ 1000],[],15491⟩
  | _,_ => none
theorem Jny:Qk Tryz.prog 60 (Z9 JKJ JD1 JMe) := by
  refine Qd (KM JWO 60) fun ps ls r hr hn _ => ?_
  unfold JMe at hr
  split at hr
  · cases hr; exact ⟨_,JiL _ _ _ _ _ _ _ _ _ _ _ _ _ _ _ _ _ _ (Jgu (by exact hn)),fun _ => rfl⟩
  · cases hr
def JYJ:List (Nat × JW) := (60,Z9 JKJ JD1 JMe) :: JlD
theorem JOc:Known Tryz.prog (JB JYJ) WV := J7 JWO Jny
def JGL:Tpl := ⟨[.one (.ptr 0 0),.agg pI],YF,62⟩
def JOZ:List GK := [.v Jy,.b,.b,.i,.b,.b,.i,.i,.i,.v Jy,.b,.v Jy,.i,.i,.b,.i,.i]
section
variable (x l y:List GC) (st0 st1:Int) (rtr:Bool) (C:LL)
def JP6:Bool:= (bif JO (J2 l) == 0 then 0 else JCJ (Qn (J3 (xi l 8) (xi y 2) (xi y 3) (xi y 4)) (J4 (xi l 8) (xi y 2) (xi y 3) (xi y 4)) (J3 (xi l 8) (xi y 5) (xi y 6) (xi y 7)) (J4 (xi l 8) (xi y 5) (xi y 6) (xi y 7)) (JM (xi l 8) (J2 y)) (JJ (J2 y)) true) (Qm (J3 (xi l 8) (xi y 2) (xi y 3) (xi y 4)) (J4 (xi l 8) (xi y 2) (xi y 3) (xi y 4)) (J3 (xi l 8) (xi y 5) (xi y 6) (xi y 7)) (J4 (xi l 8) (xi y 5) (xi y 6) (xi y 7)) (JL (xi l 8) (J2 y)) (JJ (J2 y)) true) (Qn (J3 (xi l 8) (xi x 2) (xi x 3) (xi x 4)) (J4 (xi l 8) (xi x 2) (xi x 3) (xi x 4)) (J3 (xi l 8) (xi x 5) (xi x 6) (xi x 7)) (J4 (xi l 8) (xi x 5) (xi x 6) (xi x 7)) (JM (xi l 8) (J2 x)) (JJ (J2 x)) false) (Qm (J3 (xi l 8) (xi x 2) (xi x 3) (xi x 4)) (J4 (xi l 8) (xi x 2) (xi x 3) (xi x 4)) (J3 (xi l 8) (xi x 5) (xi x 6) (xi x 7)) (J4 (xi l 8) (xi x 5) (xi x 6) (xi x 7)) (JL (xi l 8) (J2 x)) (JJ (J2 x)) false) (xi l 16)) == 2
def Yg:Int:= Qb (J3 (xi l 8) (xi y 2) (xi y 3) (xi y 4)) (J4 (xi l 8) (xi y 2) (xi y 3) (xi y 4)) (J3 (xi l 8) (xi y 5) (xi y 6) (xi y 7)) (J4 (xi l 8) (xi y 5) (xi y 6) (xi y 7)) (JL (xi l 8) (J2 y)) (JM (xi l 8) (J2 y)) (JJ (J2 y)) (JO (J2 l))
def JZ2:Int:= bif JP6 x l y then JDO (J3 (xi l 8) (xi y 2) (xi y 3) (xi y 4)) (J4 (xi l 8) (xi y 2) (xi y 3) (xi y 4)) (J3 (xi l 8) (xi y 5) (xi y 6) (xi y 7)) (J4 (xi l 8) (xi y 5) (xi y 6) (xi y 7)) (JL (xi l 8) (J2 y)) (JM (xi l 8) (J2 y)) (JJ (J2 y)) (QI (J2 y)) (J3 (xi l 8) (xi x 2) (xi x 3) (xi x 4)) (J4 (xi l 8) (xi x 2) (xi x 3) (xi x 4)) (J3 (xi l 8) (xi x 5) (xi x 6) (xi x 7)) (J4 (xi l 8) (xi x 5) (xi x 6) (xi x 7)) (JL (xi l 8) (J2 x)) (JM (xi l 8) (J2 x)) (JJ (J2 x)) (QI (J2 x)) (JO (J2 l)) else bif Yg l y == 0 then Qb (J3 (xi l 8) (xi x 2) (xi x 3) (xi x 4)) (J4 (xi l 8) (xi x 2) (xi x 3) (xi x 4)) (J3 (xi l 8) (xi x 5) (xi x 6) (xi x 7)) (J4 (xi l 8) (xi x 5) (xi x 6) (xi x 7)) (JL (xi l 8) (J2 x)) (JM (xi l 8) (J2 x)) (JJ (J2 x)) (JO (J2 l)) else Yg l y
def JZJ:Int:= Q0 (bif JP6 x l y then Wv (J3 (xi l 8) (xi y 2) (xi y 3) (xi y 4)) (J4 (xi l 8) (xi y 2) (xi y 3) (xi y 4)) (J3 (xi l 8) (xi y 5) (xi y 6) (xi y 7)) (J4 (xi l 8) (xi y 5) (xi y 6) (xi y 7)) (JL (xi l 8) (J2 y)) (JM (xi l 8) (J2 y)) (JJ (J2 y)) (QI (J2 y)) (J3 (xi l 8) (xi x 2) (xi x 3) (xi x 4)) (J4 (xi l 8) (xi x 2) (xi x 3) (xi x 4)) (J3 (xi l 8) (xi x 5) (xi x 6) (xi x 7)) (J4 (xi l 8) (xi x 5) (xi x 6) (xi x 7)) (JL (xi l 8) (J2 x)) (JM (xi l 8) (J2 x)) (JJ (J2 x)) (QI (J2 x)) (JO (J2 l)) else Xj (J3 (xi l 8) (xi y 2) (xi y 3) (xi y 4)) (J4 (xi l 8) (xi y 2) (xi y 3) (xi y 4)) (J3 (xi l 8) (xi y 5) (xi y 6) (xi y 7)) (J4 (xi l 8) (xi y 5) (xi y 6) (xi y 7)) (JL (xi l 8) (J2 y)) (JM (xi l 8) (J2 y)) (JJ (J2 y)) (JO (J2 l))) (bif JP6 x l y then j6 (J3 (xi l 8) (xi y 2) (xi y 3) (xi y 4)) (J4 (xi l 8) (xi y 2) (xi y 3) (xi y 4)) (J3 (xi l 8) (xi y 5) (xi y 6) (xi y 7)) (J4 (xi l 8) (xi y 5) (xi y 6) (xi y 7)) (JL (xi l 8) (J2 y)) (JM (xi l 8) (J2 y)) (JJ (J2 y)) (QI (J2 y)) (J3 (xi l 8) (xi x 2) (xi x 3) (xi x 4)) (J4 (xi l 8) (xi x 2) (xi x 3) (xi x 4)) (J3 (xi l 8) (xi x 5) (xi x 6) (xi x 7)) (J4 (xi l 8) (xi x 5) (xi x 6) (xi x 7)) (JL (xi l 8) (J2 x)) (JM (xi l 8) (J2 x)) (JJ (J2 x)) (QI (J2 x)) (JO (J2 l)) else Xm (J3 (xi l 8) (xi y 2) (xi y 3) (xi y 4)) (J4 (xi l 8) (xi y 2) (xi y 3) (xi y 4)) (J3 (xi l 8) (xi y 5) (xi y 6) (xi y 7)) (J4 (xi l 8) (xi y 5) (xi y 6) (xi y 7)) (JL (xi l 8) (J2 y)) (JM (xi l 8) (J2 y)) (JJ (J2 y)) (JO (J2 l))) (JP6 x l y) (J2 l) (J2 y) st0 st1 rtr
def JGn:Int:= bif JZ2 x l y != 0 then JZ2 x l y else bif JZJ x l y st0 st1 rtr != 0 then JZJ x l y st0 st1 rtr else 0
def Jw:Int:= bif JO (J2 l) == 0 then 0 else JCJ (Qn (J3 (xi l 8) (xi y 2) (xi y 3) (xi y 4)) (J4 (xi l 8) (xi y 2) (xi y 3) (xi y 4)) (J3 (xi l 8) (xi y 5) (xi y 6) (xi y 7)) (J4 (xi l 8) (xi y 5) (xi y 6) (xi y 7)) (JM (xi l 8) (J2 y)) (JJ (J2 y)) true) (Qm (J3 (xi l 8) (xi y 2) (xi y 3) (xi y 4)) (J4 (xi l 8) (xi y 2) (xi y 3) (xi y 4)) (J3 (xi l 8) (xi y 5) (xi y 6) (xi y 7)) (J4 (xi l 8) (xi y 5) (xi y 6) (xi y 7)) (JL (xi l 8) (J2 y)) (JJ (J2 y)) true) (Qn (J3 (xi l 8) (xi x 2) (xi x 3) (xi x 4)) (J4 (xi l 8) (xi x 2) (xi x 3) (xi x 4)) (J3 (xi l 8) (xi x 5) (xi x 6) (xi x 7)) (J4 (xi l 8) (xi x 5) (xi x 6) (xi x 7)) (JM (xi l 8) (J2 x)) (JJ (J2 x)) false) (Qm (J3 (xi l 8) (xi x 2) (xi x 3) (xi x 4)) (J4 (xi l 8) (xi x 2) (xi x 3) (xi x 4)) (J3 (xi l 8) (xi x 5) (xi x 6) (xi x 7)) (J4 (xi l 8) (xi x 5) (xi x 6) (xi x 7)) (JL (xi l 8) (J2 x)) (JJ (J2 x)) false) (xi l 16)
def Xs:Int:= bif Jw x l y == 2 then Wv (J3 (xi l 8) (xi y 2) (xi y 3) (xi y 4)) (J4 (xi l 8) (xi y 2) (xi y 3) (xi y 4)) (J3 (xi l 8) (xi y 5) (xi y 6) (xi y 7)) (J4 (xi l 8) (xi y 5) (xi y 6) (xi y 7)) (JL (xi l 8) (J2 y)) (JM (xi l 8) (J2 y)) (JJ (J2 y)) (QI (J2 y)) (J3 (xi l 8) (xi x 2) (xi x 3) (xi x 4)) (J4 (xi l 8) (xi x 2) (xi x 3) (xi x 4)) (J3 (xi l 8) (xi x 5) (xi x 6) (xi x 7)) (J4 (xi l 8) (xi x 5) (xi x 6) (xi x 7)) (JL (xi l 8) (J2 x)) (JM (xi l 8) (J2 x)) (JJ (J2 x)) (QI (J2 x)) (JO (J2 l)) else Xj (J3 (xi l 8) (xi y 2) (xi y 3) (xi y 4)) (J4 (xi l 8) (xi y 2) (xi y 3) (xi y 4)) (J3 (xi l 8) (xi y 5) (xi y 6) (xi y 7)) (J4 (xi l 8) (xi y 5) (xi y 6) (xi y 7)) (JL (xi l 8) (J2 y)) (JM (xi l 8) (J2 y)) (JJ (J2 y)) (JO (J2 l))
def Xv:Int:= bif Jw x l y == 2 then j6 (J3 (xi l 8) (xi y 2) (xi y 3) (xi y 4)) (J4 (xi l 8) (xi y 2) (xi y 3) (xi y 4)) (J3 (xi l 8) (xi y 5) (xi y 6) (xi y 7)) (J4 (xi l 8) (xi y 5) (xi y 6) (xi y 7)) (JL (xi l 8) (J2 y)) (JM (xi l 8) (J2 y)) (JJ (J2 y)) (QI (J2 y)) (J3 (xi l 8) (xi x 2) (xi x 3) (xi x 4)) (J4 (xi l 8) (xi x 2) (xi x 3) (xi x 4)) (J3 (xi l 8) (xi x 5) (xi x 6) (xi x 7)) (J4 (xi l 8) (xi x 5) (xi x 6) (xi x 7)) (JL (xi l 8) (J2 x)) (JM (xi l 8) (J2 x)) (JJ (J2 x)) (QI (J2 x)) (JO (J2 l)) else Xm (J3 (xi l 8) (xi y 2) (xi y 3) (xi y 4)) (J4 (xi l 8) (xi y 2) (xi y 3) (xi y 4)) (J3 (xi l 8) (xi y 5) (xi y 6) (xi y 7)) (J4 (xi l 8) (xi y 5) (xi y 6) (xi y 7)) (JL (xi l 8) (J2 y)) (JM (xi l 8) (J2 y)) (JJ (J2 y)) (JO (J2 l))
def JG3:LL:= ZR (Xs x l y) (Xv x l y) (Jw x l y == 2) (J2 l) (J2 y) st0 st1 rtr ++ ZC (J2 l) (Xs x l y) (Xv x l y) C
end
def JAF (x:List GC) (l:List GC) (y:List GC) := bif Jw x l y == 2 then JDO (J3 (xi l 8) (xi y 2) (xi y 3) (xi y 4)) (J4 (xi l 8) (xi y 2) (xi y 3) (xi y 4)) (J3 (xi l 8) (xi y 5) (xi y 6) (xi y 7)) (J4 (xi l 8) (xi y 5) (xi y 6) (xi y 7)) (JL (xi l 8) (J2 y)) (JM (xi l 8) (J2 y)) (JJ (J2 y)) (QI (J2 y)) (J3 (xi l 8) (xi x 2) (xi x 3) (xi x 4)) (J4 (xi l 8) (xi x 2) (xi x 3) (xi x 4)) (J3 (xi l 8) (xi x 5) (xi x 6) (xi x 7)) (J4 (xi l 8) (xi x 5) (xi x 6) (xi x 7)) (JL (xi l 8) (J2 x)) (JM (xi l 8) (J2 x)) (JJ (J2 x)) (QI (J2 x)) (JO (J2 l)) else bif Yg l y == 0 then Qb (J3 (xi l 8) (xi x 2) (xi x 3) (xi x 4)) (J4 (xi l 8) (xi x 2) (xi x 3) (xi x 4)) (J3 (xi l 8) (xi x 5) (xi x 6) (xi x 7)) (J4 (xi l 8) (xi x 5) (xi x 6) (xi x 7)) (JL (xi l 8) (J2 x)) (JM (xi l 8) (J2 x)) (JJ (J2 x)) (JO (J2 l)) else Yg l y
def JTf (x:List GC) (l:List GC) (y:List GC) := bif Jw x l y == 2 then Wv (J3 (xi l 8) (xi y 2) (xi y 3) (xi y 4)) (J4 (xi l 8) (xi y 2) (xi y 3) (xi y 4)) (J3 (xi l 8) (xi y 5) (xi y 6) (xi y 7)) (J4 (xi l 8) (xi y 5) (xi y 6) (xi y 7)) (JL (xi l 8) (J2 y)) (JM (xi l 8) (J2 y)) (JJ (J2 y)) (QI (J2 y)) (J3 (xi l 8) (xi x 2) (xi x 3) (xi x 4)) (J4 (xi l 8) (xi x 2) (xi x 3) (xi x 4)) (J3 (xi l 8) (xi x 5) (xi x 6) (xi x 7)) (J4 (xi l 8) (xi x 5) (xi x 6) (xi x 7)) (JL (xi l 8) (J2 x)) (JM (xi l 8) (J2 x)) (JJ (J2 x)) (QI (J2 x)) (JO (J2 l)) else bif Yg l y == 0 then Kd (J3 (xi l 8) (xi x 2) (xi x 3) (xi x 4)) (J4 (xi l 8) (xi x 2) (xi x 3) (xi x 4)) (J3 (xi l 8) (xi x 5) (xi x 6) (xi x 7)) (J4 (xi l 8) (xi x 5) (xi x 6) (xi x 7)) (JL (xi l 8) (J2 x)) (JM (xi l 8) (J2 x)) (JJ (J2 x)) (JO (J2 l)) else 0
def JU7 (x:List GC) (l:List GC) (y:List GC) := bif Jw x l y == 2 then j6 (J3 (xi l 8) (xi y 2) (xi y 3) (xi y 4)) (J4 (xi l 8) (xi y 2) (xi y 3) (xi y 4)) (J3 (xi l 8) (xi y 5) (xi y 6) (xi y 7)) (J4 (xi l 8) (xi y 5) (xi y 6) (xi y 7)) (JL (xi l 8) (J2 y)) (JM (xi l 8) (J2 y)) (JJ (J2 y)) (QI (J2 y)) (J3 (xi l 8) (xi x 2) (xi x 3) (xi x 4)) (J4 (xi l 8) (xi x 2) (xi x 3) (xi x 4)) (J3 (xi l 8) (xi x 5) (xi x 6) (xi x 7)) (J4 (xi l 8) (xi x 5) (xi x 6) (xi x 7)) (JL (xi l 8) (J2 x)) (JM (xi l 8) (J2 x)) (JJ (J2 x)) (QI (J2 x)) (JO (J2 l)) else bif Yg l y == 0 then Kf (J3 (xi l 8) (xi x 2) (xi x 3) (xi x 4)) (J4 (xi l 8) (xi x 2) (xi x 3) (xi x 4)) (J3 (xi l 8) (xi x 5) (xi x 6) (xi x 7)) (J4 (xi l 8) (xi x 5) (xi x 6) (xi x 7)) (JL (xi l 8) (J2 x)) (JM (xi l 8) (J2 x)) (JJ (J2 x)) (JO (J2 l)) else 0
def JV3 (x l y:List GC) (st0 st1:Int) (rtr:Bool) (C:LL):LL := bif (JAF x l y) != 0 then [] else bif Q0 (Xs x l y) (Xv x l y) (Jw x l y == 2) (J2 l) (J2 y) st0 st1 rtr != 0 then [] else bif Jw x l y != 2 then JG3 x l y st0 st1 rtr C ++ Wa (J2 x) (Xs x l y) (Xv x l y) (JTf x l y) (JU7 x l y) (Jw x l y == 1) (J2 l) else JG3 x l y st0 st1 rtr C
def JEF (x:List GC) (l:List GC) (y:List GC) := bif Jw x l y == 2 then Wv (J3 (xi l 8) (xi y 2) (xi y 3) (xi y 4)) (J4 (xi l 8) (xi y 2) (xi y 3) (xi y 4)) (J3 (xi l 8) (xi y 5) (xi y 6) (xi y 7)) (J4 (xi l 8) (xi y 5) (xi y 6) (xi y 7)) (JL (xi l 8) (J2 y)) (JM (xi l 8) (J2 y)) (JJ (J2 y)) (QI (J2 y)) (J3 (xi l 8) (xi x 2) (xi x 3) (xi x 4)) (J4 (xi l 8) (xi x 2) (xi x 3) (xi x 4)) (J3 (xi l 8) (xi x 5) (xi x 6) (xi x 7)) (J4 (xi l 8) (xi x 5) (xi x 6) (xi x 7)) (JL (xi l 8) (J2 x)) (JM (xi l 8) (J2 x)) (JJ (J2 x)) (QI (J2 x)) (JO (J2 l)) else Xj (J3 (xi l 8) (xi y 2) (xi y 3) (xi y 4)) (J4 (xi l 8) (xi y 2) (xi y 3) (xi y 4)) (J3 (xi l 8) (xi y 5) (xi y 6) (xi y 7)) (J4 (xi l 8) (xi y 5) (xi y 6) (xi y 7)) (JL (xi l 8) (J2 y)) (JM (xi l 8) (J2 y)) (JJ (J2 y)) (JO (J2 l))
def JDW (x:List GC) (l:List GC) (y:List GC) := bif Jw x l y == 2 then j6 (J3 (xi l 8) (xi y 2) (xi y 3) (xi y 4)) (J4 (xi l 8) (xi y 2) (xi y 3) (xi y 4)) (J3 (xi l 8) (xi y 5) (xi y 6) (xi y 7)) (J4 (xi l 8) (xi y 5) (xi y 6) (xi y 7)) (JL (xi l 8) (J2 y)) (JM (xi l 8) (J2 y)) (JJ (J2 y)) (QI (J2 y)) (J3 (xi l 8) (xi x 2) (xi x 3) (xi x 4)) (J4 (xi l 8) (xi x 2) (xi x 3) (xi x 4)) (J3 (xi l 8) (xi x 5) (xi x 6) (xi x 7)) (J4 (xi l 8) (xi x 5) (xi x 6) (xi x 7)) (JL (xi l 8) (J2 x)) (JM (xi l 8) (J2 x)) (JJ (J2 x)) (QI (J2 x)) (JO (J2 l)) else Xm (J3 (xi l 8) (xi y 2) (xi y 3) (xi y 4)) (J4 (xi l 8) (xi y 2) (xi y 3) (xi y 4)) (J3 (xi l 8) (xi y 5) (xi y 6) (xi y 7)) (J4 (xi l 8) (xi y 5) (xi y 6) (xi y 7)) (JL (xi l 8) (J2 y)) (JM (xi l 8) (J2 y)) (JJ (J2 y)) (JO (J2 l))
section
variable (x l y:List GC) (st0 st1:Int) (rtr:Bool) (C:LL) (pn1 pn0:Int) (q0:Nat)
def ZM:Int:= bif (JAF x l y) != 0 then xi y q0 else bif Q0 (JEF x l y) (JDW x l y) (Jw x l y == 2) (J2 l) (J2 y) st0 st1 rtr != 0 then xi y q0 else bif Jw x l y != 2 then xi x q0 else xi x q0
def JZb:Int:= ZM x l y st0 st1 rtr 0
def JWE:Int:= ZM x l y st0 st1 rtr 1
def JaO:Int:= ZM x l y st0 st1 rtr 2
def JVX:Int:= ZM x l y st0 st1 rtr 3
def JZT:Int:= ZM x l y st0 st1 rtr 4
def JWn:Int:= ZM x l y st0 st1 rtr 5
def JVu:Int:= ZM x l y st0 st1 rtr 6
def JYY:Int:= ZM x l y st0 st1 rtr 7
def JZ3:Int:= ZM x l y st0 st1 rtr 8
def JXo:Int:= ZM x l y st0 st1 rtr 9
def JXu:Int:= ZM x l y st0 st1 rtr 10
def JZn:Int:= ZM x l y st0 st1 rtr 11
def JXP:Int:= ZM x l y st0 st1 rtr 12
def JFd:Bool:= bif (JAF x l y) != 0 then xb y q0 else bif Q0 (JEF x l y) (JDW x l y) (Jw x l y == 2) (J2 l) (J2 y) st0 st1 rtr != 0 then xb y q0 else bif Jw x l y != 2 then xb x q0 else xb x q0
def JWJ:Bool:= JFd x l y st0 st1 rtr 13
def JYw:Int:= ZM x l y st0 st1 rtr 14
def JWY:Bool:= JFd x l y st0 st1 rtr 15
def JWR:Int:= ZM x l y st0 st1 rtr 16
def JZG:Int:= ZM x l y st0 st1 rtr 17
def JXr:Int:= ZM x l y st0 st1 rtr 18
def JYa:Int:= ZM x l y st0 st1 rtr 19
def JWj:Int:= ZM x l y st0 st1 rtr 20
def JXJ:Bool:= JFd x l y st0 st1 rtr 21
def zR:Int:= bif Jw x l y == 2 then Wv (J3 (xi l 8) (xi y 2) (xi y 3) (xi y 4)) (J4 (xi l 8) (xi y 2) (xi y 3) (xi y 4)) (J3 (xi l 8) (xi y 5) (xi y 6) (xi y 7)) (J4 (xi l 8) (xi y 5) (xi y 6) (xi y 7)) (JL (xi l 8) (J2 y)) (JM (xi l 8) (J2 y)) (JJ (J2 y)) (QI (J2 y)) (J3 (xi l 8) (xi x 2) (xi x 3) (xi x 4)) (J4 (xi l 8) (xi x 2) (xi x 3) (xi x 4)) (J3 (xi l 8) (xi x 5) (xi x 6) (xi x 7)) (J4 (xi l 8) (xi x 5) (xi x 6) (xi x 7)) (JL (xi l 8) (J2 x)) (JM (xi l 8) (J2 x)) (JJ (J2 x)) (QI (J2 x)) (JO (J2 l)) else bif Yg l y == 0 then Kd (J3 (xi l 8) (xi x 2) (xi x 3) (xi x 4)) (J4 (xi l 8) (xi x 2) (xi x 3) (xi x 4)) (J3 (xi l 8) (xi x 5) (xi x 6) (xi x 7)) (J4 (xi l 8) (xi x 5) (xi x 6) (xi x 7)) (JL (xi l 8) (J2 x)) (JM (xi l 8) (J2 x)) (JJ (J2 x)) (JO (J2 l)) else 0
def JWs:Int:= bif (JAF x l y) != 0 then st0 else bif Q0 (JEF x l y) (JDW x l y) (Jw x l y == 2) (J2 l) (J2 y) st0 st1 rtr != 0 then st0 else bif Jw x l y != 2 then zR x l y else zR x l y
def kw:Int:= bif Jw x l y == 2 then j6 (J3 (xi l 8) (xi y 2) (xi y 3) (xi y 4)) (J4 (xi l 8) (xi y 2) (xi y 3) (xi y 4)) (J3 (xi l 8) (xi y 5) (xi y 6) (xi y 7)) (J4 (xi l 8) (xi y 5) (xi y 6) (xi y 7)) (JL (xi l 8) (J2 y)) (JM (xi l 8) (J2 y)) (JJ (J2 y)) (QI (J2 y)) (J3 (xi l 8) (xi x 2) (xi x 3) (xi x 4)) (J4 (xi l 8) (xi x 2) (xi x 3) (xi x 4)) (J3 (xi l 8) (xi x 5) (xi x 6) (xi x 7)) (J4 (xi l 8) (xi x 5) (xi x 6) (xi x 7)) (JL (xi l 8) (J2 x)) (JM (xi l 8) (J2 x)) (JJ (J2 x)) (QI (J2 x)) (JO (J2 l)) else bif Yg l y == 0 then Kf (J3 (xi l 8) (xi x 2) (xi x 3) (xi x 4)) (J4 (xi l 8) (xi x 2) (xi x 3) (xi x 4)) (J3 (xi l 8) (xi x 5) (xi x 6) (xi x 7)) (J4 (xi l 8) (xi x 5) (xi x 6) (xi x 7)) (JL (xi l 8) (J2 x)) (JM (xi l 8) (J2 x)) (JJ (J2 x)) (JO (J2 l)) else 0
def JVY:Int:= bif (JAF x l y) != 0 then st1 else bif Q0 (JEF x l y) (JDW x l y) (Jw x l y == 2) (J2 l) (J2 y) st0 st1 rtr != 0 then st1 else bif Jw x l y != 2 then kw x l y else kw x l y
def JXQ:Bool:= bif (JAF x l y) != 0 then rtr else bif Q0 (JEF x l y) (JDW x l y) (Jw x l y == 2) (J2 l) (J2 y) st0 st1 rtr != 0 then rtr else bif Jw x l y != 2 then Jw x l y == 2 else Jw x l y == 2
def JWw:Int:= bif (JAF x l y) != 0 then pn0 else bif Q0 (JEF x l y) (JDW x l y) (Jw x l y == 2) (J2 l) (J2 y) st0 st1 rtr != 0 then pn0 else bif Jw x l y != 2 then zR x l y else zR x l y
def JaV:Int:= bif (JAF x l y) != 0 then pn1 else bif Q0 (JEF x l y) (JDW x l y) (Jw x l y == 2) (J2 l) (J2 y) st0 st1 rtr != 0 then pn1 else bif Jw x l y != 2 then kw x l y else kw x l y
def JJ0:LL:= bif (JAF x l y) != 0 then C else bif Q0 (JEF x l y) (JDW x l y) (Jw x l y == 2) (J2 l) (J2 y) st0 st1 rtr != 0 then C else bif Jw x l y != 2 then [] else []
def JKo:LL:= ZR (Xs x l y) (Xv x l y) (Jw x l y == 2) (J2 l) (J2 y) st0 st1 rtr
end
def JTM (x:List GC) (l:List GC) (y:List GC) := Wa (J2 x) (Xs x l y) (Xv x l y) (JTf x l y) (JU7 x l y) (Jw x l y == 1) (J2 l)
def JE6 (x l y:List GC) (st0 st1:Int) (rtr:Bool) (C:LL):List Prop := [((JAF x l y) != 0) = false → (Q0 (Xs x l y) (Xv x l y) (Jw x l y == 2) (J2 l) (J2 y) st0 st1 rtr != 0) = false → C.length ≤ 1000 ∧ ((JKo x l y st0 st1 rtr).length + (ZC (J2 l) (Xs x l y) (Xv x l y) C).length) * 176 ≤ 140737488355328 ∧ (JKo x l y st0 st1 rtr).length + (ZC (J2 l) (Xs x l y) (Xv x l y) C).length ≤ 9223372036854775807 ∧ ((Jw x l y != 2) = true → ((JKo x l y st0 st1 rtr ++ ZC (J2 l) (Xs x l y) (Xv x l y) C).length + (JTM x l y).length) * 176 ≤ 140737488355328 ∧ (JKo x l y st0 st1 rtr ++ ZC (J2 l) (Xs x l y) (Xv x l y) C).length + (JTM x l y).length ≤ 9223372036854775807)]
theorem JjP {x:List GC} {l:List GC} {y:List GC} {st0:Int} {st1:Int} {rtr:Bool} {C:LL} (hW:∀ q ∈ ([C.length ≤ 1000]:List Prop),q):∀ q ∈ (JE6 x l y st0 st1 rtr C),q := by
  simp only [awc,awn,and_true] at hW
  unfold JE6
  simp only [awc,awn,and_true]
  have r := fun a b => JN4 (J2 l) a b C
  have s := fun u w c => JJO u w c (J2 l) (J2 y) st0 st1 rtr
  have j := fun u w v z o => Jam (J2 x) u w v z o (J2 l)
  exact fun _ _ => ⟨hW,(JnW (s _ _ _) (r _ _) hW).1,(JnW (s _ _ _) (r _ _) hW).2,fun _ => ⟨(JvS (s _ _ _) (r _ _) (j _ _ _ _ _) hW).1,(JvS (s _ _ _) (r _ _) (j _ _ _ _ _) hW).2⟩⟩
def Jge (x:List GC) (rcl rop:Bool) (rer:Int) (rmo ren:Bool) (rla0 rla1 rla2:Int) (l:List GC) (has:Bool) (y:List GC) (st0 st1:Int) (rtr:Bool) (pn0 pn1:Int) (C:LL):Jo := [(48466,Obj.row false 40 22 (RowC.lst 48465 jH (JV3 x l y st0 st1 rtr C))),(0,Obj.blk 74 [(2,Cb rcl),(3,Cb rop),(4,Ci rer),(5,Cb rmo),(6,Cb ren),(7,Ci rla0),(8,Ci rla1),(9,Ci rla2),(10,Ci (xi l 0)),(11,Ci (xi l 1)),(12,Ci (xi l 2)),(13,Ci (xi l 3)),(14,Ci (xi l 4)),(15,Ci (xi l 5)),(16,Ci (xi l 6)),(17,Ci (xi l 7)),(18,Ci (xi l 8)),(19,Ci (xi l 9)),(20,Ci (xi l 10)),(21,Ci (xi l 11)),(22,Ci (xi l 12)),(23,Cb (xb l 13)),(24,Ci (xi l 14)),(25,Cb (xb l 15)),(26,Ci (xi l 16)),(27,Ci (xi l 17)),(28,Ci (xi l 18)),(29,Ci (xi l 19)),(30,Ci (xi l 20)),(31,Cb (xb l 21)),(48464,SC.wh 48462),(33,Cb has),(48468,Ci (JZb x l y st0 st1 rtr)),(48469,Ci (JWE x l y st0 st1 rtr)),(48470,Ci (JaO x l y st0 st1 rtr)),(48471,Ci (JVX x l y st0 st1 rtr)),(48472,Ci (JZT x l y st0 st1 rtr)),(48473,Ci (JWn x l y st0 st1 rtr)),(48474,Ci (JVu x l y st0 st1 rtr)),(48475,Ci (JYY x l y st0 st1 rtr)),(48476,Ci (JZ3 x l y st0 st1 rtr)),(48477,Ci (JXo x l y st0 st1 rtr)),(48478,Ci (JXu x l y st0 st1 rtr)),(48479,Ci (JZn x l y st0 st1 rtr)),(48480,Ci (JXP x l y st0 st1 rtr)),(48481,Cb (JWJ x l y st0 st1 rtr)),(48482,Ci (JYw x l y st0 st1 rtr)),(48483,Cb (JWY x l y st0 st1 rtr)),(48484,Ci (JWR x l y st0 st1 rtr)),(48485,Ci (JZG x l y st0 st1 rtr)),(48486,Ci (JXr x l y st0 st1 rtr)),(48487,Ci (JYa x l y st0 st1 rtr)),(48488,Ci (JWj x l y st0 st1 rtr)),(48489,Cb (JXJ x l y st0 st1 rtr)),(48490,Ci (JWs x l y st0 st1 rtr)),(48491,Ci (JVY x l y st0 st1 rtr)),(48492,Cb (JXQ x l y st0 st1 rtr)),(48493,Ci (JWw x l y st0 st1 rtr pn0)),(48494,Ci (JaV x l y st0 st1 rtr pn1))]),(48462,Obj.row true 40 22 (RowC.lst 48467 jH (JJ0 x l y st0 st1 rtr C))),(1,Obj.row true 40 22 (RowC.lst 61 jH C))]
theorem JjE (x:List GC) (rcl rop:Bool) (rer:Int) (rmo ren:Bool) (rla0 rla1 rla2:Int) (l:List GC) (has:Bool) (y:List GC) (st0 st1:Int) (rtr:Bool) (pn0 pn1:Int) (C:LL) (hNeeds:∀ pN ∈ (JE6 x l y st0 st1 rtr C),pN):Runs (JGx (JB JYJ) WV 63) (JGL.args (Jc JOZ [.v x,.b rcl,.b rop,.i rer,.b rmo,.b ren,.i rla0,.i rla1,.i rla2,.v l,.b has,.v y,.i st0,.i st1,.b rtr,.i pn0,.i pn1])) (JGL.memo (Jc JOZ [.v x,.b rcl,.b rop,.i rer,.b rmo,.b ren,.i rla0,.i rla1,.i rla2,.v l,.b has,.v y,.i st0,.i st1,.b rtr,.i pn0,.i pn1]) [C]) JGL.n (SV.tup [(false,[SC.wh 48466]),(false,[Ci (JGn x l y st0 st1 rtr)])]) (Jge x rcl rop rer rmo ren rla0 rla1 rla2 l has y st0 st1 rtr pn0 pn1 C) :=
  Runs.of1 (ps := (JE6 x l y st0 st1 rtr C)) (by kernel_rfl) hNeeds
def JS2:List Gm → Qr → Option CRes
  | [.v x,.b rcl,.b rop,.i rer,.b rmo,.b ren,.i rla0,.i rla1,.i rla2,.v l,.b has,.v y,.i st0,.i st1,.b rtr,.i pn0,.i pn1],[C] => some ⟨SV.tup [(false,[SC.wh 48466]),(false,[Ci (JGn x l y st0 st1 rtr)])],Jge x rcl rop rer rmo ren rla0 rla1 rla2 l has y st0 st1 rtr pn0 pn1 C,[C.length ≤ 1000],[],48495⟩
  | _,_ => none
theorem Jsm:Qk Tryz.prog 63 (Z9 JOZ JGL JS2) := by
  refine Qd (KM JOc 63) fun ps ls r hr hn _ => ?_
  unfold JS2 at hr
  split at hr
  · cases hr; exact ⟨_,JjE _ _ _ _ _ _ _ _ _ _ _ _ _ _ _ _ _ _ (JjP (by exact hn)),fun _ => rfl⟩
  · cases hr
def Jdx:List (Nat × JW) := (63,Z9 JOZ JGL JS2) :: JYJ
theorem JT8:Known Tryz.prog (JB Jdx) WV := J7 JOc Jsm
theorem Jay (x l:List GC) (C:LL):(JFe x l C).length ≤ C.length := by
  unfold JFe
  repeat' first | exact Nat.le_refl _ | exact Nat.zero_le _ | refine WU ?_ ?_
theorem Jas (l y:List GC) (st0 st1:Int) (rtr:Bool) (C:LL):(JFV l y st0 st1 rtr C).length ≤ C.length := by
  unfold JFV
  repeat' first | exact Nat.le_refl _ | exact Nat.zero_le _ | refine WU ?_ ?_
theorem JdY (x l y:List GC) (st0 st1:Int) (rtr:Bool) (C:LL):(JJ0 x l y st0 st1 rtr C).length ≤ C.length := by
  unfold JJ0
  repeat' first | exact Nat.le_refl _ | exact Nat.zero_le _ | refine WU ?_ ?_
theorem JxW {C:LL} {r:List Int} (h:C.length ≤ 8):(bif Int.ofNat C.length == 8 then C else [] ++ C ++ [r]).length ≤ 8 := by
  cases e:(Int.ofNat C.length == 8)
  · have:C.length ≠ 8 := fun h => by rw [h] at e; exact absurd e (by decide)
    simp only [cond_false,List.length_append,List.length_cons,List.length_nil]; omega
  · exact h
def JF8:Tpl := ⟨[.one (.ptr 0 0),.agg pI],YF,62⟩
def JNS:List GK := [.v Jy,.b,.b,.i,.b,.b,.i,.i,.i,.v Jy,.b,.v Jy,.i,.i,.b,.i,.i]
section
variable (x:List GC) (rcl rop rmo ren:Bool) (rla0 rla1 rla2:Int) (l:List GC) (q0:Nat) (has:Bool) (y:List GC) (st0 st1:Int) (rtr:Bool) (C:LL)
def Q9:Int:= bif rcl then 13 else bif !Qt (J2 x) || ren || J5 (xi x 0) && rmo && !(xi x 2 == rla0 && (xi x 3 == rla1 && xi x 4 == rla2)) then 1 else bif !rop && (!J5 (xi x 0) || xi x 16 == 0) then 0 else bif !rop then bif !ZO (xi x 8) (xi x 17) (J2 x) then 14 else 0 else bif J5 (xi x 0) && xi x 16 == 0 then bif !ZO (xi l 8) (xi l 17) (J2 x) || !has then 14 else JCf (J2 l) (J2 y) st0 st1 rtr else bif xi x 0 == 1 || xi x 0 == 11 || xi x 0 == 14 || J5 (xi x 0) && (xi x 8 != xi l 8 || xi x 16 != xi l 16 || xi x 17 != xi l 17) then 13 else bif !J5 (xi x 0) || !ZL (xi l 8) (J2 x) then bif Int.ofNat C.length == 8 then 10 else 0 else bif !has then JCc (J2 x) (J2 l) else JGn (J2 x) (J2 l) (J2 y) st0 st1 rtr
def YV:LL:= bif rcl then [] else bif !Qt (J2 x) || ren || J5 (xi x 0) && rmo && !(xi x 2 == rla0 && (xi x 3 == rla1 && xi x 4 == rla2)) then [] else bif !rop && (!J5 (xi x 0) || xi x 16 == 0) then [JI2 x] else bif !rop then [] else bif J5 (xi x 0) && xi x 16 == 0 then bif !ZO (xi l 8) (xi l 17) (J2 x) || !has then [] else JOs (J2 x) (J2 l) (J2 y) st0 st1 rtr C else bif xi x 0 == 1 || xi x 0 == 11 || xi x 0 == 14 || J5 (xi x 0) && (xi x 8 != xi l 8 || xi x 16 != xi l 16 || xi x 17 != xi l 17) then [] else bif !J5 (xi x 0) || !ZL (xi l 8) (J2 x) then [] else bif !has then JOh (J2 x) (J2 l) C else JV3 (J2 x) (J2 l) (J2 y) st0 st1 rtr C
def JDo:Bool:= bif rcl then rop else bif !Qt (J2 x) || ren || J5 (xi x 0) && rmo && !(xi x 2 == rla0 && (xi x 3 == rla1 && xi x 4 == rla2)) then rop else bif !rop && (!J5 (xi x 0) || xi x 16 == 0) then rop else bif !rop then bif !ZO (xi x 8) (xi x 17) (J2 x) then rop else true else bif J5 (xi x 0) && xi x 16 == 0 then bif !ZO (xi l 8) (xi l 17) (J2 x) || !has then rop else JWc rop (J2 l) (J2 y) st0 st1 rtr else rop
def JE5:Bool:= bif rcl then rmo else bif !Qt (J2 x) || ren || J5 (xi x 0) && rmo && !(xi x 2 == rla0 && (xi x 3 == rla1 && xi x 4 == rla2)) then rmo else J5 (xi x 0) || rmo
def JDq:Bool:= bif rcl then ren else bif !Qt (J2 x) || ren || J5 (xi x 0) && rmo && !(xi x 2 == rla0 && (xi x 3 == rla1 && xi x 4 == rla2)) then ren else xi x 0 == 14
def JED:Int:= bif rcl then rla0 else bif !Qt (J2 x) || ren || J5 (xi x 0) && rmo && !(xi x 2 == rla0 && (xi x 3 == rla1 && xi x 4 == rla2)) then rla0 else bif J5 (xi x 0) then xi x 5 else rla0
def JDu:Int:= bif rcl then rla1 else bif !Qt (J2 x) || ren || J5 (xi x 0) && rmo && !(xi x 2 == rla0 && (xi x 3 == rla1 && xi x 4 == rla2)) then rla1 else bif J5 (xi x 0) then xi x 6 else rla1
def JEO:Int:= bif rcl then rla2 else bif !Qt (J2 x) || ren || J5 (xi x 0) && rmo && !(xi x 2 == rla0 && (xi x 3 == rla1 && xi x 4 == rla2)) then rla2 else bif J5 (xi x 0) then xi x 7 else rla2
def QC:Int:= bif rcl then xi l q0 else bif !Qt (J2 x) || ren || J5 (xi x 0) && rmo && !(xi x 2 == rla0 && (xi x 3 == rla1 && xi x 4 == rla2)) then xi l q0 else bif !rop && (!J5 (xi x 0) || xi x 16 == 0) then xi l q0 else bif !rop then bif !ZO (xi x 8) (xi x 17) (J2 x) then xi l q0 else xi x q0 else xi l q0
def JDQ:Int:= QC x rcl rop rmo ren rla0 rla1 rla2 l 0
def JDb:Int:= QC x rcl rop rmo ren rla0 rla1 rla2 l 1
def z9:Int:= QC x rcl rop rmo ren rla0 rla1 rla2 l 2
def zf:Int:= QC x rcl rop rmo ren rla0 rla1 rla2 l 3
def JA2:Int:= QC x rcl rop rmo ren rla0 rla1 rla2 l 4
def qk:Int:= QC x rcl rop rmo ren rla0 rla1 rla2 l 5
def qm:Int:= QC x rcl rop rmo ren rla0 rla1 rla2 l 6
def qL:Int:= QC x rcl rop rmo ren rla0 rla1 rla2 l 7
def kq:Int:= QC x rcl rop rmo ren rla0 rla1 rla2 l 8
def zL:Int:= QC x rcl rop rmo ren rla0 rla1 rla2 l 9
def kY:Int:= QC x rcl rop rmo ren rla0 rla1 rla2 l 10
def kJ:Int:= QC x rcl rop rmo ren rla0 rla1 rla2 l 11
def ke:Int:= QC x rcl rop rmo ren rla0 rla1 rla2 l 12
def Za:Bool:= bif rcl then xb l q0 else bif !Qt (J2 x) || ren || J5 (xi x 0) && rmo && !(xi x 2 == rla0 && (xi x 3 == rla1 && xi x 4 == rla2)) then xb l q0 else bif !rop && (!J5 (xi x 0) || xi x 16 == 0) then xb l q0 else bif !rop then bif !ZO (xi x 8) (xi x 17) (J2 x) then xb l q0 else xb x q0 else xb l q0
def zj:Bool:= Za x rcl rop rmo ren rla0 rla1 rla2 l 13
def qr:Int:= QC x rcl rop rmo ren rla0 rla1 rla2 l 14
def z5:Bool:= Za x rcl rop rmo ren rla0 rla1 rla2 l 15
def zq:Int:= QC x rcl rop rmo ren rla0 rla1 rla2 l 16
def qT:Int:= QC x rcl rop rmo ren rla0 rla1 rla2 l 17
def zQ:Int:= QC x rcl rop rmo ren rla0 rla1 rla2 l 18
def kr:Int:= QC x rcl rop rmo ren rla0 rla1 rla2 l 19
def zm:Int:= QC x rcl rop rmo ren rla0 rla1 rla2 l 20
def kW:Bool:= Za x rcl rop rmo ren rla0 rla1 rla2 l 21
def JA3:Bool:= bif rcl then has else bif !Qt (J2 x) || ren || J5 (xi x 0) && rmo && !(xi x 2 == rla0 && (xi x 3 == rla1 && xi x 4 == rla2)) then has else bif !rop && (!J5 (xi x 0) || xi x 16 == 0) then has else bif !rop then !ZO (xi x 8) (xi x 17) (J2 x) && has else bif J5 (xi x 0) && xi x 16 == 0 then bif !ZO (xi l 8) (xi l 17) (J2 x) || !has then has else JPk (J2 l) has (J2 y) st0 st1 rtr else bif xi x 0 == 1 || xi x 0 == 11 || xi x 0 == 14 || J5 (xi x 0) && (xi x 8 != xi l 8 || xi x 16 != xi l 16 || xi x 17 != xi l 17) then has else bif !J5 (xi x 0) || !ZL (xi l 8) (J2 x) then has else bif !has then JPR (J2 x) (J2 l) has else has
end
section
variable (x:List GC) (rcl rop rmo ren:Bool) (rla0 rla1 rla2:Int) (l:List GC) (has:Bool) (y:List GC) (st0 st1:Int) (rtr:Bool) (q0:Nat) (q1 q2:Int)
def QF:Int:= bif rcl then xi y q0 else bif !Qt (J2 x) || ren || J5 (xi x 0) && rmo && !(xi x 2 == rla0 && (xi x 3 == rla1 && xi x 4 == rla2)) then xi y q0 else bif !rop && (!J5 (xi x 0) || xi x 16 == 0) then xi y q0 else bif !rop then xi y q0 else bif J5 (xi x 0) && xi x 16 == 0 then xi y q0 else bif xi x 0 == 1 || xi x 0 == 11 || xi x 0 == 14 || J5 (xi x 0) && (xi x 8 != xi l 8 || xi x 16 != xi l 16 || xi x 17 != xi l 17) then xi y q0 else bif !J5 (xi x 0) || !ZL (xi l 8) (J2 x) then xi y q0 else bif !has then q1 else q2
def qh:Int:= QF x rcl rop rmo ren rla0 rla1 rla2 l has y 0 (JRj (J2 x) (J2 l) (J2 y)) (JZb (J2 x) (J2 l) (J2 y) st0 st1 rtr)
def kO:Int:= QF x rcl rop rmo ren rla0 rla1 rla2 l has y 1 (JRL (J2 x) (J2 l) (J2 y)) (JWE (J2 x) (J2 l) (J2 y) st0 st1 rtr)
def qX:Int:= QF x rcl rop rmo ren rla0 rla1 rla2 l has y 2 (JSb (J2 x) (J2 l) (J2 y)) (JaO (J2 x) (J2 l) (J2 y) st0 st1 rtr)
def kf:Int:= QF x rcl rop rmo ren rla0 rla1 rla2 l has y 3 (JSF (J2 x) (J2 l) (J2 y)) (JVX (J2 x) (J2 l) (J2 y) st0 st1 rtr)
def zy:Int:= QF x rcl rop rmo ren rla0 rla1 rla2 l has y 4 (JSZ (J2 x) (J2 l) (J2 y)) (JZT (J2 x) (J2 l) (J2 y) st0 st1 rtr)
def kH:Int:= QF x rcl rop rmo ren rla0 rla1 rla2 l has y 5 (JSL (J2 x) (J2 l) (J2 y)) (JWn (J2 x) (J2 l) (J2 y) st0 st1 rtr)
def kK:Int:= QF x rcl rop rmo ren rla0 rla1 rla2 l has y 6 (JPy (J2 x) (J2 l) (J2 y)) (JVu (J2 x) (J2 l) (J2 y) st0 st1 rtr)
def qV:Int:= QF x rcl rop rmo ren rla0 rla1 rla2 l has y 7 (JRx (J2 x) (J2 l) (J2 y)) (JYY (J2 x) (J2 l) (J2 y) st0 st1 rtr)
def kF:Int:= QF x rcl rop rmo ren rla0 rla1 rla2 l has y 8 (JPL (J2 x) (J2 l) (J2 y)) (JZ3 (J2 x) (J2 l) (J2 y) st0 st1 rtr)
def kx:Int:= QF x rcl rop rmo ren rla0 rla1 rla2 l has y 9 (JPQ (J2 x) (J2 l) (J2 y)) (JXo (J2 x) (J2 l) (J2 y) st0 st1 rtr)
def kQ:Int:= QF x rcl rop rmo ren rla0 rla1 rla2 l has y 10 (JRo (J2 x) (J2 l) (J2 y)) (JXu (J2 x) (J2 l) (J2 y) st0 st1 rtr)
def kc:Int:= QF x rcl rop rmo ren rla0 rla1 rla2 l has y 11 (JPs (J2 x) (J2 l) (J2 y)) (JZn (J2 x) (J2 l) (J2 y) st0 st1 rtr)
def zN:Int:= QF x rcl rop rmo ren rla0 rla1 rla2 l has y 12 (JPN (J2 x) (J2 l) (J2 y)) (JXP (J2 x) (J2 l) (J2 y) st0 st1 rtr)
end
section
variable (x:List GC) (rcl rop rmo ren:Bool) (rla0 rla1 rla2:Int) (l:List GC) (has:Bool) (y:List GC) (st0 st1:Int) (rtr:Bool) (C:LL) (pn1 pn0:Int) (q0:Nat) (q1 q2:Bool)
def Zf:Bool:= bif rcl then xb y q0 else bif !Qt (J2 x) || ren || J5 (xi x 0) && rmo && !(xi x 2 == rla0 && (xi x 3 == rla1 && xi x 4 == rla2)) then xb y q0 else bif !rop && (!J5 (xi x 0) || xi x 16 == 0) then xb y q0 else bif !rop then xb y q0 else bif J5 (xi x 0) && xi x 16 == 0 then xb y q0 else bif xi x 0 == 1 || xi x 0 == 11 || xi x 0 == 14 || J5 (xi x 0) && (xi x 8 != xi l 8 || xi x 16 != xi l 16 || xi x 17 != xi l 17) then xb y q0 else bif !J5 (xi x 0) || !ZL (xi l 8) (J2 x) then xb y q0 else bif !has then q1 else q2
def qv:Bool:= Zf x rcl rop rmo ren rla0 rla1 rla2 l has y 13 (JQ8 (J2 x) (J2 l) (J2 y)) (JWJ (J2 x) (J2 l) (J2 y) st0 st1 rtr)
def zH:Int:= QF x rcl rop rmo ren rla0 rla1 rla2 l has y 14 (JQ0 (J2 x) (J2 l) (J2 y)) (JYw (J2 x) (J2 l) (J2 y) st0 st1 rtr)
def qp:Bool:= Zf x rcl rop rmo ren rla0 rla1 rla2 l has y 15 (JRQ (J2 x) (J2 l) (J2 y)) (JWY (J2 x) (J2 l) (J2 y) st0 st1 rtr)
def qS:Int:= QF x rcl rop rmo ren rla0 rla1 rla2 l has y 16 (JPg (J2 x) (J2 l) (J2 y)) (JWR (J2 x) (J2 l) (J2 y) st0 st1 rtr)
def kI:Int:= QF x rcl rop rmo ren rla0 rla1 rla2 l has y 17 (JPc (J2 x) (J2 l) (J2 y)) (JZG (J2 x) (J2 l) (J2 y) st0 st1 rtr)
def kM:Int:= QF x rcl rop rmo ren rla0 rla1 rla2 l has y 18 (JRW (J2 x) (J2 l) (J2 y)) (JXr (J2 x) (J2 l) (J2 y) st0 st1 rtr)
def JA0:Int:= QF x rcl rop rmo ren rla0 rla1 rla2 l has y 19 (JRM (J2 x) (J2 l) (J2 y)) (JYa (J2 x) (J2 l) (J2 y) st0 st1 rtr)
def kp:Int:= QF x rcl rop rmo ren rla0 rla1 rla2 l has y 20 (JQD (J2 x) (J2 l) (J2 y)) (JWj (J2 x) (J2 l) (J2 y) st0 st1 rtr)
def qf:Bool:= Zf x rcl rop rmo ren rla0 rla1 rla2 l has y 21 (JPh (J2 x) (J2 l) (J2 y)) (JXJ (J2 x) (J2 l) (J2 y) st0 st1 rtr)
def ze:Int:= bif rcl then st0 else bif !Qt (J2 x) || ren || J5 (xi x 0) && rmo && !(xi x 2 == rla0 && (xi x 3 == rla1 && xi x 4 == rla2)) then st0 else bif !rop && (!J5 (xi x 0) || xi x 16 == 0) then st0 else bif !rop then st0 else bif J5 (xi x 0) && xi x 16 == 0 then st0 else bif xi x 0 == 1 || xi x 0 == 11 || xi x 0 == 14 || J5 (xi x 0) && (xi x 8 != xi l 8 || xi x 16 != xi l 16 || xi x 17 != xi l 17) then st0 else bif !J5 (xi x 0) || !ZL (xi l 8) (J2 x) then st0 else bif !has then JGO (J2 x) (J2 l) st0 else JWs (J2 x) (J2 l) (J2 y) st0 st1 rtr
def qW:Int:= bif rcl then st1 else bif !Qt (J2 x) || ren || J5 (xi x 0) && rmo && !(xi x 2 == rla0 && (xi x 3 == rla1 && xi x 4 == rla2)) then st1 else bif !rop && (!J5 (xi x 0) || xi x 16 == 0) then st1 else bif !rop then st1 else bif J5 (xi x 0) && xi x 16 == 0 then st1 else bif xi x 0 == 1 || xi x 0 == 11 || xi x 0 == 14 || J5 (xi x 0) && (xi x 8 != xi l 8 || xi x 16 != xi l 16 || xi x 17 != xi l 17) then st1 else bif !J5 (xi x 0) || !ZL (xi l 8) (J2 x) then st1 else bif !has then JG7 (J2 x) (J2 l) st1 else JVY (J2 x) (J2 l) (J2 y) st0 st1 rtr
def qO:Bool:= bif rcl then rtr else bif !Qt (J2 x) || ren || J5 (xi x 0) && rmo && !(xi x 2 == rla0 && (xi x 3 == rla1 && xi x 4 == rla2)) then rtr else bif !rop && (!J5 (xi x 0) || xi x 16 == 0) then rtr else bif !rop then rtr else bif J5 (xi x 0) && xi x 16 == 0 then rtr else bif xi x 0 == 1 || xi x 0 == 11 || xi x 0 == 14 || J5 (xi x 0) && (xi x 8 != xi l 8 || xi x 16 != xi l 16 || xi x 17 != xi l 17) then rtr else bif !J5 (xi x 0) || !ZL (xi l 8) (J2 x) then rtr else bif !has then JQ6 (J2 x) (J2 l) rtr else JXQ (J2 x) (J2 l) (J2 y) st0 st1 rtr
def zp:Int:= bif rcl then pn0 else bif !Qt (J2 x) || ren || J5 (xi x 0) && rmo && !(xi x 2 == rla0 && (xi x 3 == rla1 && xi x 4 == rla2)) then pn0 else bif !rop && (!J5 (xi x 0) || xi x 16 == 0) then pn0 else bif !rop then pn0 else bif J5 (xi x 0) && xi x 16 == 0 then bif !ZO (xi l 8) (xi l 17) (J2 x) || !has then pn0 else JSU (J2 l) (J2 y) st0 st1 rtr pn0 else bif xi x 0 == 1 || xi x 0 == 11 || xi x 0 == 14 || J5 (xi x 0) && (xi x 8 != xi l 8 || xi x 16 != xi l 16 || xi x 17 != xi l 17) then pn0 else bif !J5 (xi x 0) || !ZL (xi l 8) (J2 x) then pn0 else bif !has then JGO (J2 x) (J2 l) pn0 else JWw (J2 x) (J2 l) (J2 y) st0 st1 rtr pn0
def qy:Int:= bif rcl then pn1 else bif !Qt (J2 x) || ren || J5 (xi x 0) && rmo && !(xi x 2 == rla0 && (xi x 3 == rla1 && xi x 4 == rla2)) then pn1 else bif !rop && (!J5 (xi x 0) || xi x 16 == 0) then pn1 else bif !rop then pn1 else bif J5 (xi x 0) && xi x 16 == 0 then bif !ZO (xi l 8) (xi l 17) (J2 x) || !has then pn1 else JQN (J2 l) (J2 y) st0 st1 rtr pn1 else bif xi x 0 == 1 || xi x 0 == 11 || xi x 0 == 14 || J5 (xi x 0) && (xi x 8 != xi l 8 || xi x 16 != xi l 16 || xi x 17 != xi l 17) then pn1 else bif !J5 (xi x 0) || !ZL (xi l 8) (J2 x) then pn1 else bif !has then JG7 (J2 x) (J2 l) pn1 else JaV (J2 x) (J2 l) (J2 y) st0 st1 rtr pn1
def WJ:LL:= bif rcl then C else bif !Qt (J2 x) || ren || J5 (xi x 0) && rmo && !(xi x 2 == rla0 && (xi x 3 == rla1 && xi x 4 == rla2)) then C else bif !rop && (!J5 (xi x 0) || xi x 16 == 0) then C else bif !rop then bif !ZO (xi x 8) (xi x 17) (J2 x) then C else [] else bif J5 (xi x 0) && xi x 16 == 0 then bif !ZO (xi l 8) (xi l 17) (J2 x) || !has then C else JFV (J2 l) (J2 y) st0 st1 rtr C else bif xi x 0 == 1 || xi x 0 == 11 || xi x 0 == 14 || J5 (xi x 0) && (xi x 8 != xi l 8 || xi x 16 != xi l 16 || xi x 17 != xi l 17) then C else bif !J5 (xi x 0) || !ZL (xi l 8) (J2 x) then bif Int.ofNat C.length == 8 then C else [] ++ C ++ [JI2 x] else bif !has then JFe (J2 x) (J2 l) C else JJ0 (J2 x) (J2 l) (J2 y) st0 st1 rtr C
def JhH:Prop:= (!rop && (!J5 (xi x 0) || xi x 16 == 0)) = false
def JgO:Prop:= (J5 (xi x 0) && xi x 16 == 0) = false
def Jgp:Prop:= (xi x 0 == 1 || xi x 0 == 11 || xi x 0 == 14 || J5 (xi x 0) && (xi x 8 != xi l 8 || xi x 16 != xi l 16 || xi x 17 != xi l 17)) = false
def Jgw:Prop:= (!J5 (xi x 0) || !ZL (xi l 8) (J2 x)) = false
def JDr:List Prop:= [rcl = false → (!Qt (J2 x) || ren || J5 (xi x 0) && rmo && !(xi x 2 == rla0 && (xi x 3 == rla1 && xi x 4 == rla2))) = false → (JhH x rop → (!rop) = false → ((J5 (xi x 0) && xi x 16 == 0) = true → (!ZO (xi l 8) (xi l 17) (J2 x) || !has) = false → C.length ≤ 1000) ∧ (JgO x → Jgp x l → ((!J5 (xi x 0) || !ZL (xi l 8) (J2 x)) = true → (Int.ofNat C.length == 8) = false → (0 + C.length) * 176 ≤ 140737488355328 ∧ 0 + C.length ≤ 9223372036854775807 ∧ (([] ++ C).length + 1) * 176 ≤ 140737488355328 ∧ ([] ++ C).length + 1 ≤ 9223372036854775807) ∧ (Jgw x l → (!has) = true → C.length ≤ 1000))) ∧ (JhH x rop → (!rop) = false → JgO x → Jgp x l → Jgw x l → (!has) = false → C.length ≤ 1000)]
end
theorem JeI (x:List GC) (rcl rop rmo ren:Bool) (rla0 rla1 rla2:Int) (l:List GC) (has:Bool) (y:List GC) (st0 st1:Int) (rtr:Bool) (C:LL) (h:C.length ≤ 8):(WJ x rcl rop rmo ren rla0 rla1 rla2 l has y st0 st1 rtr C).length ≤ 8 := by
  unfold WJ
  exact WU h (WU h (WU h (WU (WU h (Nat.zero_le _)) (WU (WU h (Nat.le_trans (Jas _ _ _ _ _ _) h))
    (WU h (WU (JxW h) (WU (Nat.le_trans (Jay _ _ _) h) (Nat.le_trans (JdY _ _ _ _ _ _ _) h))))))))
theorem Jkv {x:List GC} {rcl:Bool} {rop:Bool} {rmo:Bool} {ren:Bool} {rla0:Int} {rla1:Int} {rla2:Int} {l:List GC} {has:Bool} {C:LL} (hW:∀ q ∈ ([C.length ≤ 8]:List Prop),q):∀ q ∈ (JDr x rcl rop rmo ren rla0 rla1 rla2 l has C),q := by
  simp only [awc,awn,and_true] at hW
  unfold JDr
  simp only [awc,awn,and_true]
  exact fun _ _ => ⟨fun _ _ => ⟨fun _ _ => by omega,fun _ _ => ⟨fun _ _ => ⟨by omega,by omega,by simp; omega,by simp; omega⟩,fun _ _ => by omega⟩⟩,fun _ _ _ _ _ _ => by omega⟩
def Ji6 (x:List GC) (rcl rop:Bool) (rer:Int) (rmo ren:Bool) (rla0 rla1 rla2:Int) (l:List GC) (has:Bool) (y:List GC) (st0 st1:Int) (rtr:Bool) (pn0 pn1:Int) (C:LL):Jo :=
 [(79295,Obj.row false 40 22 (RowC.lst 79294 jH (YV x rcl rop rmo ren rla0 rla1 rla2 l has y st0 st1 rtr C))),(0,Obj.blk 74 [(2,Cb rcl),(79297,Cb (JDo x rcl rop rmo ren rla0 rla1 rla2 l has y st0 st1 rtr)),(4,Ci rer),(79298,Cb (JE5 x rcl rmo ren rla0 rla1 rla2)),(79299,Cb (JDq x rcl rmo ren rla0 rla1 rla2)),(79300,Ci (JED x rcl rmo ren rla0 rla1 rla2)),(79301,Ci (JDu x rcl rmo ren rla0 rla1 rla2)),(79302,Ci (JEO x rcl rmo ren rla0 rla1 rla2)),(79303,Ci (JDQ x rcl rop rmo ren rla0 rla1 rla2 l)),(79304,Ci (JDb x rcl rop rmo ren rla0 rla1 rla2 l)),(79305,Ci (z9 x rcl rop rmo ren rla0 rla1 rla2 l)),(79306,Ci (zf x rcl rop rmo ren rla0 rla1 rla2 l)),(79307,Ci (JA2 x rcl rop rmo ren rla0 rla1 rla2 l)),(79308,Ci (qk x rcl rop rmo ren rla0 rla1 rla2 l)),(79309,Ci (qm x rcl rop rmo ren rla0 rla1 rla2 l)),(79310,Ci (qL x rcl rop rmo ren rla0 rla1 rla2 l)),(79311,Ci (kq x rcl rop rmo ren rla0 rla1 rla2 l)),(79312,Ci (zL x rcl rop rmo ren rla0 rla1 rla2 l)),(79313,Ci (kY x rcl rop rmo ren rla0 rla1 rla2 l)),(79314,Ci (kJ x rcl rop rmo ren rla0 rla1 rla2 l)),(79315,Ci (ke x rcl rop rmo ren rla0 rla1 rla2 l)),(79316,Cb (zj x rcl rop rmo ren rla0 rla1 rla2 l)),(79317,Ci (qr x rcl rop rmo ren rla0 rla1 rla2 l)),(79318,Cb (z5 x rcl rop rmo ren rla0 rla1 rla2 l)),(79319,Ci (zq x rcl rop rmo ren rla0 rla1 rla2 l)),(79320,Ci (qT x rcl rop rmo ren rla0 rla1 rla2 l)),(79321,Ci (zQ x rcl rop rmo ren rla0 rla1 rla2 l)),(79322,Ci (kr x rcl rop rmo ren rla0 rla1 rla2 l)),(79323,Ci (zm x rcl rop rmo ren rla0 rla1 rla2 l)),(79324,Cb (kW x rcl rop rmo ren rla0 rla1 rla2 l)),(79293,SC.wh 79291),(79325,Cb (JA3 x rcl rop rmo ren rla0 rla1 rla2 l has y st0 st1 rtr)),(79326,Ci (qh x rcl rop rmo ren rla0 rla1 rla2 l has y st0 st1 rtr)),(79327,Ci (kO x rcl rop rmo ren rla0 rla1 rla2 l has y st0 st1 rtr)),(79328,Ci (qX x rcl rop rmo ren rla0 rla1 rla2 l has y st0 st1 rtr)),(79329,Ci (kf x rcl rop rmo ren rla0 rla1 rla2 l has y st0 st1 rtr)),(79330,Ci (zy x rcl rop rmo ren rla0 rla1 rla2 l has y st0 st1 rtr)),(79331,Ci (kH x rcl rop rmo ren rla0 rla1 rla2 l has y st0 st1 rtr)),(79332,Ci (kK x rcl rop rmo ren rla0 rla1 rla2 l has y st0 st1 rtr)),(79333,Ci (qV x rcl rop rmo ren rla0 rla1 rla2 l has y st0 st1 rtr)),(79334,Ci (kF x rcl rop rmo ren rla0 rla1 rla2 l has y st0 st1 rtr)),(79335,Ci (kx x rcl rop rmo ren rla0 rla1 rla2 l has y st0 st1 rtr)),(79336,Ci (kQ x rcl rop rmo ren rla0 rla1 rla2 l has y st0 st1 rtr)),(79337,Ci (kc x rcl rop rmo ren rla0 rla1 rla2 l has y st0 st1 rtr)),(79338,Ci (zN x rcl rop rmo ren rla0 rla1 rla2 l has y st0 st1 rtr)),(79339,Cb (qv x rcl rop rmo ren rla0 rla1 rla2 l has y st0 st1 rtr)),(79340,Ci (zH x rcl rop rmo ren rla0 rla1 rla2 l has y st0 st1 rtr)),(79341,Cb (qp x rcl rop rmo ren rla0 rla1 rla2 l has y st0 st1 rtr)),(79342,Ci (qS x rcl rop rmo ren rla0 rla1 rla2 l has y st0 st1 rtr)),(79343,Ci (kI x rcl rop rmo ren rla0 rla1 rla2 l has y st0 st1 rtr)),(79344,Ci (kM x rcl rop rmo ren rla0 rla1 rla2 l has y st0 st1 rtr)),(79345,Ci (JA0 x rcl rop rmo ren rla0 rla1 rla2 l has y st0 st1 rtr)),(79346,Ci (kp x rcl rop rmo ren rla0 rla1 rla2 l has y st0 st1 rtr)),(79347,Cb (qf x rcl rop rmo ren rla0 rla1 rla2 l has y st0 st1 rtr)),(79348,Ci (ze x rcl rop rmo ren rla0 rla1 rla2 l has y st0 st1 rtr)),(79349,Ci (qW x rcl rop rmo ren rla0 rla1 rla2 l has y st0 st1 rtr)),(79350,Cb (qO x rcl rop rmo ren rla0 rla1 rla2 l has y st0 st1 rtr)),(79351,Ci (zp x rcl rop rmo ren rla0 rla1 rla2 l has y st0 st1 rtr pn0)),(79352,Ci (qy x rcl rop rmo ren rla0 rla1 rla2 l has y st0 st1 rtr pn1))]),(79291,Obj.row true 40 22 (RowC.lst 79296 jH (WJ x rcl rop rmo ren rla0 rla1 rla2 l has y st0 st1 rtr C))),(1,Obj.row true 40 22
 (RowC.lst 61 jH C))]
theorem Jia (x:List GC) (rcl rop:Bool) (rer:Int) (rmo ren:Bool) (rla0 rla1 rla2:Int) (l:List GC) (has:Bool) (y:List GC) (st0 st1:Int) (rtr:Bool) (pn0 pn1:Int) (C:LL) (hNeeds:∀ pN ∈ (JDr x rcl rop rmo ren rla0 rla1 rla2 l has C),pN):Runs (JGx (JB Jdx) WV 45) (JF8.args (Jc JNS [.v x,.b rcl,.b rop,.i rer,.b rmo,.b ren,.i rla0,.i rla1,.i rla2,.v l,.b has,.v y,.i st0,.i st1,.b rtr,.i pn0,.i pn1])) (JF8.memo (Jc JNS [.v x,.b rcl,.b rop,.i rer,.b rmo,.b ren,.i rla0,.i rla1,.i rla2,.v l,.b has,.v y,.i st0,.i st1,.b rtr,.i pn0,.i pn1]) [C]) JF8.n (SV.tup [(false,[SC.wh 79295]),(false,[Ci (Q9 x rcl rop rmo ren rla0 rla1 rla2 l has y st0 st1 rtr C)])]) (Ji6 x rcl rop rer rmo ren rla0 rla1 rla2 l has y st0 st1 rtr pn0 pn1 C) :=
  Runs.of1 (ps := (JDr x rcl rop rmo ren rla0 rla1 rla2 l has C)) (by kernel_rfl) hNeeds
def JSX:List Gm → Qr → Option CRes
  | [.v x,.b rcl,.b rop,.i rer,.b rmo,.b ren,.i rla0,.i rla1,.i rla2,.v l,.b has,.v y,.i st0,.i st1,.b rtr,.i pn0,.i pn1],[C] => some ⟨SV.tup [(false,[SC.wh 79295]),(false,[Ci (Q9 x rcl rop rmo ren rla0 rla1 rla2 l has y st0 st1 rtr C)])],Ji6 x rcl rop rer rmo ren rla0 rla1 rla2 l has y st0 st1 rtr pn0 pn1 C,[C.length ≤ 8],[],79353⟩
  | _,_ => none
theorem JrI:Qk Tryz.prog 45 (Z9 JNS JF8 JSX) := by
  refine Qd (KM JT8 45) fun ps ls r hr hn _ => ?_
  unfold JSX at hr
  split at hr
  · cases hr; exact ⟨_,Jia _ _ _ _ _ _ _ _ _ _ _ _ _ _ _ _ _ _ (Jkv (by exact hn)),fun _ => rfl⟩
  · cases hr
def Jf2:List (Nat × JW) := (45,Z9 JNS JF8 JSX) :: Jdx
theorem JU4:Known Tryz.prog (JB Jf2) WV := J7 JT8 JrI
def JIH:Tpl := ⟨[],[],0⟩
def JnB:Jo := [(2,Obj.blk 74 [(3,SC.bool (SB.c false)),(4,SC.bool (SB.c false)),(5,SC.int IntKind.i64 (SI.c 0)),(6,SC.bool (SB.c false)),(7,SC.bool (SB.c false)),(8,SC.int IntKind.i64 (SI.c 0)),(9,SC.int IntKind.i64 (SI.c 0)),(10,SC.int IntKind.i64 (SI.c 0)),(11,SC.int IntKind.i64 (SI.c 0)),(12,SC.int IntKind.i64 (SI.c 0)),(13,SC.int IntKind.i64 (SI.c 0)),(14,SC.int IntKind.i64 (SI.c 0)),(15,SC.int IntKind.i64 (SI.c 0)),(16,SC.int IntKind.i64 (SI.c 0)),(17,SC.int IntKind.i64 (SI.c 0)),(18,SC.int IntKind.i64 (SI.c 0)),(19,SC.int IntKind.i64 (SI.c 0)),(20,SC.int IntKind.i64 (SI.c 0)),(21,SC.int IntKind.i64 (SI.c 0)),(22,SC.int IntKind.i64 (SI.c 0)),(23,SC.int IntKind.i64 (SI.c 0)),(24,SC.bool (SB.c false)),(25,SC.int IntKind.i64 (SI.c 0)),(26,SC.bool (SB.c false)),(27,SC.int IntKind.i64 (SI.c 0)),(28,SC.int IntKind.i64 (SI.c 0)),(29,SC.int IntKind.i64 (SI.c 0)),(30,SC.int IntKind.i64 (SI.c 0)),(31,SC.int IntKind.i64 (SI.c 0)),(32,SC.bool (SB.c false)),(66,SC.wh 64),(34,SC.bool (SB.c false)),(35,SC.int IntKind.i64 (SI.c 0)),(36,SC.int IntKind.i64 (SI.c 0)),(37,SC.int IntKind.i64 (SI.c 0)),(38,SC.int IntKind.i64 (SI.c 0)),(39,SC.int IntKind.i64 (SI.c 0)),(40,SC.int IntKind.i64 (SI.c 0)),(41,SC.int IntKind.i64 (SI.c 0)),(42,SC.int IntKind.i64 (SI.c 0)),(43,SC.int IntKind.i64 (SI.c 0)),(44,SC.int IntKind.i64 (SI.c 0)),(45,SC.int IntKind.i64 (SI.c 0)),(46,SC.int IntKind.i64 (SI.c 0)),(47,SC.int IntKind.i64 (SI.c 0)),(48,SC.bool (SB.c false)),(49,SC.int IntKind.i64 (SI.c 0)),(50,SC.bool (SB.c false)),(51,SC.int IntKind.i64 (SI.c 0)),(52,SC.int IntKind.i64 (SI.c 0)),(53,SC.int IntKind.i64 (SI.c 0)),(54,SC.int IntKind.i64 (SI.c 0)),(55,SC.int IntKind.i64 (SI.c 0)),(56,SC.bool (SB.c false)),(57,SC.int IntKind.i64 (SI.c 0)),(58,SC.int IntKind.i64 (SI.c 0)),(59,SC.bool (SB.c false)),(60,SC.int IntKind.i64 (SI.c 0)),(61,SC.int IntKind.i64 (SI.c 0))]),(64,Obj.row true 40 22 (RowC.lit 65 []))]
theorem Jo2:Runs (JGx (JB Jf2) WV 31) (JIH.args []) (JIH.memo [] []) JIH.n (SV.one (SC.ptr 2 0)) (JnB) :=
  Runs.of1 (ps := []) (by kernel_rfl) (by simp)
def JZd:List Pm → Qr → Option CRes
  | [],[] => some ⟨SV.one (SC.ptr 2 0),JnB,[],[],67⟩
  | _,_ => none
theorem JuV:Qk Tryz.prog 31 (JS JIH JZd) := by
  refine JH (KM JU4 31) fun ps ls r hr hn _ => ?_
  unfold JZd at hr
  split at hr
  · cases hr; exact ⟨_,Jo2,fun _ => rfl⟩
  · cases hr
def Jlp:List (Nat × JW) := (31,JS JIH JZd) :: Jf2
theorem JZQ:Known Tryz.prog (JB Jlp) WV := J7 JU4 JuV
def JFr:Tpl := ⟨[.one (.ptr 0 0),.agg pI],YF,62⟩
def JNo:List GK := [.v Jy,.b,.b,.i,.b,.b,.i,.i,.i,.v Jy,.b,.v Jy,.i,.i,.b,.i,.i]
section
variable (x:List GC) (rcl rop:Bool) (rer:Int) (rmo ren:Bool) (rla0 rla1 rla2:Int) (l:List GC) (has:Bool) (y:List GC) (st0 st1:Int) (rtr:Bool) (pn1 pn0:Int) (C:LL) (q0:Nat) (q1:Int)
def Z3:Int:= Q9 (J2 x) rcl rop rmo ren rla0 rla1 rla2 (J2 l) has (J2 y) st0 st1 rtr C
def Z0:Int:= bif rer != 0 then rer else bif Z3 x rcl rop rmo ren rla0 rla1 rla2 l has y st0 st1 rtr C != 0 then Z3 x rcl rop rmo ren rla0 rla1 rla2 l has y st0 st1 rtr C else 0
def KJ:LL:= bif rer != 0 then [] else bif Q9 (J2 x) rcl rop rmo ren rla0 rla1 rla2 (J2 l) has (J2 y) st0 st1 rtr C != 0 then [] else YV (J2 x) rcl rop rmo ren rla0 rla1 rla2 (J2 l) has (J2 y) st0 st1 rtr C
def JB3:Bool:= bif rer != 0 then rcl else bif Q9 (J2 x) rcl rop rmo ren rla0 rla1 rla2 (J2 l) has (J2 y) st0 st1 rtr C != 0 then rcl else rcl
def qG:Bool:= bif rer != 0 then rop else bif Q9 (J2 x) rcl rop rmo ren rla0 rla1 rla2 (J2 l) has (J2 y) st0 st1 rtr C != 0 then rop else JDo (J2 x) rcl rop rmo ren rla0 rla1 rla2 (J2 l) has (J2 y) st0 st1 rtr
def Wr:Int:= bif rer != 0 then rer else bif Z3 x rcl rop rmo ren rla0 rla1 rla2 l has y st0 st1 rtr C != 0 then Z3 x rcl rop rmo ren rla0 rla1 rla2 l has y st0 st1 rtr C else rer
def JDi:Bool:= bif rer != 0 then rmo else bif Q9 (J2 x) rcl rop rmo ren rla0 rla1 rla2 (J2 l) has (J2 y) st0 st1 rtr C != 0 then rmo else JE5 (J2 x) rcl rmo ren rla0 rla1 rla2
def JDT:Bool:= bif rer != 0 then ren else bif Q9 (J2 x) rcl rop rmo ren rla0 rla1 rla2 (J2 l) has (J2 y) st0 st1 rtr C != 0 then ren else JDq (J2 x) rcl rmo ren rla0 rla1 rla2
def JDs:Int:= bif rer != 0 then rla0 else bif Q9 (J2 x) rcl rop rmo ren rla0 rla1 rla2 (J2 l) has (J2 y) st0 st1 rtr C != 0 then rla0 else JED (J2 x) rcl rmo ren rla0 rla1 rla2
def JDf:Int:= bif rer != 0 then rla1 else bif Q9 (J2 x) rcl rop rmo ren rla0 rla1 rla2 (J2 l) has (J2 y) st0 st1 rtr C != 0 then rla1 else JDu (J2 x) rcl rmo ren rla0 rla1 rla2
def JE1:Int:= bif rer != 0 then rla2 else bif Q9 (J2 x) rcl rop rmo ren rla0 rla1 rla2 (J2 l) has (J2 y) st0 st1 rtr C != 0 then rla2 else JEO (J2 x) rcl rmo ren rla0 rla1 rla2
def QG:Int:= bif rer != 0 then xi l q0 else bif Q9 (J2 x) rcl rop rmo ren rla0 rla1 rla2 (J2 l) has (J2 y) st0 st1 rtr C != 0 then xi l q0 else q1
def qQ:Int:= QG x rcl rop rer rmo ren rla0 rla1 rla2 l has y st0 st1 rtr C 0 (JDQ (J2 x) rcl rop rmo ren rla0 rla1 rla2 (J2 l))
def km:Int:= QG x rcl rop rer rmo ren rla0 rla1 rla2 l has y st0 st1 rtr C 1 (JDb (J2 x) rcl rop rmo ren rla0 rla1 rla2 (J2 l))
def kT:Int:= QG x rcl rop rer rmo ren rla0 rla1 rla2 l has y st0 st1 rtr C 2 (z9 (J2 x) rcl rop rmo ren rla0 rla1 rla2 (J2 l))
def qg:Int:= QG x rcl rop rer rmo ren rla0 rla1 rla2 l has y st0 st1 rtr C 3 (zf (J2 x) rcl rop rmo ren rla0 rla1 rla2 (J2 l))
def qq:Int:= QG x rcl rop rer rmo ren rla0 rla1 rla2 l has y st0 st1 rtr C 4 (JA2 (J2 x) rcl rop rmo ren rla0 rla1 rla2 (J2 l))
def kP:Int:= QG x rcl rop rer rmo ren rla0 rla1 rla2 l has y st0 st1 rtr C 5 (qk (J2 x) rcl rop rmo ren rla0 rla1 rla2 (J2 l))
def kb:Int:= QG x rcl rop rer rmo ren rla0 rla1 rla2 l has y st0 st1 rtr C 6 (qm (J2 x) rcl rop rmo ren rla0 rla1 rla2 (J2 l))
def zZ:Int:= QG x rcl rop rer rmo ren rla0 rla1 rla2 l has y st0 st1 rtr C 7 (qL (J2 x) rcl rop rmo ren rla0 rla1 rla2 (J2 l))
def JA6:Int:= QG x rcl rop rer rmo ren rla0 rla1 rla2 l has y st0 st1 rtr C 8 (kq (J2 x) rcl rop rmo ren rla0 rla1 rla2 (J2 l))
def kR:Int:= QG x rcl rop rer rmo ren rla0 rla1 rla2 l has y st0 st1 rtr C 9 (zL (J2 x) rcl rop rmo ren rla0 rla1 rla2 (J2 l))
def ky:Int:= QG x rcl rop rer rmo ren rla0 rla1 rla2 l has y st0 st1 rtr C 10 (kY (J2 x) rcl rop rmo ren rla0 rla1 rla2 (J2 l))
def qd:Int:= QG x rcl rop rer rmo ren rla0 rla1 rla2 l has y st0 st1 rtr C 11 (kJ (J2 x) rcl rop rmo ren rla0 rla1 rla2 (J2 l))
def zn:Int:= QG x rcl rop rer rmo ren rla0 rla1 rla2 l has y st0 st1 rtr C 12 (ke (J2 x) rcl rop rmo ren rla0 rla1 rla2 (J2 l))
def qR:Bool:= bif rer != 0 then xb l 13 else bif Q9 (J2 x) rcl rop rmo ren rla0 rla1 rla2 (J2 l) has (J2 y) st0 st1 rtr C != 0 then xb l 13 else zj (J2 x) rcl rop rmo ren rla0 rla1 rla2 (J2 l)
def kS:Int:= QG x rcl rop rer rmo ren rla0 rla1 rla2 l has y st0 st1 rtr C 14 (qr (J2 x) rcl rop rmo ren rla0 rla1 rla2 (J2 l))
def qZ:Bool:= bif rer != 0 then xb l 15 else bif Q9 (J2 x) rcl rop rmo ren rla0 rla1 rla2 (J2 l) has (J2 y) st0 st1 rtr C != 0 then xb l 15 else z5 (J2 x) rcl rop rmo ren rla0 rla1 rla2 (J2 l)
def ka:Int:= QG x rcl rop rer rmo ren rla0 rla1 rla2 l has y st0 st1 rtr C 16 (zq (J2 x) rcl rop rmo ren rla0 rla1 rla2 (J2 l))
def qx:Int:= QG x rcl rop rer rmo ren rla0 rla1 rla2 l has y st0 st1 rtr C 17 (qT (J2 x) rcl rop rmo ren rla0 rla1 rla2 (J2 l))
def kn:Int:= QG x rcl rop rer rmo ren rla0 rla1 rla2 l has y st0 st1 rtr C 18 (zQ (J2 x) rcl rop rmo ren rla0 rla1 rla2 (J2 l))
def kL:Int:= QG x rcl rop rer rmo ren rla0 rla1 rla2 l has y st0 st1 rtr C 19 (kr (J2 x) rcl rop rmo ren rla0 rla1 rla2 (J2 l))
def kV:Int:= QG x rcl rop rer rmo ren rla0 rla1 rla2 l has y st0 st1 rtr C 20 (zm (J2 x) rcl rop rmo ren rla0 rla1 rla2 (J2 l))
def JA5:Bool:= bif rer != 0 then xb l 21 else bif Q9 (J2 x) rcl rop rmo ren rla0 rla1 rla2 (J2 l) has (J2 y) st0 st1 rtr C != 0 then xb l 21 else kW (J2 x) rcl rop rmo ren rla0 rla1 rla2 (J2 l)
def zX:Bool:= bif rer != 0 then has else bif Q9 (J2 x) rcl rop rmo ren rla0 rla1 rla2 (J2 l) has (J2 y) st0 st1 rtr C != 0 then has else JA3 (J2 x) rcl rop rmo ren rla0 rla1 rla2 (J2 l) has (J2 y) st0 st1 rtr
def QE:Int:= bif rer != 0 then xi y q0 else bif Q9 (J2 x) rcl rop rmo ren rla0 rla1 rla2 (J2 l) has (J2 y) st0 st1 rtr C != 0 then xi y q0 else q1
def qY:Int:= QE x rcl rop rer rmo ren rla0 rla1 rla2 l has y st0 st1 rtr C 0 (qh (J2 x) rcl rop rmo ren rla0 rla1 rla2 (J2 l) has (J2 y) st0 st1 rtr)
def zM:Int:= QE x rcl rop rer rmo ren rla0 rla1 rla2 l has y st0 st1 rtr C 1 (kO (J2 x) rcl rop rmo ren rla0 rla1 rla2 (J2 l) has (J2 y) st0 st1 rtr)
def zD:Int:= QE x rcl rop rer rmo ren rla0 rla1 rla2 l has y st0 st1 rtr C 2 (qX (J2 x) rcl rop rmo ren rla0 rla1 rla2 (J2 l) has (J2 y) st0 st1 rtr)
def zB:Int:= QE x rcl rop rer rmo ren rla0 rla1 rla2 l has y st0 st1 rtr C 3 (kf (J2 x) rcl rop rmo ren rla0 rla1 rla2 (J2 l) has (J2 y) st0 st1 rtr)
def JA7:Int:= QE x rcl rop rer rmo ren rla0 rla1 rla2 l has y st0 st1 rtr C 4 (zy (J2 x) rcl rop rmo ren rla0 rla1 rla2 (J2 l) has (J2 y) st0 st1 rtr)
def qi:Int:= QE x rcl rop rer rmo ren rla0 rla1 rla2 l has y st0 st1 rtr C 5 (kH (J2 x) rcl rop rmo ren rla0 rla1 rla2 (J2 l) has (J2 y) st0 st1 rtr)
def kX:Int:= QE x rcl rop rer rmo ren rla0 rla1 rla2 l has y st0 st1 rtr C 6 (kK (J2 x) rcl rop rmo ren rla0 rla1 rla2 (J2 l) has (J2 y) st0 st1 rtr)
def qt:Int:= QE x rcl rop rer rmo ren rla0 rla1 rla2 l has y st0 st1 rtr C 7 (qV (J2 x) rcl rop rmo ren rla0 rla1 rla2 (J2 l) has (J2 y) st0 st1 rtr)
def ki:Int:= QE x rcl rop rer rmo ren rla0 rla1 rla2 l has y st0 st1 rtr C 8 (kF (J2 x) rcl rop rmo ren rla0 rla1 rla2 (J2 l) has (J2 y) st0 st1 rtr)
def qM:Int:= QE x rcl rop rer rmo ren rla0 rla1 rla2 l has y st0 st1 rtr C 9 (kx (J2 x) rcl rop rmo ren rla0 rla1 rla2 (J2 l) has (J2 y) st0 st1 rtr)
def zG:Int:= QE x rcl rop rer rmo ren rla0 rla1 rla2 l has y st0 st1 rtr C 10 (kQ (J2 x) rcl rop rmo ren rla0 rla1 rla2 (J2 l) has (J2 y) st0 st1 rtr)
def qz:Int:= QE x rcl rop rer rmo ren rla0 rla1 rla2 l has y st0 st1 rtr C 11 (kc (J2 x) rcl rop rmo ren rla0 rla1 rla2 (J2 l) has (J2 y) st0 st1 rtr)
def qe:Int:= QE x rcl rop rer rmo ren rla0 rla1 rla2 l has y st0 st1 rtr C 12 (zN (J2 x) rcl rop rmo ren rla0 rla1 rla2 (J2 l) has (J2 y) st0 st1 rtr)
def zw:Bool:= bif rer != 0 then xb y 13 else bif Q9 (J2 x) rcl rop rmo ren rla0 rla1 rla2 (J2 l) has (J2 y) st0 st1 rtr C != 0 then xb y 13 else qv (J2 x) rcl rop rmo ren rla0 rla1 rla2 (J2 l) has (J2 y) st0 st1 rtr
def qP:Int:= QE x rcl rop rer rmo ren rla0 rla1 rla2 l has y st0 st1 rtr C 14 (zH (J2 x) rcl rop rmo ren rla0 rla1 rla2 (J2 l) has (J2 y) st0 st1 rtr)
def zP:Bool:= bif rer != 0 then xb y 15 else bif Q9 (J2 x) rcl rop rmo ren rla0 rla1 rla2 (J2 l) has (J2 y) st0 st1 rtr C != 0 then xb y 15 else qp (J2 x) rcl rop rmo ren rla0 rla1 rla2 (J2 l) has (J2 y) st0 st1 rtr
def zu:Int:= QE x rcl rop rer rmo ren rla0 rla1 rla2 l has y st0 st1 rtr C 16 (qS (J2 x) rcl rop rmo ren rla0 rla1 rla2 (J2 l) has (J2 y) st0 st1 rtr)
def zE:Int:= QE x rcl rop rer rmo ren rla0 rla1 rla2 l has y st0 st1 rtr C 17 (kI (J2 x) rcl rop rmo ren rla0 rla1 rla2 (J2 l) has (J2 y) st0 st1 rtr)
def zi:Int:= QE x rcl rop rer rmo ren rla0 rla1 rla2 l has y st0 st1 rtr C 18 (kM (J2 x) rcl rop rmo ren rla0 rla1 rla2 (J2 l) has (J2 y) st0 st1 rtr)
def zh:Int:= QE x rcl rop rer rmo ren rla0 rla1 rla2 l has y st0 st1 rtr C 19 (JA0 (J2 x) rcl rop rmo ren rla0 rla1 rla2 (J2 l) has (J2 y) st0 st1 rtr)
def zO:Int:= QE x rcl rop rer rmo ren rla0 rla1 rla2 l has y st0 st1 rtr C 20 (kp (J2 x) rcl rop rmo ren rla0 rla1 rla2 (J2 l) has (J2 y) st0 st1 rtr)
def kg:Bool:= bif rer != 0 then xb y 21 else bif Q9 (J2 x) rcl rop rmo ren rla0 rla1 rla2 (J2 l) has (J2 y) st0 st1 rtr C != 0 then xb y 21 else qf (J2 x) rcl rop rmo ren rla0 rla1 rla2 (J2 l) has (J2 y) st0 st1 rtr
def zI:Int:= bif rer != 0 then st0 else bif Q9 (J2 x) rcl rop rmo ren rla0 rla1 rla2 (J2 l) has (J2 y) st0 st1 rtr C != 0 then st0 else ze (J2 x) rcl rop rmo ren rla0 rla1 rla2 (J2 l) has (J2 y) st0 st1 rtr
def zW:Int:= bif rer != 0 then st1 else bif Q9 (J2 x) rcl rop rmo ren rla0 rla1 rla2 (J2 l) has (J2 y) st0 st1 rtr C != 0 then st1 else qW (J2 x) rcl rop rmo ren rla0 rla1 rla2 (J2 l) has (J2 y) st0 st1 rtr
def zY:Bool:= bif rer != 0 then rtr else bif Q9 (J2 x) rcl rop rmo ren rla0 rla1 rla2 (J2 l) has (J2 y) st0 st1 rtr C != 0 then rtr else qO (J2 x) rcl rop rmo ren rla0 rla1 rla2 (J2 l) has (J2 y) st0 st1 rtr
def qN:Int:= bif rer != 0 then pn0 else bif Q9 (J2 x) rcl rop rmo ren rla0 rla1 rla2 (J2 l) has (J2 y) st0 st1 rtr C != 0 then pn0 else zp (J2 x) rcl rop rmo ren rla0 rla1 rla2 (J2 l) has (J2 y) st0 st1 rtr pn0
def kA:Int:= bif rer != 0 then pn1 else bif Q9 (J2 x) rcl rop rmo ren rla0 rla1 rla2 (J2 l) has (J2 y) st0 st1 rtr C != 0 then pn1 else qy (J2 x) rcl rop rmo ren rla0 rla1 rla2 (J2 l) has (J2 y) st0 st1 rtr pn1
def YB:LL:= bif rer != 0 then C else bif Q9 (J2 x) rcl rop rmo ren rla0 rla1 rla2 (J2 l) has (J2 y) st0 st1 rtr C != 0 then C else WJ (J2 x) rcl rop rmo ren rla0 rla1 rla2 (J2 l) has (J2 y) st0 st1 rtr C
def JJP:List Prop:= [(rer != 0) = false → C.length ≤ 8]
end
def JgD (x:List GC) (rcl rop:Bool) (rer:Int) (rmo ren:Bool) (rla0 rla1 rla2:Int) (l:List GC) (has:Bool) (y:List GC) (st0 st1:Int) (rtr:Bool) (pn0 pn1:Int) (C:LL):Jo :=
 [(79728,Obj.row false 40 22 (RowC.lst 79727 jH (KJ x rcl rop rer rmo ren rla0 rla1 rla2 l has y st0 st1 rtr C))),(0,Obj.blk 74 [(79730,Cb (JB3 x rcl rop rer rmo ren rla0 rla1 rla2 l has y st0 st1 rtr C)),(79731,Cb (qG x rcl rop rer rmo ren rla0 rla1 rla2 l has y st0 st1 rtr C)),(79732,Ci (Wr x rcl rop rer rmo ren rla0 rla1 rla2 l has y st0 st1 rtr C)),(79733,Cb (JDi x rcl rop rer rmo ren rla0 rla1 rla2 l has y st0 st1 rtr C)),(79734,Cb (JDT x rcl rop rer rmo ren rla0 rla1 rla2 l has y st0 st1 rtr C)),(79735,Ci (JDs x rcl rop rer rmo ren rla0 rla1 rla2 l has y st0 st1 rtr C)),(79736,Ci (JDf x rcl rop rer rmo ren rla0 rla1 rla2 l has y st0 st1 rtr C)),(79737,Ci (JE1 x rcl rop rer rmo ren rla0 rla1 rla2 l has y st0 st1 rtr C)),(79738,Ci (qQ x rcl rop rer rmo ren rla0 rla1 rla2 l has y st0 st1 rtr C)),(79739,Ci (km x rcl rop rer rmo ren rla0 rla1 rla2 l has y st0 st1 rtr C)),(79740,Ci (kT x rcl rop rer rmo ren rla0 rla1 rla2 l has y st0 st1 rtr C)),(79741,Ci (qg x rcl rop rer rmo ren rla0 rla1 rla2 l has y st0 st1 rtr C)),(79742,Ci (qq x rcl rop rer rmo ren rla0 rla1 rla2 l has y st0 st1 rtr C)),(79743,Ci (kP x rcl rop rer rmo ren rla0 rla1 rla2 l has y st0 st1 rtr C)),(79744,Ci (kb x rcl rop rer rmo ren rla0 rla1 rla2 l has y st0 st1 rtr C)),(79745,Ci (zZ x rcl rop rer rmo ren rla0 rla1 rla2 l has y st0 st1 rtr C)),(79746,Ci (JA6 x rcl rop rer rmo ren rla0 rla1 rla2 l has y st0 st1 rtr C)),(79747,Ci (kR x rcl rop rer rmo ren rla0 rla1 rla2 l has y st0 st1 rtr C)),(79748,Ci (ky x rcl rop rer rmo ren rla0 rla1 rla2 l has y st0 st1 rtr C)),(79749,Ci (qd x rcl rop rer rmo ren rla0 rla1 rla2 l has y st0 st1 rtr C)),(79750,Ci (zn x rcl rop rer rmo ren rla0 rla1 rla2 l has y st0 st1 rtr C)),(79751,Cb (qR x rcl rop rer rmo ren rla0 rla1 rla2 l has y st0 st1 rtr C)),(79752,Ci (kS x rcl rop rer rmo ren rla0 rla1 rla2 l has y st0 st1 rtr C)),(79753,Cb (qZ x rcl rop rer rmo ren rla0 rla1 rla2 l has y st0 st1 rtr C)),(79754,Ci (ka x rcl rop rer rmo ren rla0 rla1 rla2 l has y st0 st1 rtr C)),(79755,Ci (qx x rcl rop rer rmo ren rla0 rla1 rla2 l has y st0 st1 rtr C)),(79756,Ci (kn x rcl rop rer rmo ren rla0 rla1 rla2 l has y st0 st1 rtr C)),(79757,Ci (kL x rcl rop rer rmo ren rla0 rla1 rla2 l has y st0 st1 rtr C)),(79758,Ci (kV x rcl rop rer rmo ren rla0 rla1 rla2 l has y st0 st1 rtr C)),(79759,Cb (JA5 x rcl rop rer rmo ren rla0 rla1 rla2 l has y st0 st1 rtr C)),(79726,SC.wh 79724),(79760,Cb (zX x rcl rop rer rmo ren rla0 rla1 rla2 l has y st0 st1 rtr C)),(79761,Ci (qY x rcl rop rer rmo ren rla0 rla1 rla2 l has y st0 st1 rtr C)),(79762,Ci (zM x rcl rop rer rmo ren rla0 rla1 rla2 l has y st0 st1 rtr C)),(79763,Ci (zD x rcl rop rer rmo ren rla0 rla1 rla2 l has y st0 st1 rtr C)),(79764,Ci (zB x rcl rop rer rmo ren rla0 rla1 rla2 l has y st0 st1 rtr C)),(79765,Ci (JA7 x rcl rop rer rmo ren rla0 rla1 rla2 l has y st0 st1 rtr C)),(79766,Ci (qi x rcl rop rer rmo ren rla0 rla1 rla2 l has y st0 st1 rtr C)),(79767,Ci (kX x rcl rop rer rmo ren rla0 rla1 rla2 l has y st0 st1 rtr C)),(79768,Ci (qt x rcl rop rer rmo ren rla0 rla1 rla2 l has y st0 st1 rtr C)),(79769,Ci (ki x rcl rop rer rmo ren rla0 rla1 rla2 l has y st0 st1 rtr C)),(79770,Ci (qM x rcl rop rer rmo ren rla0 rla1 rla2 l has y st0 st1 rtr C)),(79771,Ci (zG x rcl rop rer rmo ren rla0 rla1 rla2 l has y st0 st1 rtr C)),(79772,Ci (qz x rcl rop rer rmo ren rla0 rla1 rla2 l has y st0 st1 rtr C)),(79773,Ci (qe x rcl rop rer rmo ren rla0 rla1 rla2 l has y st0 st1 rtr C)),(79774,Cb (zw x rcl rop rer rmo ren rla0 rla1 rla2 l has y st0 st1 rtr C)),(79775,Ci (qP x rcl rop rer rmo ren rla0 rla1 rla2 l has y st0 st1 rtr C)),(79776,Cb (zP x rcl rop rer rmo ren rla0 rla1 rla2 l has y st0 st1 rtr C)),(79777,Ci (zu x rcl rop rer rmo ren rla0
 rla1 rla2 l has y st0 st1 rtr C)),(79778,Ci (zE x rcl rop rer rmo ren rla0 rla1 rla2 l has y st0 st1 rtr C)),(79779,Ci (zi x rcl rop rer rmo ren rla0 rla1 rla2 l has y st0 st1 rtr C)),(79780,Ci (zh x rcl rop rer rmo ren rla0 rla1 rla2 l has y st0 st1 rtr C)),(79781,Ci (zO x rcl rop rer rmo ren rla0 rla1 rla2 l has y st0 st1 rtr C)),(79782,Cb (kg x rcl rop rer rmo ren rla0 rla1 rla2 l has y st0 st1 rtr C)),(79783,Ci (zI x rcl rop rer rmo ren rla0 rla1 rla2 l has y st0 st1 rtr C)),(79784,Ci (zW x rcl rop rer rmo ren rla0 rla1 rla2 l has y st0 st1 rtr C)),(79785,Cb (zY x rcl rop rer rmo ren rla0 rla1 rla2 l has y st0 st1 rtr C)),(79786,Ci (qN x rcl rop rer rmo ren rla0 rla1 rla2 l has y st0 st1 rtr pn0 C)),(79787,Ci (kA x rcl rop rer rmo ren rla0 rla1 rla2 l has y st0 st1 rtr pn1 C))]),(79724,Obj.row true 40 22 (RowC.lst 79729 jH (YB x rcl rop rer rmo ren rla0 rla1 rla2 l has y st0 st1 rtr C))),(1,Obj.row true 40 22 (RowC.lst 61 jH C))]
theorem JjH (x:List GC) (rcl rop:Bool) (rer:Int) (rmo ren:Bool) (rla0 rla1 rla2:Int) (l:List GC) (has:Bool) (y:List GC) (st0 st1:Int) (rtr:Bool) (pn0 pn1:Int) (C:LL) (hNeeds:∀ pN ∈ (JJP rer C),pN):Runs (JGx (JB Jlp) WV 32) (JFr.args (Jc JNo [.v x,.b rcl,.b rop,.i rer,.b rmo,.b ren,.i rla0,.i rla1,.i rla2,.v l,.b has,.v y,.i st0,.i st1,.b rtr,.i pn0,.i pn1])) (JFr.memo (Jc JNo [.v x,.b rcl,.b rop,.i rer,.b rmo,.b ren,.i rla0,.i rla1,.i rla2,.v l,.b has,.v y,.i st0,.i st1,.b rtr,.i pn0,.i pn1]) [C]) JFr.n (SV.tup [(false,[SC.wh 79728]),(false,[Ci (Z0 x rcl rop rer rmo ren rla0 rla1 rla2 l has y st0 st1 rtr C)])]) (JgD x rcl rop rer rmo ren rla0 rla1 rla2 l has y st0 st1 rtr pn0 pn1 C) :=
  Runs.of1 (ps := (JJP rer C)) (by kernel_rfl) hNeeds
def JQm:List Gm → Qr → Option CRes
  | [.v x,.b rcl,.b rop,.i rer,.b rmo,.b ren,.i rla0,.i rla1,.i rla2,.v l,.b has,.v y,.i st0,.i st1,.b rtr,.i pn0,.i pn1],[C] => some ⟨SV.tup [(false,[SC.wh 79728]),(false,[Ci (Z0 x rcl rop rer rmo ren rla0 rla1 rla2 l has y st0 st1 rtr C)])],JgD x rcl rop rer rmo ren rla0 rla1 rla2 l has y st0 st1 rtr pn0 pn1 C,
   (JJP rer C),[],79788⟩
  | _,_ => none
theorem Jt2:Qk Tryz.prog 32 (Z9 JNo JFr JQm) := by
  refine Qd (KM JZQ 32) fun ps ls r hr hn _ => ?_
  unfold JQm at hr
  split at hr
  · cases hr; exact ⟨_,JjH _ _ _ _ _ _ _ _ _ _ _ _ _ _ _ _ _ _ hn,fun _ => rfl⟩
  · cases hr
def Jdg:List (Nat × JW) := (32,Z9 JNo JFr JQm) :: Jlp
theorem JU0:Known Tryz.prog (JB Jdg) WV := J7 JZQ Jt2
def JCx:Tpl := ⟨[.one (.ptr 0 0)],YF,62⟩
def JKE:List GK := [.b,.b,.i,.b,.b,.i,.i,.i,.v Jy,.b,.v Jy,.i,.i,.b,.i,.i]
def Kn (rcl rop:Bool) (rer:Int):Int := bif rer == 0 && (rcl || rop) then 13 else rer
def JbS (rcl rop:Bool) (rer:Int) (rmo ren:Bool) (rla0 rla1 rla2:Int) (l:List GC) (has:Bool) (y:List GC) (st0 st1:Int) (rtr:Bool) (pn0 pn1:Int) (C:LL):Jo := [(0,Obj.blk 74 [(90,SC.bool (SB.c true)),(3,Cb rop),(86,Ci (Kn rcl rop rer)),(5,Cb rmo),(6,Cb ren),(7,Ci rla0),(8,Ci rla1),(9,Ci rla2),(10,Ci (xi l 0)),(11,Ci (xi l 1)),(12,Ci (xi l 2)),(13,Ci (xi l 3)),(14,Ci (xi l 4)),(15,Ci (xi l 5)),(16,Ci (xi l 6)),(17,Ci (xi l 7)),(18,Ci (xi l 8)),(19,Ci (xi l 9)),(20,Ci (xi l 10)),(21,Ci (xi l 11)),(22,Ci (xi l 12)),(23,Cb (xb l 13)),(24,Ci (xi l 14)),(25,Cb (xb l 15)),(26,Ci (xi l 16)),(27,Ci (xi l 17)),(28,Ci (xi l 18)),(29,Ci (xi l 19)),(30,Ci (xi l 20)),(31,Cb (xb l 21)),(32,SC.wh 1),(33,Cb has),(34,Ci (xi y 0)),(35,Ci (xi y 1)),(36,Ci (xi y 2)),(37,Ci (xi y 3)),(38,Ci (xi y 4)),(39,Ci (xi y 5)),(40,Ci (xi y 6)),(41,Ci (xi y 7)),(42,Ci (xi y 8)),(43,Ci (xi y 9)),(44,Ci (xi y 10)),(45,Ci (xi y 11)),(46,Ci (xi y 12)),(47,Cb (xb y 13)),(48,Ci (xi y 14)),(49,Cb (xb y 15)),(50,Ci (xi y 16)),(51,Ci (xi y 17)),(52,Ci (xi y 18)),(53,Ci (xi y 19)),(54,Ci (xi y 20)),(55,Cb (xb y 21)),(56,Ci st0),(57,Ci st1),(58,Cb rtr),(59,Ci pn0),(60,Ci pn1)]),(1,Obj.row true 40 22 (RowC.lst 61 jH C))]
theorem Jgh (rcl rop:Bool) (rer:Int) (rmo ren:Bool) (rla0 rla1 rla2:Int) (l:List GC) (has:Bool) (y:List GC) (st0 st1:Int) (rtr:Bool) (pn0 pn1:Int) (C:LL):Runs (JGx (JB Jdg) WV 33) (JCx.args (Jc JKE [.b rcl,.b rop,.i rer,.b rmo,.b ren,.i rla0,.i rla1,.i rla2,.v l,.b has,.v y,.i st0,.i st1,.b rtr,.i pn0,.i pn1])) (JCx.memo (Jc JKE [.b rcl,.b rop,.i rer,.b rmo,.b ren,.i rla0,.i rla1,.i rla2,.v l,.b has,.v y,.i st0,.i st1,.b rtr,.i pn0,.i pn1]) [C]) JCx.n (SV.tup [(false,[SC.nilsl]),(false,[Ci (Kn rcl rop rer)])]) (JbS rcl rop rer rmo ren rla0 rla1 rla2 l has y st0 st1 rtr pn0 pn1 C) :=
  Runs.of1 (ps := []) (by kernel_rfl) (by simp)
def JMp:List Gm → Qr → Option CRes
  | [.b rcl,.b rop,.i rer,.b rmo,.b ren,.i rla0,.i rla1,.i rla2,.v l,.b has,.v y,.i st0,.i st1,.b rtr,.i pn0,.i pn1],[C] => some ⟨SV.tup [(false,[SC.nilsl]),(false,[Ci (Kn rcl rop rer)])],JbS rcl rop rer rmo ren rla0 rla1 rla2 l has y st0 st1 rtr pn0 pn1 C,[],[],98⟩
  | _,_ => none
theorem JoL:Qk Tryz.prog 33 (Z9 JKE JCx JMp) := by
  refine Qd (KM JU0 33) fun ps ls r hr hn _ => ?_
  unfold JMp at hr
  split at hr
  · cases hr; exact ⟨_,Jgh _ _ _ _ _ _ _ _ _ _ _ _ _ _ _ _ _,fun _ => rfl⟩
  · cases hr
def JZj:List (Nat × JW) := (33,Z9 JKE JCx JMp) :: Jdg
theorem JNW:Known Tryz.prog (JB JZj) WV := J7 JU0 JoL
def JF9:Tpl := ⟨[.one (.ptr 0 0)],YF,62⟩
def JOu:List GK := [.b,.b,.i,.b,.b,.i,.i,.i,.v Jy,.b,.v Jy,.i,.i,.b,.i,.i]
def JiD (rcl rop:Bool) (rer:Int) (rmo ren:Bool) (rla0 rla1 rla2:Int) (l:List GC) (has:Bool) (y:List GC) (st0 st1:Int) (rtr:Bool) (pn0 pn1:Int) (C:LL):Jo := [(0,Obj.blk 74 [(2,Cb rcl),(3,Cb rop),(4,Ci rer),(5,Cb rmo),(6,Cb ren),(7,Ci rla0),(8,Ci rla1),(9,Ci rla2),(10,Ci (xi l 0)),(11,Ci (xi l 1)),(12,Ci (xi l 2)),(13,Ci (xi l 3)),(14,Ci (xi l 4)),(15,Ci (xi l 5)),(16,Ci (xi l 6)),(17,Ci (xi l 7)),(18,Ci (xi l 8)),(19,Ci (xi l 9)),(20,Ci (xi l 10)),(21,Ci (xi l 11)),(22,Ci (xi l 12)),(23,Cb (xb l 13)),(24,Ci (xi l 14)),(25,Cb (xb l 15)),(26,Ci (xi l 16)),(27,Ci (xi l 17)),(28,Ci (xi l 18)),(29,Ci (xi l 19)),(30,Ci (xi l 20)),(31,Cb (xb l 21)),(32,SC.wh 1),(33,Cb has),(34,Ci (xi y 0)),(35,Ci (xi y 1)),(36,Ci (xi y 2)),(37,Ci (xi y 3)),(38,Ci (xi y 4)),(39,Ci (xi y 5)),(40,Ci (xi y 6)),(41,Ci (xi y 7)),(42,Ci (xi y 8)),(43,Ci (xi y 9)),(44,Ci (xi y 10)),(45,Ci (xi y 11)),(46,Ci (xi y 12)),(47,Cb (xb y 13)),(48,Ci (xi y 14)),(49,Cb (xb y 15)),(50,Ci (xi y 16)),(51,Ci (xi y 17)),(52,Ci (xi y 18)),(53,Ci (xi y 19)),(54,Ci (xi y 20)),(55,Cb (xb y 21)),(56,Ci st0),(57,Ci st1),(58,Cb rtr),(59,Ci pn0),(60,Ci pn1)]),(1,Obj.row true 40 22 (RowC.lst 61 jH C))]
theorem JlA (rcl rop:Bool) (rer:Int) (rmo ren:Bool) (rla0 rla1 rla2:Int) (l:List GC) (has:Bool) (y:List GC) (st0 st1:Int) (rtr:Bool) (pn0 pn1:Int) (C:LL):Runs (JGx (JB JZj) WV 34) (JF9.args (Jc JOu [.b rcl,.b rop,.i rer,.b rmo,.b ren,.i rla0,.i rla1,.i rla2,.v l,.b has,.v y,.i st0,.i st1,.b rtr,.i pn0,.i pn1])) (JF9.memo (Jc JOu [.b rcl,.b rop,.i rer,.b rmo,.b ren,.i rla0,.i rla1,.i rla2,.v l,.b has,.v y,.i st0,.i st1,.b rtr,.i pn0,.i pn1]) [C]) JF9.n (SV.one (Ci (Jl rop rer C))) (JiD rcl rop rer rmo ren rla0 rla1 rla2 l has y st0 st1 rtr pn0 pn1 C) :=
  Runs.of1 (ps := []) (by kernel_rfl) (by simp)
def JQL:List Gm → Qr → Option CRes
  | [.b rcl,.b rop,.i rer,.b rmo,.b ren,.i rla0,.i rla1,.i rla2,.v l,.b has,.v y,.i st0,.i st1,.b rtr,.i pn0,.i pn1],[C] => some ⟨SV.one (Ci (Jl rop rer C)),JiD rcl rop rer rmo ren rla0 rla1 rla2 l has y st0 st1 rtr pn0 pn1 C,[],[],83⟩
  | _,_ => none
theorem JuB:Qk Tryz.prog 34 (Z9 JOu JF9 JQL) := by
  refine Qd (KM JNW 34) fun ps ls r hr hn _ => ?_
  unfold JQL at hr
  split at hr
  · cases hr; exact ⟨_,JlA _ _ _ _ _ _ _ _ _ _ _ _ _ _ _ _ _,fun _ => rfl⟩
  · cases hr
def Jfo:List (Nat × JW) := (34,Z9 JOu JF9 JQL) :: JZj
theorem JT9:Known Tryz.prog (JB Jfo) WV := J7 JNW JuB
theorem YT (x:List GC):J2 (J2 x) = J2 x := by kernel_rfl
theorem nx0 (x:List GC):xi (J2 x) 0 = xi x 0 := by kernel_rfl
theorem nx1 (x:List GC):xi (J2 x) 1 = xi x 1 := by kernel_rfl
theorem nx2 (x:List GC):xi (J2 x) 2 = xi x 2 := by kernel_rfl
theorem nx3 (x:List GC):xi (J2 x) 3 = xi x 3 := by kernel_rfl
theorem nx4 (x:List GC):xi (J2 x) 4 = xi x 4 := by kernel_rfl
theorem nx5 (x:List GC):xi (J2 x) 5 = xi x 5 := by kernel_rfl
theorem nx6 (x:List GC):xi (J2 x) 6 = xi x 6 := by kernel_rfl
theorem nx7 (x:List GC):xi (J2 x) 7 = xi x 7 := by kernel_rfl
theorem nx8 (x:List GC):xi (J2 x) 8 = xi x 8 := by kernel_rfl
theorem nx9 (x:List GC):xi (J2 x) 9 = xi x 9 := by kernel_rfl
theorem JOA (x:List GC):xi (J2 x) 10 = xi x 10 := by kernel_rfl
theorem JOH (x:List GC):xi (J2 x) 11 = xi x 11 := by kernel_rfl
theorem JNI (x:List GC):xi (J2 x) 12 = xi x 12 := by kernel_rfl
theorem JNw (x:List GC):xb (J2 x) 13 = xb x 13 := by kernel_rfl
theorem JNP (x:List GC):xi (J2 x) 14 = xi x 14 := by kernel_rfl
theorem JOM (x:List GC):xb (J2 x) 15 = xb x 15 := by kernel_rfl
theorem JNE (x:List GC):xi (J2 x) 16 = xi x 16 := by kernel_rfl
theorem JOV (x:List GC):xi (J2 x) 17 = xi x 17 := by kernel_rfl
theorem JPE (x:List GC):xi (J2 x) 18 = xi x 18 := by kernel_rfl
theorem JNm (x:List GC):xi (J2 x) 19 = xi x 19 := by kernel_rfl
theorem JOJ (x:List GC):xi (J2 x) 20 = xi x 20 := by kernel_rfl
theorem JOe (x:List GC):xb (J2 x) 21 = xb x 21 := by kernel_rfl
section
variable (u w:Int) (tm:Bool) (l y x:List GC) (s:St)
def inv:Bool:= !Qc (J2 x) || s.en || J5 (xi x 0) && s.mo && !(xi x 2 == s.la0 && (xi x 3 == s.la1 && xi x 4 == s.la2))
def mvd:St:= { s with en := xi x 0 == 14,mo := J5 (xi x 0) || s.mo,la0 := bif J5 (xi x 0) then xi x 5 else s.la0,la1 := bif J5 (xi x 0) then xi x 6 else s.la1,la2 := bif J5 (xi x 0) then xi x 7 else s.la2 }
def nE:Int:= Qo (J3 (xi l 8) (xi x 2) (xi x 3) (xi x 4)) (J4 (xi l 8) (xi x 2) (xi x 3) (xi x 4)) (J3 (xi l 8) (xi x 5) (xi x 6) (xi x 7)) (J4 (xi l 8) (xi x 5) (xi x 6) (xi x 7)) (bif xi x 0 == 3 then J3 (xi l 8) (xi x 9) (xi x 10) (xi x 11) else 0) (bif xi x 0 == 3 then J4 (xi l 8) (xi x 9) (xi x 10) (xi x 11) else 0) (bif xi x 0 == 3 then xi x 12 else 0) (IntKind.i64.wrap (xi l 16 * xi l 17))
def n0:Int:= XN (J3 (xi l 8) (xi x 2) (xi x 3) (xi x 4)) (J4 (xi l 8) (xi x 2) (xi x 3) (xi x 4)) (J3 (xi l 8) (xi x 5) (xi x 6) (xi x 7)) (J4 (xi l 8) (xi x 5) (xi x 6) (xi x 7)) (bif xi x 0 == 3 then J3 (xi l 8) (xi x 9) (xi x 10) (xi x 11) else 0) (bif xi x 0 == 3 then J4 (xi l 8) (xi x 9) (xi x 10) (xi x 11) else 0) (bif xi x 0 == 3 then xi x 12 else 0) (IntKind.i64.wrap (xi l 16 * xi l 17))
def n1:Int:= XP (J3 (xi l 8) (xi x 2) (xi x 3) (xi x 4)) (J4 (xi l 8) (xi x 2) (xi x 3) (xi x 4)) (J3 (xi l 8) (xi x 5) (xi x 6) (xi x 7)) (J4 (xi l 8) (xi x 5) (xi x 6) (xi x 7)) (bif xi x 0 == 3 then J3 (xi l 8) (xi x 9) (xi x 10) (xi x 11) else 0) (bif xi x 0 == 3 then J4 (xi l 8) (xi x 9) (xi x 10) (xi x 11) else 0) (bif xi x 0 == 3 then xi x 12 else 0) (IntKind.i64.wrap (xi l 16 * xi l 17))
def f0:Int:= Xl (J3 (xi l 8) (xi x 2) (xi x 3) (xi x 4)) (J4 (xi l 8) (xi x 2) (xi x 3) (xi x 4)) (J3 (xi l 8) (xi x 5) (xi x 6) (xi x 7)) (J4 (xi l 8) (xi x 5) (xi x 6) (xi x 7)) (bif xi x 0 == 3 then J3 (xi l 8) (xi x 9) (xi x 10) (xi x 11) else 0) (bif xi x 0 == 3 then J4 (xi l 8) (xi x 9) (xi x 10) (xi x 11) else 0) (bif xi x 0 == 3 then xi x 12 else 0) (IntKind.i64.wrap (xi l 16 * xi l 17))
def f1:Int:= Xk (J3 (xi l 8) (xi x 2) (xi x 3) (xi x 4)) (J4 (xi l 8) (xi x 2) (xi x 3) (xi x 4)) (J3 (xi l 8) (xi x 5) (xi x 6) (xi x 7)) (J4 (xi l 8) (xi x 5) (xi x 6) (xi x 7)) (bif xi x 0 == 3 then J3 (xi l 8) (xi x 9) (xi x 10) (xi x 11) else 0) (bif xi x 0 == 3 then J4 (xi l 8) (xi x 9) (xi x 10) (xi x 11) else 0) (bif xi x 0 == 3 then xi x 12 else 0) (IntKind.i64.wrap (xi l 16 * xi l 17))
def trE:Int:= JQZ (J3 (xi l 8) (xi y 2) (xi y 3) (xi y 4)) (J4 (xi l 8) (xi y 2) (xi y 3) (xi y 4)) (J3 (xi l 8) (xi y 5) (xi y 6) (xi y 7)) (J4 (xi l 8) (xi y 5) (xi y 6) (xi y 7)) (bif xi y 0 == 3 then J3 (xi l 8) (xi y 9) (xi y 10) (xi y 11) else 0) (bif xi y 0 == 3 then J4 (xi l 8) (xi y 9) (xi y 10) (xi y 11) else 0) (bif xi y 0 == 3 then xi y 12 else 0) (xi y 0 == 3 && xb y 13) (J3 (xi l 8) (xi x 2) (xi x 3) (xi x 4)) (J4 (xi l 8) (xi x 2) (xi x 3) (xi x 4)) (J3 (xi l 8) (xi x 5) (xi x 6) (xi x 7)) (J4 (xi l 8) (xi x 5) (xi x 6) (xi x 7)) (bif xi x 0 == 3 then J3 (xi l 8) (xi x 9) (xi x 10) (xi x 11) else 0) (bif xi x 0 == 3 then J4 (xi l 8) (xi x 9) (xi x 10) (xi x 11) else 0) (bif xi x 0 == 3 then xi x 12 else 0) (xi x 0 == 3 && xb x 13) (IntKind.i64.wrap (xi l 16 * xi l 17))
def tr0:Int:= JN1 (J3 (xi l 8) (xi y 2) (xi y 3) (xi y 4)) (J4 (xi l 8) (xi y 2) (xi y 3) (xi y 4)) (J3 (xi l 8) (xi y 5) (xi y 6) (xi y 7)) (J4 (xi l 8) (xi y 5) (xi y 6) (xi y 7)) (bif xi y 0 == 3 then J3 (xi l 8) (xi y 9) (xi y 10) (xi y 11) else 0) (bif xi y 0 == 3 then J4 (xi l 8) (xi y 9) (xi y 10) (xi y 11) else 0) (bif xi y 0 == 3 then xi y 12 else 0) (xi y 0 == 3 && xb y 13) (J3 (xi l 8) (xi x 2) (xi x 3) (xi x 4)) (J4 (xi l 8) (xi x 2) (xi x 3) (xi x 4)) (J3 (xi l 8) (xi x 5) (xi x 6) (xi x 7)) (J4 (xi l 8) (xi x 5) (xi x 6) (xi x 7)) (bif xi x 0 == 3 then J3 (xi l 8) (xi x 9) (xi x 10) (xi x 11) else 0) (bif xi x 0 == 3 then J4 (xi l 8) (xi x 9) (xi x 10) (xi x 11) else 0) (bif xi x 0 == 3 then xi x 12 else 0) (xi x 0 == 3 && xb x 13) (IntKind.i64.wrap (xi l 16 * xi l 17))
def tr1:Int:= JMD (J3 (xi l 8) (xi y 2) (xi y 3) (xi y 4)) (J4 (xi l 8) (xi y 2) (xi y 3) (xi y 4)) (J3 (xi l 8) (xi y 5) (xi y 6) (xi y 7)) (J4 (xi l 8) (xi y 5) (xi y 6) (xi y 7)) (bif xi y 0 == 3 then J3 (xi l 8) (xi y 9) (xi y 10) (xi y 11) else 0) (bif xi y 0 == 3 then J4 (xi l 8) (xi y 9) (xi y 10) (xi y 11) else 0) (bif xi y 0 == 3 then xi y 12 else 0) (xi y 0 == 3 && xb y 13) (J3 (xi l 8) (xi x 2) (xi x 3) (xi x 4)) (J4 (xi l 8) (xi x 2) (xi x 3) (xi x 4)) (J3 (xi l 8) (xi x 5) (xi x 6) (xi x 7)) (J4 (xi l 8) (xi x 5) (xi x 6) (xi x 7)) (bif xi x 0 == 3 then J3 (xi l 8) (xi x 9) (xi x 10) (xi x 11) else 0) (bif xi x 0 == 3 then J4 (xi l 8) (xi x 9) (xi x 10) (xi x 11) else 0) (bif xi x 0 == 3 then xi x 12 else 0) (xi x 0 == 3 && xb x 13) (IntKind.i64.wrap (xi l 16 * xi l 17))
def kd:Int:= bif IntKind.i64.wrap (xi l 16 * xi l 17) == 0 then 0 else JC4 (Z7 (xi y 0) (xi y 2) (xi y 3) (xi y 4) (xi y 5) (xi y 6) (xi y 7) (xi y 8) (xi y 9) (xi y 10) (xi y 11) (xi y 12) true) (Z8 (xi y 0) (xi y 2) (xi y 3) (xi y 4) (xi y 5) (xi y 6) (xi y 7) (xi y 8) (xi y 9) (xi y 10) (xi y 11) (xi y 12) true) (Z7 (xi x 0) (xi x 2) (xi x 3) (xi x 4) (xi x 5) (xi x 6) (xi x 7) (xi x 8) (xi x 9) (xi x 10) (xi x 11) (xi x 12) false) (Z8 (xi x 0) (xi x 2) (xi x 3) (xi x 4) (xi x 5) (xi x 6) (xi x 7) (xi x 8) (xi x 9) (xi x 10) (xi x 11) (xi x 12) false) (xi l 16)
def shE:Int:= Q8 u w tm (J2 s.l) (J2 s.y) s.a0 s.a1 s.tr
def shO:LL:= Zt u w tm (J2 s.l) (J2 s.y) s.a0 s.a1 s.tr []
end
section
variable (x l:List GC)
def jM:Bool:= !J5 (xi x 0) || !(xb x 13 || !(J3 (xi l 8) (xi x 2) (xi x 3) (xi x 4) == J3 (xi l 8) (xi x 5) (xi x 6) (xi x 7) && J4 (xi l 8) (xi x 2) (xi x 3) (xi x 4) == J4 (xi l 8) (xi x 5) (xi x 6) (xi x 7)))
def odd:Bool:= J5 (xi x 0) && (xi x 8 != xi l 8 || xi x 16 != xi l 16 || xi x 17 != xi l 17)
def three:Bool:= xi x 0 == 1 || xi x 0 == 11 || xi x 0 == 14
end
theorem JvG {c:Bool} (h:(bif c then (16:Int) else 0) = 0):c = false := by
  cases c
  · rfl
  · cases h
theorem JWz (u w:Int) (tm:Bool) (l y:List GC) (a0 a1:Int) (tr:Bool) (h:Q8 u w tm l y a0 a1 tr = 0):KV u w tm l y a0 a1 tr = u ∧ KW u w tm l y a0 a1 tr = w := by
  unfold Q8 at h
  unfold KV KW
  generalize (xi y 0 == 2) = b1 at h ⊢
  generalize ((tm || tr) && decide (z7 u w l y a0 a1 ≤ 0)) = b2 at h ⊢
  generalize ((tm || tr) && !xb y 13 && !WE u w tm (J2 l) (J2 y) a0 a1 tr) = b3 at h ⊢
  cases b1 <;> cases b2 <;> cases b3 <;> first
    | exact ⟨rfl,rfl⟩
    | exact absurd h (by show ¬ (16:Int) = 0; decide)
    | (simp only [cond_true,cond_false] at h ⊢; rw [JvG h]; exact ⟨rfl,rfl⟩)
theorem Jig (x:List GC) (s:St) (he:s.er = 0) (hl:J2 s.l = s.l) (hy:J2 s.y = s.y) (hc:s.cl = false) (hi:inv x s = false) (ho:s.op = false) (hm:(J5 (xi x 0) && xi x 16 != 0) = false) :
    Zm x s = mvd x s ∧ Kv x s = [JI2 x] := by
  unfold inv at hi
  have e2:(s.er == 0) = true := by rw [he]; rfl
  refine ⟨?_,?_⟩
  · unfold Zm mvd
    simp only [Kr,ZV,JHY,JGg,JHT,JHn,JHx,JHE,JHM,JHq,JHH,JBa,JAH,JBe,JAj,jw,JBb,JBh,JC0,JBH,JBD,JAk,JAV,JAo,JAS,ZU,JB6,JBV,JAd,JBR,JBl,JAg,JB0,JAb,JBM,JBq,JAx,JAJ,JBC,jx,JAL,JBY,JAN,JB2,JAp,JBU,JBI,JBo,JBj,JBn,JBA,JBG,JAm,JBc,JAM,JBS,JBB,JAQ,KL,j0,Kh,Ke,Kq,KO,JGi,JHa,JHl,JGs,JGu,JHu,JHX,JH7,JBL,JBz,JAU,JBP,JAc,JBN,JAT,JAf,JBQ,JBd,JC1,JBy,JBT,JBF,JBO,JBv,JAI,JAt,JBJ,JBK,JBt,JAv,JB8,JB4,JBi,JAl,JAX,JAn,JAW,JAh,JBm,JAi,JBE,JAy,JBX,JAZ,JBk,JAO,JAY,jJ,JAe,JBW,JAq,JBs,JBu,Y0,Yu,YT,nx0,nx1,nx2,nx3,nx4,nx5,nx6,nx7,nx8,nx9,JOA,JOH,JNI,JNw,JNP,JOM,JNE,JOV,JPE,JNm,JOJ,JOe,e2,hc,hi,cond_true,cond_false,Bool.not_false,Bool.not_true,Bool.true_and,Bool.false_and,Bool.and_false,Bool.and_true,Bool.or_false,Bool.false_or,beq_self_eq_true,bne_self_eq_false,ho,hm]
    simp only [he]
    try rw [← hl]
    try rw [← hy]
    all_goals rfl
  · unfold Kv
    simp only [Kr,KL,Kh,Ke,KO,ZQ,YT,nx0,nx1,nx2,nx3,nx4,nx5,nx6,nx7,nx8,nx9,JOA,JOH,JNI,JNw,JNP,JOM,JNE,JOV,JPE,JNm,JOJ,JOe,e2,hc,hi,cond_true,cond_false,Bool.not_false,Bool.not_true,Bool.true_and,Bool.false_and,Bool.and_false,Bool.and_true,Bool.or_false,Bool.false_or,beq_self_eq_true,bne_self_eq_false,ho,hm]
    all_goals rfl
theorem Jlc (x:List GC) (s:St) (he:s.er = 0) (hl:J2 s.l = s.l) (hy:J2 s.y = s.y) (hc:s.cl = false) (hi:inv x s = false) (ho:s.op = false) (hm:(J5 (xi x 0) && xi x 16 != 0) = true) (hd:JX (J2 x) (xi x 8) (xi x 17) = true) :
    Zm x s = { mvd x s with l := J2 x,y := JYo,a0 := 0,a1 := 0,tr := false,op := true,C := [] } ∧ Kv x s = [] := by
  unfold inv at hi
  have e2:(s.er == 0) = true := by rw [he]; rfl
  refine ⟨?_,?_⟩
  · unfold Zm mvd
    simp only [JNq,JdX,Jer,JeK,Jfn,Jfh,Jef,Jd7,Jev,JdD,JYX,JX9,JYp,JXq,JYs,JaE,JX6,JVm,JXD,JXs,JZc,JaB,JaY,Jal,JVk,JW5,JaX,JVc,JYv,JVa,JW6,JZX,JXx,JWA,JZK,JVT,JXO,JVy,JXA,JVP,JX3,JWC,JYV,JXE,JWF,JIP,JaW,JY6,JJp,Kr,ZV,JHY,JGg,JHT,JHn,JHx,JHE,JHM,JHq,JHH,JBa,JAH,JBe,JAj,jw,JBb,JBh,JC0,JBH,JBD,JAk,JAV,JAo,JAS,ZU,JB6,JBV,JAd,JBR,JBl,JAg,JB0,JAb,JBM,JBq,JAx,JAJ,JBC,jx,JAL,JBY,JAN,JB2,JAp,JBU,JBI,JBo,JBj,JBn,JBA,JBG,JAm,JBc,JAM,JBS,JBB,JAQ,KL,j0,Kh,Ke,Kq,KO,JGi,JHa,JHl,JGs,JGu,JHu,JHX,JH7,JBL,JBz,JAU,JBP,JAc,JBN,JAT,JAf,JBQ,JBd,JC1,JBy,JBT,JBF,JBO,JBv,JAI,JAt,JBJ,JBK,JBt,JAv,JB8,JB4,JBi,JAl,JAX,JAn,JAW,JAh,JBm,JAi,JBE,JAy,JBX,JAZ,JBk,JAO,JAY,jJ,JAe,JBW,JAq,JBs,JBu,Y0,Yu,YT,nx0,nx1,nx2,nx3,nx4,nx5,nx6,nx7,nx8,nx9,JOA,JOH,JNI,JNw,JNP,JOM,JNE,JOV,JPE,JNm,JOJ,JOe,e2,hc,hi,cond_true,cond_false,Bool.not_false,Bool.not_true,Bool.true_and,Bool.false_and,Bool.and_false,Bool.and_true,Bool.or_false,Bool.false_or,beq_self_eq_true,bne_self_eq_false,ho,hm,hd]
    simp only [he]
    try rw [← hl]
    try rw [← hy]
    all_goals rfl
  · unfold Kv
    simp only [JNq,Kr,KL,Kh,Ke,KO,ZQ,YT,nx0,nx1,nx2,nx3,nx4,nx5,nx6,nx7,nx8,nx9,JOA,JOH,JNI,JNw,JNP,JOM,JNE,JOV,JPE,JNm,JOJ,JOe,e2,hc,hi,cond_true,cond_false,Bool.not_false,Bool.not_true,Bool.true_and,Bool.false_and,Bool.and_false,Bool.and_true,Bool.or_false,Bool.false_or,beq_self_eq_true,bne_self_eq_false,ho,hm,hd]
    all_goals rfl
theorem JjL (x:List GC) (s:St) (he:s.er = 0) (hl:J2 s.l = s.l) (hy:J2 s.y = s.y) (hc:s.cl = false) (hi:inv x s = false) (ho:s.op = true) (hm:(J5 (xi x 0) && xi x 16 == 0) = false) (h3:three x = false) (hd:odd x s.l = false) (hs:jM x s.l = true) (hn:(Int.ofNat s.C.length == 8) = false) :
    Zm x s = { mvd x s with C := s.C ++ [JI2 x] } ∧ Kv x s = [] := by
  unfold inv at hi
  have e2:(s.er == 0) = true := by rw [he]; rfl
  unfold three at h3
  unfold odd at hd
  unfold jM at hs
  refine ⟨?_,?_⟩
  · unfold Zm mvd
    simp only [jG,ZF,JEx,JG8,JG9,JGF,JEz,JFw,JGV,JEt,JGU,JF1,JFT,JFY,JF0,JCa,JFF,JFC,JFK,JEl,JEq,JEn,JFX,JGT,JFR,JFG,JGS,JF4,YG,zU,W7,WB,WD,W6,Kr,ZV,JHY,JGg,JHT,JHn,JHx,JHE,JHM,JHq,JHH,JBa,JAH,JBe,JAj,jw,JBb,JBh,JC0,JBH,JBD,JAk,JAV,JAo,JAS,ZU,JB6,JBV,JAd,JBR,JBl,JAg,JB0,JAb,JBM,JBq,JAx,JAJ,JBC,jx,JAL,JBY,JAN,JB2,JAp,JBU,JBI,JBo,JBj,JBn,JBA,JBG,JAm,JBc,JAM,JBS,JBB,JAQ,KL,j0,Kh,Ke,Kq,KO,JGi,JHa,JHl,JGs,JGu,JHu,JHX,JH7,JBL,JBz,JAU,JBP,JAc,JBN,JAT,JAf,JBQ,JBd,JC1,JBy,JBT,JBF,JBO,JBv,JAI,JAt,JBJ,JBK,JBt,JAv,JB8,JB4,JBi,JAl,JAX,JAn,JAW,JAh,JBm,JAi,JBE,JAy,JBX,JAZ,JBk,JAO,JAY,jJ,JAe,JBW,JAq,JBs,JBu,Y0,Yu,JCn,JCy,JCj,JDD,W0,jN,jO,Kp,YT,nx0,nx1,nx2,nx3,nx4,nx5,nx6,nx7,nx8,nx9,JOA,JOH,JNI,JNw,JNP,JOM,JNE,JOV,JPE,JNm,JOJ,JOe,e2,hc,hi,cond_true,cond_false,Bool.not_false,Bool.not_true,Bool.true_and,Bool.false_and,Bool.and_false,Bool.and_true,Bool.or_false,Bool.false_or,beq_self_eq_true,bne_self_eq_false,ho,hm,h3,hd,hs,hn]
    simp only [he]
    try rw [← hl]
    try rw [← hy]
    all_goals rfl
  · unfold Kv
    simp only [jG,YG,W7,WB,WD,W6,Kr,KL,Kh,Ke,KO,JCn,JCy,JCj,JDD,W0,jN,jO,Kp,ZQ,YT,nx0,nx1,nx2,nx3,nx4,nx5,nx6,nx7,nx8,nx9,JOA,JOH,JNI,JNw,JNP,JOM,JNE,JOV,JPE,JNm,JOJ,JOe,e2,hc,hi,cond_true,cond_false,Bool.not_false,Bool.not_true,Bool.true_and,Bool.false_and,Bool.and_false,Bool.and_true,Bool.or_false,Bool.false_or,beq_self_eq_true,bne_self_eq_false,ho,hm,h3,hd,hs,hn]
    all_goals rfl
theorem JjS (x:List GC) (s:St) (he:s.er = 0) (hl:J2 s.l = s.l) (hy:J2 s.y = s.y) (hc:s.cl = false) (hi:inv x s = false) (ho:s.op = true) (hm:(J5 (xi x 0) && xi x 16 == 0) = false) (h3:three x = false) (hd:odd x s.l = false) (hs:jM x s.l = false) (h0:(xi s.y 0 == 0) = true) (hE:nE s.l x = 0) :
    Zm x s = { mvd x s with y := J2 x,a0 := n0 s.l x,a1 := n1 s.l x,C := [] } ∧ Kv x s = QY (J2 s.l) (n0 s.l x) (n1 s.l x) s.C (Zu (J2 s.l) (n0 s.l x) (n1 s.l x) (J9 (xi s.l 8) (xi s.l 2) (xi s.l 3) (xi s.l 4)) (J9 (xi s.l 8) (xi s.l 2) (xi s.l 3) (xi s.l 4)) true (J2 s.l) (J3 (xi s.l 8) (xi s.l 2) (xi s.l 3) (xi s.l 4)) (J4 (xi s.l 8) (xi s.l 2) (xi s.l 3) (xi s.l 4)) []) := by
  unfold inv at hi
  have e2:(s.er == 0) = true := by rw [he]; rfl
  unfold three at h3
  unfold odd at hd
  unfold jM at hs
  unfold nE at hE
  refine ⟨?_,?_⟩
  · unfold Zm mvd
    simp only [JO2,JOt,Zo,JVJ,JZ4,JXG,JYu,JVs,JXR,JW8,JZz,JaK,JWX,JYy,JZa,JZH,JNU,JY8,Jag,Jaf,JYM,Ja9,JZi,JVx,JZR,JZo,YD,YJ,Y8,JYG,JYt,JOp,JPI,JGB,JIS,jG,ZF,JEx,JG8,JG9,JGF,JEz,JFw,JGV,JEt,JGU,JF1,JFT,JFY,JF0,JCa,JFF,JFC,JFK,JEl,JEq,JEn,JFX,JGT,JFR,JFG,JGS,JF4,YG,zU,W7,WB,WD,W6,Kr,ZV,JHY,JGg,JHT,JHn,JHx,JHE,JHM,JHq,JHH,JBa,JAH,JBe,JAj,jw,JBb,JBh,JC0,JBH,JBD,JAk,JAV,JAo,JAS,ZU,JB6,JBV,JAd,JBR,JBl,JAg,JB0,JAb,JBM,JBq,JAx,JAJ,JBC,jx,JAL,JBY,JAN,JB2,JAp,JBU,JBI,JBo,JBj,JBn,JBA,JBG,JAm,JBc,JAM,JBS,JBB,JAQ,KL,j0,Kh,Ke,Kq,KO,JGi,JHa,JHl,JGs,JGu,JHu,JHX,JH7,JBL,JBz,JAU,JBP,JAc,JBN,JAT,JAf,JBQ,JBd,JC1,JBy,JBT,JBF,JBO,JBv,JAI,JAt,JBJ,JBK,JBt,JAv,JB8,JB4,JBi,JAl,JAX,JAn,JAW,JAh,JBm,JAi,JBE,JAy,JBX,JAZ,JBk,JAO,JAY,jJ,JAe,JBW,JAq,JBs,JBu,Y0,Yu,JCn,JCy,JCj,JDD,W0,jN,jO,Kp,YT,nx0,nx1,nx2,nx3,nx4,nx5,nx6,nx7,nx8,nx9,JOA,JOH,JNI,JNw,JNP,JOM,JNE,JOV,JPE,JNm,JOJ,JOe,e2,hc,hi,cond_true,cond_false,Bool.not_false,Bool.not_true,Bool.true_and,Bool.false_and,Bool.and_false,Bool.and_true,Bool.or_false,Bool.false_or,beq_self_eq_true,bne_self_eq_false,ho,hm,h3,hd,hs,h0,hE]
    simp only [he]
    try rw [← hl]
    try rw [← hy]
    all_goals kernel_rfl
  · unfold Kv
    simp only [JO2,JOt,YD,YJ,Y8,JOp,JPI,JGB,jG,YG,W7,WB,WD,W6,Kr,KL,Kh,Ke,KO,JCn,JCy,JCj,JDD,W0,jN,jO,Kp,ZQ,YT,nx0,nx1,nx2,nx3,nx4,nx5,nx6,nx7,nx8,nx9,JOA,JOH,JNI,JNw,JNP,JOM,JNE,JOV,JPE,JNm,JOJ,JOe,e2,hc,hi,cond_true,cond_false,Bool.not_false,Bool.not_true,Bool.true_and,Bool.false_and,Bool.and_false,Bool.and_true,Bool.or_false,Bool.false_or,beq_self_eq_true,bne_self_eq_false,ho,hm,h3,hd,hs,h0,hE]
    all_goals kernel_rfl
theorem JiB (x:List GC) (s:St) (he:s.er = 0) (hl:J2 s.l = s.l) (hy:J2 s.y = s.y) (hc:s.cl = false) (hi:inv x s = false) (ho:s.op = true) (hm:(J5 (xi x 0) && xi x 16 == 0) = false) (h3:three x = false) (hd:odd x s.l = false) (hs:jM x s.l = false) (h0:(xi s.y 0 == 0) = false) (hk:(kd s.l s.y x == 2) = true) (hE:trE s.l s.y x = 0) (hS:shE (tr0 s.l s.y x) (tr1 s.l s.y x) true s = 0) :
    Zm x s = { mvd x s with y := J2 x,a0 := tr0 s.l s.y x,a1 := tr1 s.l s.y x,tr := true,C := [] } ∧ Kv x s = QY (J2 s.l) (tr0 s.l s.y x) (tr1 s.l s.y x) s.C (shO (tr0 s.l s.y x) (tr1 s.l s.y x) true s) := by
  unfold inv at hi
  have e2:(s.er == 0) = true := by rw [he]; rfl
  unfold three at h3
  unfold odd at hd
  unfold jM at hs
  unfold kd at hk
  unfold trE at hE
  unfold shE at hS
  obtain ⟨hs1,hs2⟩ := JWz _ _ _ _ _ _ _ _ hS
  unfold tr0 tr1 at hS hs1 hs2
  refine ⟨?_,?_⟩
  · unfold Zm mvd
    simp only [XA,XB,Qp,YW,Kj,Kg,Zg,JKU,JGA,Z5,JFE,JLy,XM,JUY,JUe,JUy,JV7,JUW,JUa,JUm,JUs,JVC,JV0,JUg,JUl,JUP,JNO,JV8,JUh,JUX,JUS,JV2,JVB,JUn,JVE,JVF,Xt,Xr,Zs,Zq,JFM,JUj,JGR,JUv,JV9,JEg,JDZ,JKh,jG,ZF,JEx,JG8,JG9,JGF,JEz,JFw,JGV,JEt,JGU,JF1,JFT,JFY,JF0,JCa,JFF,JFC,JFK,JEl,JEq,JEn,JFX,JGT,JFR,JFG,JGS,JF4,YG,zU,W7,WB,WD,W6,Kr,ZV,JHY,JGg,JHT,JHn,JHx,JHE,JHM,JHq,JHH,JBa,JAH,JBe,JAj,jw,JBb,JBh,JC0,JBH,JBD,JAk,JAV,JAo,JAS,ZU,JB6,JBV,JAd,JBR,JBl,JAg,JB0,JAb,JBM,JBq,JAx,JAJ,JBC,jx,JAL,JBY,JAN,JB2,JAp,JBU,JBI,JBo,JBj,JBn,JBA,JBG,JAm,JBc,JAM,JBS,JBB,JAQ,KL,j0,Kh,Ke,Kq,KO,JGi,JHa,JHl,JGs,JGu,JHu,JHX,JH7,JBL,JBz,JAU,JBP,JAc,JBN,JAT,JAf,JBQ,JBd,JC1,JBy,JBT,JBF,JBO,JBv,JAI,JAt,JBJ,JBK,JBt,JAv,JB8,JB4,JBi,JAl,JAX,JAn,JAW,JAh,JBm,JAi,JBE,JAy,JBX,JAZ,JBk,JAO,JAY,jJ,JAe,JBW,JAq,JBs,JBu,Y0,Yu,JCn,JCy,JCj,JDD,W0,jN,jO,Kp,YT,nx0,nx1,nx2,nx3,nx4,nx5,nx6,nx7,nx8,nx9,JOA,JOH,JNI,JNw,JNP,JOM,JNE,JOV,JPE,JNm,JOJ,JOe,e2,hc,hi,cond_true,cond_false,Bool.not_false,Bool.not_true,Bool.true_and,Bool.false_and,Bool.and_false,Bool.and_true,Bool.or_false,Bool.false_or,beq_self_eq_true,bne_self_eq_false,ho,hm,h3,hd,hs,h0,hk,hE,hS,hs1,hs2]
    simp only [he]
    try rw [← hl]
    try rw [← hy]
    all_goals kernel_rfl
  · unfold Kv
    simp only [XA,XB,Qp,YW,Kj,Kg,Zg,JKU,JGA,Z5,JFE,JLy,Xt,Xr,Zs,Zq,JFM,JGR,JEg,JDZ,jG,YG,W7,WB,WD,W6,Kr,KL,Kh,Ke,KO,JCn,JCy,JCj,JDD,W0,jN,jO,Kp,ZQ,YT,nx0,nx1,nx2,nx3,nx4,nx5,nx6,nx7,nx8,nx9,JOA,JOH,JNI,JNw,JNP,JOM,JNE,JOV,JPE,JNm,JOJ,JOe,e2,hc,hi,cond_true,cond_false,Bool.not_false,Bool.not_true,Bool.true_and,Bool.false_and,Bool.and_false,Bool.and_true,Bool.or_false,Bool.false_or,beq_self_eq_true,bne_self_eq_false,ho,hm,h3,hd,hs,h0,hk,hE,hS,hs1,hs2]
    all_goals kernel_rfl
theorem JfA (x:List GC) (s:St) (he:s.er = 0) (hl:J2 s.l = s.l) (hy:J2 s.y = s.y) (hc:s.cl = false) (hi:inv x s = false) (ho:s.op = true) (hm:(J5 (xi x 0) && xi x 16 == 0) = false) (h3:three x = false) (hd:odd x s.l = false) (hs:jM x s.l = false) (h0:(xi s.y 0 == 0) = false) (hk:(kd s.l s.y x == 2) = false) (hE:nE s.l s.y = 0) (hF:nE s.l x = 0) (hS:shE (f0 s.l s.y) (f1 s.l s.y) false s = 0) :
    Zm x s = { mvd x s with y := J2 x,a0 := n0 s.l x,a1 := n1 s.l x,tr := false,C := [] } ∧ Kv x s = Wl (J2 x) (n0 s.l x) (n1 s.l x) (kd s.l s.y x == 1) (J2 s.l) (f0 s.l s.y) (f1 s.l s.y) (QY (J2 s.l) (f0 s.l s.y) (f1 s.l s.y) s.C (shO (f0 s.l s.y) (f1 s.l s.y) false s)) := by
  unfold inv at hi
  have e2:(s.er == 0) = true := by rw [he]; rfl
  unfold three at h3
  unfold odd at hd
  unfold jM at hs
  unfold kd at hk
  unfold nE at hE
  unfold nE at hF
  unfold shE at hS
  obtain ⟨hs1,hs2⟩ := JWz _ _ _ _ _ _ _ _ hS
  unfold f0 f1 at hS hs1 hs2
  refine ⟨?_,?_⟩
  · unfold Zm mvd
    simp only [XA,XB,Qp,YW,Kj,Kg,Zg,JKU,JGA,Z5,JFE,JLy,XM,JUY,JUe,JUy,JV7,JUW,JUa,JUm,JUs,JVC,JV0,JUg,JUl,JUP,JNO,JV8,JUh,JUX,JUS,JV2,JVB,JUn,JVE,JVF,Xt,Xr,Zs,Zq,JFM,JUj,JGR,JUv,JV9,JEg,JDZ,JKh,jG,ZF,JEx,JG8,JG9,JGF,JEz,JFw,JGV,JEt,JGU,JF1,JFT,JFY,JF0,JCa,JFF,JFC,JFK,JEl,JEq,JEn,JFX,JGT,JFR,JFG,JGS,JF4,YG,zU,W7,WB,WD,W6,Kr,ZV,JHY,JGg,JHT,JHn,JHx,JHE,JHM,JHq,JHH,JBa,JAH,JBe,JAj,jw,JBb,JBh,JC0,JBH,JBD,JAk,JAV,JAo,JAS,ZU,JB6,JBV,JAd,JBR,JBl,JAg,JB0,JAb,JBM,JBq,JAx,JAJ,JBC,jx,JAL,JBY,JAN,JB2,JAp,JBU,JBI,JBo,JBj,JBn,JBA,JBG,JAm,JBc,JAM,JBS,JBB,JAQ,KL,j0,Kh,Ke,Kq,KO,JGi,JHa,JHl,JGs,JGu,JHu,JHX,JH7,JBL,JBz,JAU,JBP,JAc,JBN,JAT,JAf,JBQ,JBd,JC1,JBy,JBT,JBF,JBO,JBv,JAI,JAt,JBJ,JBK,JBt,JAv,JB8,JB4,JBi,JAl,JAX,JAn,JAW,JAh,JBm,JAi,JBE,JAy,JBX,JAZ,JBk,JAO,JAY,jJ,JAe,JBW,JAq,JBs,JBu,Y0,Yu,JCn,JCy,JCj,JDD,W0,jN,jO,Kp,YT,nx0,nx1,nx2,nx3,nx4,nx5,nx6,nx7,nx8,nx9,JOA,JOH,JNI,JNw,JNP,JOM,JNE,JOV,JPE,JNm,JOJ,JOe,e2,hc,hi,cond_true,cond_false,Bool.not_false,Bool.not_true,Bool.true_and,Bool.false_and,Bool.and_false,Bool.and_true,Bool.or_false,Bool.false_or,beq_self_eq_true,bne_self_eq_false,ho,hm,h3,hd,hs,h0,hk,hE,hF,hS,hs1,hs2]
    simp only [he]
    try rw [← hl]
    try rw [← hy]
    all_goals kernel_rfl
  · unfold Kv
    simp only [XA,XB,Qp,YW,Kj,Kg,Zg,JKU,JGA,Z5,JFE,JLy,Xt,Xr,Zs,Zq,JFM,JGR,JEg,JDZ,jG,YG,W7,WB,WD,W6,Kr,KL,Kh,Ke,KO,JCn,JCy,JCj,JDD,W0,jN,jO,Kp,ZQ,YT,nx0,nx1,nx2,nx3,nx4,nx5,nx6,nx7,nx8,nx9,JOA,JOH,JNI,JNw,JNP,JOM,JNE,JOV,JPE,JNm,JOJ,JOe,e2,hc,hi,cond_true,cond_false,Bool.not_false,Bool.not_true,Bool.true_and,Bool.false_and,Bool.and_false,Bool.and_true,Bool.or_false,Bool.false_or,beq_self_eq_true,bne_self_eq_false,ho,hm,h3,hd,hs,h0,hk,hE,hF,hS,hs1,hs2]
    all_goals kernel_rfl
theorem JgW (x:List GC) (s:St) (he:s.er = 0) (hl:J2 s.l = s.l) (hy:J2 s.y = s.y) (hc:s.cl = false) (hi:inv x s = false) (ho:s.op = true) (hm:(J5 (xi x 0) && xi x 16 == 0) = true) (hd:(!JX (J2 x) (xi s.l 8) (xi s.l 17) || xi s.y 0 == 0) = false) (hE:nE s.l s.y = 0) (hS:shE (f0 s.l s.y) (f1 s.l s.y) false s = 0) :
    Zm x s = { mvd x s with l := JYo,y := JYo,a0 := 0,a1 := 0,tr := false,op := false,C := [] } ∧ Kv x s = Zu (J2 x) (J3 (xi s.l 8) (xi x 5) (xi x 6) (xi x 7)) (J4 (xi s.l 8) (xi x 5) (xi x 6) (xi x 7)) (J9 (xi s.l 8) (xi x 5) (xi x 6) (xi x 7)) (J9 (xi s.l 8) (xi x 5) (xi x 6) (xi x 7)) true (J2 s.l) (f0 s.l s.y) (f1 s.l s.y) (QY (J2 s.l) (f0 s.l s.y) (f1 s.l s.y) s.C (shO (f0 s.l s.y) (f1 s.l s.y) false s)) := by
  unfold inv at hi
  have e2:(s.er == 0) = true := by rw [he]; rfl
  unfold nE at hE
  unfold shE at hS
  obtain ⟨hs1,hs2⟩ := JWz _ _ _ _ _ _ _ _ hS
  unfold f0 f1 at hS hs1 hs2
  refine ⟨?_,?_⟩
  · unfold Zm mvd
    simp only [jf,jj,jX,QS,JKj,JJ6,ZD,JZq,JWU,JY9,JZZ,JaQ,JYN,JWr,JZM,JYq,JRl,JRc,JRb,JR1,JKI,JPb,JQT,JR0,JSH,JRY,JS4,JRp,JSR,JSQ,ZE,JPS,JQl,JQ7,JSA,JPO,JR5,JQa,JRB,JRq,JPl,JSY,JPV,JQM,JKS,JQ4,JQP,JPi,JRV,JSM,JRU,JQG,JS9,JQC,ZX,ZW,JR8,JQp,JS3,JPu,JCE,JGN,Kr,ZV,JHY,JGg,JHT,JHn,JHx,JHE,JHM,JHq,JHH,JBa,JAH,JBe,JAj,jw,JBb,JBh,JC0,JBH,JBD,JAk,JAV,JAo,JAS,ZU,JB6,JBV,JAd,JBR,JBl,JAg,JB0,JAb,JBM,JBq,JAx,JAJ,JBC,jx,JAL,JBY,JAN,JB2,JAp,JBU,JBI,JBo,JBj,JBn,JBA,JBG,JAm,JBc,JAM,JBS,JBB,JAQ,KL,j0,Kh,Ke,Kq,KO,JGi,JHa,JHl,JGs,JGu,JHu,JHX,JH7,JBL,JBz,JAU,JBP,JAc,JBN,JAT,JAf,JBQ,JBd,JC1,JBy,JBT,JBF,JBO,JBv,JAI,JAt,JBJ,JBK,JBt,JAv,JB8,JB4,JBi,JAl,JAX,JAn,JAW,JAh,JBm,JAi,JBE,JAy,JBX,JAZ,JBk,JAO,JAY,jJ,JAe,JBW,JAq,JBs,JBu,Y0,Yu,JCn,JCy,JCj,JDD,W0,jN,jO,Kp,YT,nx0,nx1,nx2,nx3,nx4,nx5,nx6,nx7,nx8,nx9,JOA,JOH,JNI,JNw,JNP,JOM,JNE,JOV,JPE,JNm,JOJ,JOe,e2,hc,hi,cond_true,cond_false,Bool.not_false,Bool.not_true,Bool.true_and,Bool.false_and,Bool.and_false,Bool.and_true,Bool.or_false,Bool.false_or,beq_self_eq_true,bne_self_eq_false,ho,hm,hd,hE,hS,hs1,hs2]
    simp only [he]
    try rw [← hl]
    try rw [← hy]
    all_goals kernel_rfl
  · unfold Kv
    simp only [jf,jj,jX,QS,JKj,JJ6,ZX,ZW,JCE,Kr,KL,Kh,Ke,KO,JCn,JCy,JCj,JDD,W0,jN,jO,Kp,ZQ,YT,nx0,nx1,nx2,nx3,nx4,nx5,nx6,nx7,nx8,nx9,JOA,JOH,JNI,JNw,JNP,JOM,JNE,JOV,JPE,JNm,JOJ,JOe,e2,hc,hi,cond_true,cond_false,Bool.not_false,Bool.not_true,Bool.true_and,Bool.false_and,Bool.and_false,Bool.and_true,Bool.or_false,Bool.false_or,beq_self_eq_true,bne_self_eq_false,ho,hm,hd,hE,hS,hs1,hs2]
    all_goals kernel_rfl
def Jv7 (x:List GC) (s:St):Int := bif s.cl then 13 else bif inv x s then 1 else bif !s.op && J5 (xi x 0) && xi x 16 != 0 then (bif !JX (J2 x) (xi x 8) (xi x 17) then 14 else 0) else bif !s.op then 0 else bif J5 (xi x 0) && xi x 16 == 0 then (bif !JX (J2 x) (xi s.l 8) (xi s.l 17) || xi s.y 0 == 0 then 14 else bif nE s.l s.y == 0 then (bif shE (f0 s.l s.y) (f1 s.l s.y) false s != 0 then shE (f0 s.l s.y) (f1 s.l s.y) false s else 0) else (bif nE s.l s.y != 0 then nE s.l s.y else 0)) else bif three x then 13 else bif odd x s.l then 13 else bif jM x s.l then (bif Int.ofNat s.C.length == 8 then 10 else 0) else bif xi s.y 0 == 0 then (bif nE s.l x != 0 then nE s.l x else 0) else bif kd s.l s.y x == 2 then (bif trE s.l s.y x == 0 then (bif shE (tr0 s.l s.y x) (tr1 s.l s.y x) true s != 0 then shE (tr0 s.l s.y x) (tr1 s.l s.y x) true s else 0) else (bif trE s.l s.y x != 0 then trE s.l s.y x else 0)) else (bif nE s.l s.y != 0 then nE s.l s.y else bif nE s.l x == 0 then (bif shE (f0 s.l s.y) (f1 s.l s.y) false s != 0 then shE (f0 s.l s.y) (f1 s.l s.y) false s else 0) else (bif nE s.l x != 0 then nE s.l x else 0))
theorem JVr (x:List GC) (s:St) (he:s.er = 0):YU x s = Jv7 x s := by
  unfold YU
  rw [JPw]
  unfold Y0
  rw [he,beq_self_eq_true,cond_true]
  kernel_rfl
theorem q7 {c:Bool} {a b:Int} (ha:a ≠ 0) (h:(bif c then a else b) = 0):c = false ∧ b = 0 := by
  cases c
  · exact ⟨rfl,h⟩
  · exact absurd h ha
theorem Jrs {a:Int} (h:(bif a != 0 then a else 0) = 0):a = 0 := by
  cases ha:(a != 0)
  · simpa using ha
  · rw [ha] at h; exact h
theorem Jj5 {a b:Int} (h:(bif a == 0 then (bif b != 0 then b else 0) else (bif a != 0 then a else 0)) = 0):a = 0 ∧ b = 0 := by
  cases ha:(a == 0)
  · rw [ha] at h
    have := Jrs h
    rw [this] at ha; cases ha
  · rw [ha] at h
    exact ⟨by simpa using ha,Jrs h⟩
theorem Jkm (x:List GC) (s:St) (he:s.er = 0) (h:YU x s = 0):s.cl = false ∧ inv x s = false ∧
    ((s.op = false ∧ (J5 (xi x 0) && xi x 16 != 0) = false) ∨
     (s.op = false ∧ (J5 (xi x 0) && xi x 16 != 0) = true ∧ JX (J2 x) (xi x 8) (xi x 17) = true) ∨
     (s.op = true ∧ (J5 (xi x 0) && xi x 16 == 0) = true ∧ (!JX (J2 x) (xi s.l 8) (xi s.l 17) || xi s.y 0 == 0) = false ∧ nE s.l s.y = 0 ∧ shE (f0 s.l s.y) (f1 s.l s.y) false s = 0) ∨
     (s.op = true ∧ (J5 (xi x 0) && xi x 16 == 0) = false ∧ three x = false ∧ odd x s.l = false ∧
       ((jM x s.l = true ∧ (Int.ofNat s.C.length == 8) = false) ∨
        (jM x s.l = false ∧ (xi s.y 0 == 0) = true ∧ nE s.l x = 0) ∨
        (jM x s.l = false ∧ (xi s.y 0 == 0) = false ∧ (kd s.l s.y x == 2) = true ∧ trE s.l s.y x = 0 ∧ shE (tr0 s.l s.y x) (tr1 s.l s.y x) true s = 0) ∨
        (jM x s.l = false ∧ (xi s.y 0 == 0) = false ∧ (kd s.l s.y x == 2) = false ∧ nE s.l s.y = 0 ∧ nE s.l x = 0 ∧ shE (f0 s.l s.y) (f1 s.l s.y) false s = 0)))) := by
  rw [JVr x s he] at h
  unfold Jv7 at h
  obtain ⟨h1,h⟩ := q7 (by decide) h
  obtain ⟨h2,h⟩ := q7 (by decide) h
  refine ⟨h1,h2,?_⟩
  cases ho:s.op
  · rw [ho] at h
    simp only [Bool.not_false,Bool.true_and,cond_true] at h
    cases hm:(J5 (xi x 0) && xi x 16 != 0)
    · exact .inl ⟨rfl,rfl⟩
    · rw [hm,cond_true] at h
      obtain ⟨h3,_⟩ := q7 (by decide) h
      exact .inr (.inl ⟨rfl,rfl,by simpa using h3⟩)
  · rw [ho] at h
    simp only [Bool.not_true,Bool.false_and,cond_false] at h
    cases hm:(J5 (xi x 0) && xi x 16 == 0)
    · rw [hm,cond_false] at h
      obtain ⟨h3,h⟩ := q7 (by decide) h
      obtain ⟨h4,h⟩ := q7 (by decide) h
      refine .inr (.inr (.inr ⟨rfl,rfl,h3,h4,?_⟩))
      cases hs:jM x s.l
      · rw [hs,cond_false] at h
        cases h0:(xi s.y 0 == 0)
        · rw [h0,cond_false] at h
          cases hk:(kd s.l s.y x == 2)
          · rw [hk,cond_false] at h
            have hn:nE s.l s.y = 0 := by
              cases hn:(nE s.l s.y != 0)
              · simpa using hn
              · rw [hn,cond_true] at h; exact h
            rw [hn,bne_self_eq_false,cond_false] at h
            obtain ⟨h5,h6⟩ := Jj5 h
            exact .inr (.inr (.inr ⟨rfl,rfl,rfl,hn,h5,h6⟩))
          · rw [hk,cond_true] at h
            obtain ⟨h5,h6⟩ := Jj5 h
            exact .inr (.inr (.inl ⟨rfl,rfl,rfl,h5,h6⟩))
        · rw [h0,cond_true] at h
          exact .inr (.inl ⟨rfl,rfl,Jrs h⟩)
      · rw [hs,cond_true] at h
        obtain ⟨h5,_⟩ := q7 (by decide) h
        exact .inl ⟨rfl,h5⟩
    · rw [hm,cond_true] at h
      obtain ⟨h3,h⟩ := q7 (by decide) h
      obtain ⟨h5,h6⟩ := Jj5 h
      exact .inr (.inr (.inl ⟨rfl,rfl,h3,h5,h6⟩))
structure Rt where
  cl:Bool
  op:Bool
  er:Int
  mo:Bool
  en:Bool
  la0:Int
  la1:Int
  la2:Int
  l:List GC
  has:Bool
  y:List GC
  st0:Int
  st1:Int
  tr:Bool
  pn0:Int
  pn1:Int
  C:LL
section
variable (x l y:List GC) (t:Rt)
def rS:Rt:= ⟨(JB3 x t.cl t.op t.er t.mo t.en t.la0 t.la1 t.la2 (J2 t.l) t.has (J2 t.y) t.st0 t.st1 t.tr t.C),(qG x t.cl t.op t.er t.mo t.en t.la0 t.la1 t.la2 (J2 t.l) t.has (J2 t.y) t.st0 t.st1 t.tr t.C),(Wr x t.cl t.op t.er t.mo t.en t.la0 t.la1 t.la2 (J2 t.l) t.has (J2 t.y) t.st0 t.st1 t.tr t.C),(JDi x t.cl t.op t.er t.mo t.en t.la0 t.la1 t.la2 (J2 t.l) t.has (J2 t.y) t.st0 t.st1 t.tr t.C),(JDT x t.cl t.op t.er t.mo t.en t.la0 t.la1 t.la2 (J2 t.l) t.has (J2 t.y) t.st0 t.st1 t.tr t.C),(JDs x t.cl t.op t.er t.mo t.en t.la0 t.la1 t.la2 (J2 t.l) t.has (J2 t.y) t.st0 t.st1 t.tr t.C),(JDf x t.cl t.op t.er t.mo t.en t.la0 t.la1 t.la2 (J2 t.l) t.has (J2 t.y) t.st0 t.st1 t.tr t.C),(JE1 x t.cl t.op t.er t.mo t.en t.la0 t.la1 t.la2 (J2 t.l) t.has (J2 t.y) t.st0 t.st1 t.tr t.C),
 [.i ((qQ x t.cl t.op t.er t.mo t.en t.la0 t.la1 t.la2 (J2 t.l) t.has (J2 t.y) t.st0 t.st1 t.tr t.C)),.i ((km x t.cl t.op t.er t.mo t.en t.la0 t.la1 t.la2 (J2 t.l) t.has (J2 t.y) t.st0 t.st1 t.tr t.C)),.i ((kT x t.cl t.op t.er t.mo t.en t.la0 t.la1 t.la2 (J2 t.l) t.has (J2 t.y) t.st0 t.st1 t.tr t.C)),.i ((qg x t.cl t.op t.er t.mo t.en t.la0 t.la1 t.la2 (J2 t.l) t.has (J2 t.y) t.st0 t.st1 t.tr t.C)),.i ((qq x t.cl t.op t.er t.mo t.en t.la0 t.la1 t.la2 (J2 t.l) t.has (J2 t.y) t.st0 t.st1 t.tr t.C)),.i ((kP x t.cl t.op t.er t.mo t.en t.la0 t.la1 t.la2 (J2 t.l) t.has (J2 t.y) t.st0 t.st1 t.tr t.C)),.i ((kb x t.cl t.op t.er t.mo t.en t.la0 t.la1 t.la2 (J2 t.l) t.has (J2 t.y) t.st0 t.st1 t.tr t.C)),.i ((zZ x t.cl t.op t.er t.mo t.en t.la0 t.la1 t.la2 (J2 t.l) t.has (J2 t.y) t.st0 t.st1 t.tr t.C)),.i ((JA6 x t.cl t.op t.er t.mo t.en t.la0 t.la1 t.la2 (J2 t.l) t.has (J2 t.y) t.st0 t.st1 t.tr t.C)),.i ((kR x t.cl t.op t.er t.mo t.en t.la0 t.la1 t.la2 (J2 t.l) t.has (J2 t.y) t.st0 t.st1 t.tr t.C)),.i ((ky x t.cl t.op t.er t.mo t.en t.la0 t.la1 t.la2 (J2 t.l) t.has (J2 t.y) t.st0 t.st1 t.tr t.C)),.i ((qd x t.cl t.op t.er t.mo t.en t.la0 t.la1 t.la2 (J2 t.l) t.has (J2 t.y) t.st0 t.st1 t.tr t.C)),.i ((zn x t.cl t.op t.er t.mo t.en t.la0 t.la1 t.la2 (J2 t.l) t.has (J2 t.y) t.st0 t.st1 t.tr t.C)),.b ((qR x t.cl t.op t.er t.mo t.en t.la0 t.la1 t.la2 (J2 t.l) t.has (J2 t.y) t.st0 t.st1 t.tr t.C)),.i ((kS x t.cl t.op t.er t.mo t.en t.la0 t.la1 t.la2 (J2 t.l) t.has (J2 t.y) t.st0 t.st1 t.tr t.C)),.b ((qZ x t.cl t.op t.er t.mo t.en t.la0 t.la1 t.la2 (J2 t.l) t.has (J2 t.y) t.st0 t.st1 t.tr t.C)),.i ((ka x t.cl t.op t.er t.mo t.en t.la0 t.la1 t.la2 (J2 t.l) t.has (J2 t.y) t.st0 t.st1 t.tr t.C)),.i ((qx x t.cl t.op t.er t.mo t.en t.la0 t.la1 t.la2 (J2 t.l) t.has (J2 t.y) t.st0 t.st1 t.tr t.C)),.i ((kn x t.cl t.op t.er t.mo t.en t.la0 t.la1 t.la2 (J2 t.l) t.has (J2 t.y) t.st0 t.st1 t.tr t.C)),.i ((kL x t.cl t.op t.er t.mo t.en t.la0 t.la1 t.la2 (J2 t.l) t.has (J2 t.y) t.st0 t.st1 t.tr t.C)),.i ((kV x t.cl t.op t.er t.mo t.en t.la0 t.la1 t.la2 (J2 t.l) t.has (J2 t.y) t.st0 t.st1 t.tr t.C)),.b ((JA5 x t.cl t.op t.er t.mo t.en t.la0 t.la1 t.la2 (J2 t.l) t.has (J2 t.y) t.st0 t.st1 t.tr t.C))],(zX x t.cl t.op t.er t.mo t.en t.la0 t.la1 t.la2 (J2 t.l) t.has (J2 t.y) t.st0 t.st1 t.tr t.C),
 [.i ((qY x t.cl t.op t.er t.mo t.en t.la0 t.la1 t.la2 (J2 t.l) t.has (J2 t.y) t.st0 t.st1 t.tr t.C)),.i ((zM x t.cl t.op t.er t.mo t.en t.la0 t.la1 t.la2 (J2 t.l) t.has (J2 t.y) t.st0 t.st1 t.tr t.C)),.i ((zD x t.cl t.op t.er t.mo t.en t.la0 t.la1 t.la2 (J2 t.l) t.has (J2 t.y) t.st0 t.st1 t.tr t.C)),.i ((zB x t.cl t.op t.er t.mo t.en t.la0 t.la1 t.la2 (J2 t.l) t.has (J2 t.y) t.st0 t.st1 t.tr t.C)),.i ((JA7 x t.cl t.op t.er t.mo t.en t.la0 t.la1 t.la2 (J2 t.l) t.has (J2 t.y) t.st0 t.st1 t.tr t.C)),.i ((qi x t.cl t.op t.er t.mo t.en t.la0 t.la1 t.la2 (J2 t.l) t.has (J2 t.y) t.st0 t.st1 t.tr t.C)),.i ((kX x t.cl t.op t.er t.mo t.en t.la0 t.la1 t.la2 (J2 t.l) t.has (J2 t.y) t.st0 t.st1 t.tr t.C)),.i ((qt x t.cl t.op t.er t.mo t.en t.la0 t.la1 t.la2 (J2 t.l) t.has (J2 t.y) t.st0 t.st1 t.tr t.C)),.i ((ki x t.cl t.op t.er t.mo t.en t.la0 t.la1 t.la2 (J2 t.l) t.has (J2 t.y) t.st0 t.st1 t.tr t.C)),.i ((qM x t.cl t.op t.er t.mo t.en t.la0 t.la1 t.la2 (J2 t.l) t.has (J2 t.y) t.st0 t.st1 t.tr t.C)),.i ((zG x t.cl t.op t.er t.mo t.en t.la0 t.la1 t.la2 (J2 t.l) t.has (J2 t.y) t.st0 t.st1 t.tr t.C)),.i ((qz x t.cl t.op t.er t.mo t.en t.la0 t.la1 t.la2 (J2 t.l) t.has (J2 t.y) t.st0 t.st1 t.tr t.C)),.i ((qe x t.cl t.op t.er t.mo t.en t.la0 t.la1 t.la2 (J2 t.l) t.has (J2 t.y) t.st0 t.st1 t.tr t.C)),.b ((zw x t.cl t.op t.er t.mo t.en t.la0 t.la1 t.la2 (J2 t.l) t.has (J2 t.y) t.st0 t.st1 t.tr t.C)),.i ((qP x t.cl t.op t.er t.mo t.en t.la0 t.la1 t.la2 (J2 t.l) t.has (J2 t.y) t.st0 t.st1 t.tr t.C)),.b ((zP x t.cl t.op t.er t.mo t.en t.la0 t.la1 t.la2 (J2 t.l) t.has (J2 t.y) t.st0 t.st1 t.tr t.C)),.i ((zu x t.cl t.op t.er t.mo t.en t.la0 t.la1 t.la2 (J2 t.l) t.has (J2 t.y) t.st0 t.st1 t.tr t.C)),.i ((zE x t.cl t.op t.er t.mo t.en t.la0 t.la1 t.la2 (J2 t.l) t.has (J2 t.y) t.st0 t.st1 t.tr t.C)),.i ((zi x t.cl t.op t.er t.mo t.en t.la0 t.la1 t.la2 (J2 t.l) t.has (J2 t.y) t.st0 t.st1 t.tr t.C)),.i ((zh x t.cl t.op t.er t.mo t.en t.la0 t.la1 t.la2 (J2 t.l) t.has (J2 t.y) t.st0 t.st1 t.tr t.C)),.i ((zO x t.cl t.op t.er t.mo t.en t.la0 t.la1 t.la2 (J2 t.l) t.has (J2 t.y) t.st0 t.st1 t.tr t.C)),.b ((kg x t.cl t.op t.er t.mo t.en t.la0 t.la1 t.la2 (J2 t.l) t.has (J2 t.y) t.st0 t.st1 t.tr t.C))],(zI x t.cl t.op t.er t.mo t.en t.la0 t.la1 t.la2 (J2 t.l) t.has (J2 t.y) t.st0 t.st1 t.tr t.C),(zW x t.cl t.op t.er t.mo t.en t.la0 t.la1 t.la2 (J2 t.l) t.has (J2 t.y) t.st0 t.st1 t.tr t.C),(zY x t.cl t.op t.er t.mo t.en t.la0 t.la1 t.la2 (J2 t.l) t.has (J2 t.y) t.st0 t.st1 t.tr t.C),(qN x t.cl t.op t.er t.mo t.en t.la0 t.la1 t.la2 (J2 t.l) t.has (J2 t.y) t.st0 t.st1 t.tr t.pn0 t.C),(kA x t.cl t.op t.er t.mo t.en t.la0 t.la1 t.la2 (J2 t.l) t.has (J2 t.y) t.st0 t.st1 t.tr t.pn1 t.C),(YB x t.cl t.op t.er t.mo t.en t.la0 t.la1 t.la2 (J2 t.l) t.has (J2 t.y) t.st0 t.st1 t.tr t.C)⟩
def rO:LL:= (KJ x t.cl t.op t.er t.mo t.en t.la0 t.la1 t.la2 (J2 t.l) t.has (J2 t.y) t.st0 t.st1 t.tr t.C)
def rE:Int:= (Z0 x t.cl t.op t.er t.mo t.en t.la0 t.la1 t.la2 (J2 t.l) t.has (J2 t.y) t.st0 t.st1 t.tr t.C)
def JJf:Bool:= !Qt (J2 x) || t.en || J5 (xi x 0) && t.mo && !(xi x 2 == t.la0 && (xi x 3 == t.la1 && xi x 4 == t.la2))
def JIZ:Rt:= { t with en := xi x 0 == 14,mo := J5 (xi x 0) || t.mo,la0 := bif J5 (xi x 0) then xi x 5 else t.la0,la1 := bif J5 (xi x 0) then xi x 6 else t.la1,la2 := bif J5 (xi x 0) then xi x 7 else t.la2 }
def JuY:Int:= bif Jw x l y == 2 then JDO (J3 (xi l 8) (xi y 2) (xi y 3) (xi y 4)) (J4 (xi l 8) (xi y 2) (xi y 3) (xi y 4)) (J3 (xi l 8) (xi y 5) (xi y 6) (xi y 7)) (J4 (xi l 8) (xi y 5) (xi y 6) (xi y 7)) (JL (xi l 8) (J2 y)) (JM (xi l 8) (J2 y)) (JJ (J2 y)) (QI (J2 y)) (J3 (xi l 8) (xi x 2) (xi x 3) (xi x 4)) (J4 (xi l 8) (xi x 2) (xi x 3) (xi x 4)) (J3 (xi l 8) (xi x 5) (xi x 6) (xi x 7)) (J4 (xi l 8) (xi x 5) (xi x 6) (xi x 7)) (JL (xi l 8) (J2 x)) (JM (xi l 8) (J2 x)) (JJ (J2 x)) (QI (J2 x)) (JO (J2 l)) else bif Yg l y == 0 then Qb (J3 (xi l 8) (xi x 2) (xi x 3) (xi x 4)) (J4 (xi l 8) (xi x 2) (xi x 3) (xi x 4)) (J3 (xi l 8) (xi x 5) (xi x 6) (xi x 7)) (J4 (xi l 8) (xi x 5) (xi x 6) (xi x 7)) (JL (xi l 8) (J2 x)) (JM (xi l 8) (J2 x)) (JJ (J2 x)) (JO (J2 l)) else Yg l y
end
theorem Jcr (x l y:List GC):JZ2 x l y = JuY x l y := by kernel_rfl
theorem JfN (x l y:List GC) (a b:Int) (c:Bool):JZJ x l y a b c = Q0 (Xs x l y) (Xv x l y) (Jw x l y == 2) (J2 l) (J2 y) a b c := by kernel_rfl
def Jwi (l:List GC) (u0 u1 v0 v1:Int):List Int := [xi l 0,xi l 1,JP (xi l 8) u0 u1 (J9 (xi l 8) (xi l 2) (xi l 3) (xi l 4)), JQ (xi l 8) u0 u1 (J9 (xi l 8) (xi l 2) (xi l 3) (xi l 4)), JR (xi l 8) u0 u1 (J9 (xi l 8) (xi l 2) (xi l 3) (xi l 4)), JP (xi l 8) v0 v1 (J9 (xi l 8) (xi l 5) (xi l 6) (xi l 7)),JQ (xi l 8) v0 v1 (J9 (xi l 8) (xi l 5) (xi l 6) (xi l 7)), JR (xi l 8) v0 v1 (J9 (xi l 8) (xi l 5) (xi l 6) (xi l 7)),Ki l, XL l u0 u1 l, XO l u0 u1 l, XS l u0 u1 l,xi l 12,bif xb l 13 then 1 else 0,xi l 14,bif xb l 15 then 1 else 0,0,0, xi l 18,xi l 19,xi l 20,bif xb l 21 then 1 else 0]
def Jqq (x l:List GC) (u0 u1:Int):List Int := [xi x 0,xi x 1,JP (xi l 8) u0 u1 (J9 (xi l 8) (xi x 2) (xi x 3) (xi x 4)), JQ (xi l 8) u0 u1 (J9 (xi l 8) (xi x 2) (xi x 3) (xi x 4)),JR (xi l 8) u0 u1 (J9 (xi l 8) (xi x 2) (xi x 3) (xi x 4)), xi x 5,xi x 6,xi x 7,xi x 8,xi x 9,xi x 10,xi x 11,xi x 12,bif xb x 13 then 1 else 0,xi x 14,bif xb x 15 then 1 else 0,xi x 16,xi x 17,xi x 18,xi x 19,xi x 20, bif xb x 21 then 1 else 0]
theorem JiV (x:List GC) (t:Rt) (hx:J2 x = x) (he:t.er = 0) (hl:J2 t.l = t.l) (hy:J2 t.y = t.y) (hc:t.cl = false) (hi:JJf x t = false) (ho:t.op = false) (hm:(!J5 (xi x 0) || xi x 16 == 0) = true) :
    rE x t = 0 ∧ rS x t = JIZ x t ∧ rO x t = [JI2 x] := by
  unfold JJf at hi
  have e2:(t.er != 0) = false := by rw [he]; rfl
  rw [hx] at hi
  have hE:rE x t = 0 := by
    unfold rE
    simp only [QC,Za,QF,Zf,QG,QE,Q9,Z3,Z0,hx,hl,hy,e2,hc,hi,cond_true,cond_false,Bool.not_false,Bool.not_true,Bool.true_and,Bool.false_and,Bool.and_false,Bool.and_true,Bool.or_false,Bool.false_or,beq_self_eq_true,bne_self_eq_false,Bool.and_self,Bool.or_self,ho,hm]
  refine ⟨hE,?_,?_⟩
  · unfold rS JIZ
    simp only [QC,Za,QF,Zf,QG,QE,Q9,YV,JDo,JE5,JDq,JED,JDu,JEO,JDQ,JDb,z9,zf,JA2,qk,qm,qL,kq,zL,kY,kJ,ke,zj,qr,z5,zq,qT,zQ,kr,zm,kW,JA3,qh,kO,qX,kf,zy,kH,kK,qV,kF,kx,kQ,kc,zN,qv,zH,qp,qS,kI,kM,JA0,kp,qf,ze,qW,qO,zp,qy,WJ,Z3,Z0,KJ,JB3,qG,Wr,JDi,JDT,JDs,JDf,JE1,qQ,km,kT,qg,qq,kP,kb,zZ,JA6,kR,ky,qd,zn,qR,kS,qZ,ka,qx,kn,kL,kV,JA5,zX,qY,zM,zD,zB,JA7,qi,kX,qt,ki,qM,zG,qz,qe,zw,qP,zP,zu,zE,zi,zh,zO,kg,zI,zW,zY,qN,kA,YB,hx,hl,hy,e2,hc,hi,cond_true,cond_false,Bool.not_false,Bool.not_true,Bool.true_and,Bool.false_and,Bool.and_false,Bool.and_true,Bool.or_false,Bool.false_or,beq_self_eq_true,bne_self_eq_false,Bool.and_self,Bool.or_self,ho,hm]
    try simp only [he]
    try rw [← hl]
    try rw [← hy]
    try rw [← hx]
    all_goals kernel_rfl
  · unfold rO
    simp only [QC,Za,QF,Zf,QG,QE,Q9,Z3,Z0,YV,KJ,hx,hl,hy,e2,hc,hi,cond_true,cond_false,Bool.not_false,Bool.not_true,Bool.true_and,Bool.false_and,Bool.and_false,Bool.and_true,Bool.or_false,Bool.false_or,beq_self_eq_true,bne_self_eq_false,Bool.and_self,Bool.or_self,ho,hm]
    all_goals kernel_rfl
theorem JhI (x:List GC) (t:Rt) (hx:J2 x = x) (he:t.er = 0) (hl:J2 t.l = t.l) (hy:J2 t.y = t.y) (hc:t.cl = false) (hi:JJf x t = false) (ho:t.op = false) (hm:(!J5 (xi x 0) || xi x 16 == 0) = false) (hd:ZO (xi x 8) (xi x 17) x = true) :
    rE x t = 0 ∧ rS x t = { JIZ x t with l := x,op := true,has := false,C := [] } ∧ rO x t = [] := by
  unfold JJf at hi
  have e2:(t.er != 0) = false := by rw [he]; rfl
  rw [hx] at hi
  have hE:rE x t = 0 := by
    unfold rE
    simp only [QC,Za,QF,Zf,QG,QE,Q9,Z3,Z0,hx,hl,hy,e2,hc,hi,cond_true,cond_false,Bool.not_false,Bool.not_true,Bool.true_and,Bool.false_and,Bool.and_false,Bool.and_true,Bool.or_false,Bool.false_or,beq_self_eq_true,bne_self_eq_false,Bool.and_self,Bool.or_self,ho,hm,hd]
  refine ⟨hE,?_,?_⟩
  · unfold rS JIZ
    simp only [QC,Za,QF,Zf,QG,QE,Q9,YV,JDo,JE5,JDq,JED,JDu,JEO,JDQ,JDb,z9,zf,JA2,qk,qm,qL,kq,zL,kY,kJ,ke,zj,qr,z5,zq,qT,zQ,kr,zm,kW,JA3,qh,kO,qX,kf,zy,kH,kK,qV,kF,kx,kQ,kc,zN,qv,zH,qp,qS,kI,kM,JA0,kp,qf,ze,qW,qO,zp,qy,WJ,Z3,Z0,KJ,JB3,qG,Wr,JDi,JDT,JDs,JDf,JE1,qQ,km,kT,qg,qq,kP,kb,zZ,JA6,kR,ky,qd,zn,qR,kS,qZ,ka,qx,kn,kL,kV,JA5,zX,qY,zM,zD,zB,JA7,qi,kX,qt,ki,qM,zG,qz,qe,zw,qP,zP,zu,zE,zi,zh,zO,kg,zI,zW,zY,qN,kA,YB,hx,hl,hy,e2,hc,hi,cond_true,cond_false,Bool.not_false,Bool.not_true,Bool.true_and,Bool.false_and,Bool.and_false,Bool.and_true,Bool.or_false,Bool.false_or,beq_self_eq_true,bne_self_eq_false,Bool.and_self,Bool.or_self,ho,hm,hd]
    try simp only [he]
    try rw [← hl]
    try rw [← hy]
    try rw [← hx]
    all_goals kernel_rfl
  · unfold rO
    simp only [QC,Za,QF,Zf,QG,QE,Q9,Z3,Z0,YV,KJ,hx,hl,hy,e2,hc,hi,cond_true,cond_false,Bool.not_false,Bool.not_true,Bool.true_and,Bool.false_and,Bool.and_false,Bool.and_true,Bool.or_false,Bool.false_or,beq_self_eq_true,bne_self_eq_false,Bool.and_self,Bool.or_self,ho,hm,hd]
    all_goals kernel_rfl
theorem Jhi (x:List GC) (t:Rt) (hx:J2 x = x) (he:t.er = 0) (hl:J2 t.l = t.l) (hy:J2 t.y = t.y) (hc:t.cl = false) (hi:JJf x t = false) (ho:t.op = true) (hm:(J5 (xi x 0) && xi x 16 == 0) = false) (h3:(xi x 0 == 1 || xi x 0 == 11 || xi x 0 == 14 || J5 (xi x 0) && (xi x 8 != xi t.l 8 || xi x 16 != xi t.l 16 || xi x 17 != xi t.l 17)) = false) (hs:(!J5 (xi x 0) || !ZL (xi t.l 8) x) = true) (hn:(Int.ofNat t.C.length == 8) = false) :
    rE x t = 0 ∧ rS x t = { JIZ x t with C := t.C ++ [JI2 x] } ∧ rO x t = [] := by
  unfold JJf at hi
  have e2:(t.er != 0) = false := by rw [he]; rfl
  rw [hx] at hi
  have hE:rE x t = 0 := by
    unfold rE
    simp only [QC,Za,QF,Zf,QG,QE,Q9,Z3,Z0,hx,hl,hy,e2,hc,hi,cond_true,cond_false,Bool.not_false,Bool.not_true,Bool.true_and,Bool.false_and,Bool.and_false,Bool.and_true,Bool.or_false,Bool.false_or,beq_self_eq_true,bne_self_eq_false,Bool.and_self,Bool.or_self,ho,hm,h3,hs,hn]
  refine ⟨hE,?_,?_⟩
  · unfold rS JIZ
    simp only [QC,Za,QF,Zf,QG,QE,Q9,YV,JDo,JE5,JDq,JED,JDu,JEO,JDQ,JDb,z9,zf,JA2,qk,qm,qL,kq,zL,kY,kJ,ke,zj,qr,z5,zq,qT,zQ,kr,zm,kW,JA3,qh,kO,qX,kf,zy,kH,kK,qV,kF,kx,kQ,kc,zN,qv,zH,qp,qS,kI,kM,JA0,kp,qf,ze,qW,qO,zp,qy,WJ,Z3,Z0,KJ,JB3,qG,Wr,JDi,JDT,JDs,JDf,JE1,qQ,km,kT,qg,qq,kP,kb,zZ,JA6,kR,ky,qd,zn,qR,kS,qZ,ka,qx,kn,kL,kV,JA5,zX,qY,zM,zD,zB,JA7,qi,kX,qt,ki,qM,zG,qz,qe,zw,qP,zP,zu,zE,zi,zh,zO,kg,zI,zW,zY,qN,kA,YB,hx,hl,hy,e2,hc,hi,cond_true,cond_false,Bool.not_false,Bool.not_true,Bool.true_and,Bool.false_and,Bool.and_false,Bool.and_true,Bool.or_false,Bool.false_or,beq_self_eq_true,bne_self_eq_false,Bool.and_self,Bool.or_self,ho,hm,h3,hs,hn]
    try simp only [he]
    try rw [← hl]
    try rw [← hy]
    try rw [← hx]
    all_goals kernel_rfl
  · unfold rO
    simp only [QC,Za,QF,Zf,QG,QE,Q9,Z3,Z0,YV,KJ,hx,hl,hy,e2,hc,hi,cond_true,cond_false,Bool.not_false,Bool.not_true,Bool.true_and,Bool.false_and,Bool.and_false,Bool.and_true,Bool.or_false,Bool.false_or,beq_self_eq_true,bne_self_eq_false,Bool.and_self,Bool.or_self,ho,hm,h3,hs,hn]
    all_goals kernel_rfl
theorem Jg0 (x:List GC) (t:Rt) (hx:J2 x = x) (he:t.er = 0) (hl:J2 t.l = t.l) (hy:J2 t.y = t.y) (hc:t.cl = false) (hi:JJf x t = false) (ho:t.op = true) (hm:(J5 (xi x 0) && xi x 16 == 0) = false) (h3:(xi x 0 == 1 || xi x 0 == 11 || xi x 0 == 14 || J5 (xi x 0) && (xi x 8 != xi t.l 8 || xi x 16 != xi t.l 16 || xi x 17 != xi t.l 17)) = false) (hs:(!J5 (xi x 0) || !ZL (xi t.l 8) x) = false) (h0:t.has = false) (hE0:Wi x t.l = 0) :
    rE x t = 0 ∧ rS x t = { JIZ x t with has := true,y := x,st0 := Ys x t.l,st1 := Yv x t.l,tr := false,pn0 := Ys x t.l,pn1 := Yv x t.l,C := [] } ∧ rO x t = Jwi t.l (J3 (xi t.l 8) (xi t.l 2) (xi t.l 3) (xi t.l 4)) (J4 (xi t.l 8) (xi t.l 2) (xi t.l 3) (xi t.l 4)) (Ys x t.l) (Yv x t.l) :: ZC (J2 t.l) (Ys x t.l) (Yv x t.l) t.C := by
  unfold JJf at hi
  have e2:(t.er != 0) = false := by rw [he]; rfl
  rw [hx] at hi
  unfold Wi at hE0
  rw [hx,hl] at hE0
  have hE:rE x t = 0 := by
    unfold rE
    simp only [Qx,JC9,QC,Za,QF,Zf,QG,QE,JCc,Q9,Z3,Z0,hx,hl,hy,e2,hc,hi,cond_true,cond_false,Bool.not_false,Bool.not_true,Bool.true_and,Bool.false_and,Bool.and_false,Bool.and_true,Bool.or_false,Bool.false_or,beq_self_eq_true,bne_self_eq_false,Bool.and_self,Bool.or_self,ho,hm,h3,hs,h0,hE0,Wi]
  refine ⟨hE,?_,?_⟩
  · unfold rS JIZ
    simp only [Qx,JC9,QC,Za,QF,Zf,QG,QE,JCc,JOh,JPR,JRj,JRL,JSb,JSF,JSZ,JSL,JPy,JRx,JPL,JPQ,JRo,JPs,JPN,JQ8,JQ0,JRQ,JPg,JPc,JRW,JRM,JQD,JPh,JGO,JG7,JQ6,JFe,Q9,YV,JDo,JE5,JDq,JED,JDu,JEO,JDQ,JDb,z9,zf,JA2,qk,qm,qL,kq,zL,kY,kJ,ke,zj,qr,z5,zq,qT,zQ,kr,zm,kW,JA3,qh,kO,qX,kf,zy,kH,kK,qV,kF,kx,kQ,kc,zN,qv,zH,qp,qS,kI,kM,JA0,kp,qf,ze,qW,qO,zp,qy,WJ,Z3,Z0,KJ,JB3,qG,Wr,JDi,JDT,JDs,JDf,JE1,qQ,km,kT,qg,qq,kP,kb,zZ,JA6,kR,ky,qd,zn,qR,kS,qZ,ka,qx,kn,kL,kV,JA5,zX,qY,zM,zD,zB,JA7,qi,kX,qt,ki,qM,zG,qz,qe,zw,qP,zP,zu,zE,zi,zh,zO,kg,zI,zW,zY,qN,kA,YB,hx,hl,hy,e2,hc,hi,cond_true,cond_false,Bool.not_false,Bool.not_true,Bool.true_and,Bool.false_and,Bool.and_false,Bool.and_true,Bool.or_false,Bool.false_or,beq_self_eq_true,bne_self_eq_false,Bool.and_self,Bool.or_self,ho,hm,h3,hs,h0,hE0,Wi]
    try simp only [he]
    try rw [← hl]
    try rw [← hy]
    try rw [← hx]
    all_goals kernel_rfl
  · unfold rO
    simp only [Qx,JC9,QC,Za,QF,Zf,QG,QE,JCc,Q9,Z3,Z0,JOh,YV,KJ,hx,hl,hy,e2,hc,hi,cond_true,cond_false,Bool.not_false,Bool.not_true,Bool.true_and,Bool.false_and,Bool.and_false,Bool.and_true,Bool.or_false,Bool.false_or,beq_self_eq_true,bne_self_eq_false,Bool.and_self,Bool.or_self,ho,hm,h3,hs,h0,hE0,Wi]
    all_goals kernel_rfl
theorem JYU (x:List GC) (t:Rt) (hx:J2 x = x) (he:t.er = 0) (hl:J2 t.l = t.l) (hy:J2 t.y = t.y) (hc:t.cl = false) (hi:JJf x t = false) (ho:t.op = true) (hm:(J5 (xi x 0) && xi x 16 == 0) = false) (h3:(xi x 0 == 1 || xi x 0 == 11 || xi x 0 == 14 || J5 (xi x 0) && (xi x 8 != xi t.l 8 || xi x 16 != xi t.l 16 || xi x 17 != xi t.l 17)) = false) (hs:(!J5 (xi x 0) || !ZL (xi t.l 8) x) = false) (h0:t.has = true) (hb:JuY x t.l t.y = 0) (hg:Q0 (Xs x t.l t.y) (Xv x t.l t.y) (Jw x t.l t.y == 2) t.l t.y t.st0 t.st1 t.tr = 0) :
    rE x t = 0 ∧ rS x t = { JIZ x t with y := x,st0 := zR x t.l t.y,st1 := kw x t.l t.y,tr := Jw x t.l t.y == 2,pn0 := zR x t.l t.y,pn1 := kw x t.l t.y,C := [] } ∧ rO x t = bif Jw x t.l t.y != 2 then JG3 x t.l t.y t.st0 t.st1 t.tr t.C ++ Wa x (Xs x t.l t.y) (Xv x t.l t.y) (zR x t.l t.y) (kw x t.l t.y) (Jw x t.l t.y == 1) t.l else JG3 x t.l t.y t.st0 t.st1 t.tr t.C := by
  unfold JJf at hi
  have e2:(t.er != 0) = false := by rw [he]; rfl
  rw [hx] at hi
  have hb0 := hb
  have hg1 := hg
  simp only [Xs,Xv,hx,hl,hy] at hg1
  unfold JuY at hb
  rw [hx,hl,hy] at hb
  have hE:rE x t = 0 := by
    unfold rE
    simp only [JLJ,JLO,JAF,JTf,JU7,JEF,JDW,ZM,JFd,JTM,QC,Za,QF,Zf,QG,QE,JGn,Q9,Z3,Z0,hx,hl,hy,e2,hc,hi,cond_true,cond_false,Bool.not_false,Bool.not_true,Bool.true_and,Bool.false_and,Bool.and_false,Bool.and_true,Bool.or_false,Bool.false_or,beq_self_eq_true,bne_self_eq_false,Bool.and_self,Bool.or_self,ho,hm,h3,hs,h0,hb0,hg,Jcr,JfN]
  refine ⟨hE,?_,?_⟩
  · unfold rS JIZ
    simp only [JLJ,JLO,JAF,JTf,JU7,JEF,JDW,ZM,JFd,JTM,QC,Za,QF,Zf,QG,QE,JGn,JV3,JZb,JWE,JaO,JVX,JZT,JWn,JVu,JYY,JZ3,JXo,JXu,JZn,JXP,JWJ,JYw,JWY,JWR,JZG,JXr,JYa,JWj,JXJ,JWs,JVY,JXQ,JWw,JaV,JJ0,Q9,YV,JDo,JE5,JDq,JED,JDu,JEO,JDQ,JDb,z9,zf,JA2,qk,qm,qL,kq,zL,kY,kJ,ke,zj,qr,z5,zq,qT,zQ,kr,zm,kW,JA3,qh,kO,qX,kf,zy,kH,kK,qV,kF,kx,kQ,kc,zN,qv,zH,qp,qS,kI,kM,JA0,kp,qf,ze,qW,qO,zp,qy,WJ,Z3,Z0,KJ,JB3,qG,Wr,JDi,JDT,JDs,JDf,JE1,qQ,km,kT,qg,qq,kP,kb,zZ,JA6,kR,ky,qd,zn,qR,kS,qZ,ka,qx,kn,kL,kV,JA5,zX,qY,zM,zD,zB,JA7,qi,kX,qt,ki,qM,zG,qz,qe,zw,qP,zP,zu,zE,zi,zh,zO,kg,zI,zW,zY,qN,kA,YB,hx,hl,hy,e2,hc,hi,cond_true,cond_false,Bool.not_false,Bool.not_true,Bool.true_and,Bool.false_and,Bool.and_false,Bool.and_true,Bool.or_false,Bool.false_or,beq_self_eq_true,bne_self_eq_false,Bool.and_self,Bool.or_self,ho,hm,h3,hs,h0,hb,hb0,hg,hg1,Jcr,JfN,Bool.cond_self]
    try simp only [he]
    try rw [← hl]
    try rw [← hy]
    try rw [← hx]
    all_goals kernel_rfl
  · unfold rO
    simp only [JLJ,JLO,JAF,JTf,JU7,JEF,JDW,ZM,JFd,JTM,QC,Za,QF,Zf,QG,QE,JGn,Q9,Z3,Z0,JV3,YV,KJ,hx,hl,hy,e2,hc,hi,cond_true,cond_false,Bool.not_false,Bool.not_true,Bool.true_and,Bool.false_and,Bool.and_false,Bool.and_true,Bool.or_false,Bool.false_or,beq_self_eq_true,bne_self_eq_false,Bool.and_self,Bool.or_self,ho,hm,h3,hs,h0,hb,hb0,hg,hg1,Jcr,JfN,Bool.cond_self]
    all_goals kernel_rfl
theorem Jhr (x:List GC) (t:Rt) (hx:J2 x = x) (he:t.er = 0) (hl:J2 t.l = t.l) (hy:J2 t.y = t.y) (hc:t.cl = false) (hi:JJf x t = false) (ho:t.op = true) (hm:(J5 (xi x 0) && xi x 16 == 0) = true) (hd:(!ZO (xi t.l 8) (xi t.l 17) x || !t.has) = false) (hb:Wd t.l t.y = 0) (hg:Q0 (QW t.l t.y) (QX t.l t.y) false t.l t.y t.st0 t.st1 t.tr = 0) :
    rE x t = 0 ∧ rS x t = { JIZ x t with op := false,has := false,pn0 := QW t.l t.y,pn1 := QX t.l t.y,C := [] } ∧ rO x t = ZR (QW t.l t.y) (QX t.l t.y) false t.l t.y t.st0 t.st1 t.tr ++ ZC t.l (QW t.l t.y) (QX t.l t.y) t.C ++ [Jqq x t.l (QW t.l t.y) (QX t.l t.y)] := by
  unfold JJf at hi
  have e2:(t.er != 0) = false := by rw [he]; rfl
  rw [hx] at hi
  unfold Wd at hb
  rw [hl,hy] at hb
  have hg1 := hg
  simp only [QW,QX,hl,hy] at hg1
  have hE:rE x t = 0 := by
    unfold rE
    simp only [JLJ,JLO,JAF,JTf,JU7,JEF,JDW,JTM,QC,Za,QF,Zf,QG,QE,JCf,Q9,Z3,Z0,hx,hl,hy,e2,hc,hi,cond_true,cond_false,Bool.not_false,Bool.not_true,Bool.true_and,Bool.false_and,Bool.and_false,Bool.and_true,Bool.or_false,Bool.false_or,beq_self_eq_true,bne_self_eq_false,Bool.and_self,Bool.or_self,ho,hm,hd,hb,hg1,Wd,JCG,QW,QX]
  refine ⟨hE,?_,?_⟩
  · unfold rS JIZ
    simp only [JLJ,JLO,JAF,JTf,JU7,JEF,JDW,JTM,QC,Za,QF,Zf,QG,QE,JCf,JOs,JWc,JPk,JSU,JQN,JFV,Q9,YV,JDo,JE5,JDq,JED,JDu,JEO,JDQ,JDb,z9,zf,JA2,qk,qm,qL,kq,zL,kY,kJ,ke,zj,qr,z5,zq,qT,zQ,kr,zm,kW,JA3,qh,kO,qX,kf,zy,kH,kK,qV,kF,kx,kQ,kc,zN,qv,zH,qp,qS,kI,kM,JA0,kp,qf,ze,qW,qO,zp,qy,WJ,Z3,Z0,KJ,JB3,qG,Wr,JDi,JDT,JDs,JDf,JE1,qQ,km,kT,qg,qq,kP,kb,zZ,JA6,kR,ky,qd,zn,qR,kS,qZ,ka,qx,kn,kL,kV,JA5,zX,qY,zM,zD,zB,JA7,qi,kX,qt,ki,qM,zG,qz,qe,zw,qP,zP,zu,zE,zi,zh,zO,kg,zI,zW,zY,qN,kA,YB,hx,hl,hy,e2,hc,hi,cond_true,cond_false,Bool.not_false,Bool.not_true,Bool.true_and,Bool.false_and,Bool.and_false,Bool.and_true,Bool.or_false,Bool.false_or,beq_self_eq_true,bne_self_eq_false,Bool.and_self,Bool.or_self,ho,hm,hd,hb,hg1,Wd,JCG,QW,QX]
    try simp only [he]
    try rw [← hl]
    try rw [← hy]
    try rw [← hx]
    all_goals kernel_rfl
  · unfold rO
    simp only [JLJ,JLO,JAF,JTf,JU7,JEF,JDW,JTM,QC,Za,QF,Zf,QG,QE,JCf,Q9,Z3,Z0,JOs,YV,KJ,hx,hl,hy,e2,hc,hi,cond_true,cond_false,Bool.not_false,Bool.not_true,Bool.true_and,Bool.false_and,Bool.and_false,Bool.and_true,Bool.or_false,Bool.false_or,beq_self_eq_true,bne_self_eq_false,Bool.and_self,Bool.or_self,ho,hm,hd,hb,hg1,Wd,JCG,QW,QX]
    all_goals kernel_rfl
theorem JNt {a b n:Int} (ha:XY a) (hb:XY b):Xn a b n 2 = jF a b n 2 := by
  by_cases h:J6 a ≤ 2147483648 ∧ J6 b ≤ 2147483648 ∧ 1 ≤ n ∧ n ≤ 4611686018427387904
  · exact JpK ha hb h.1 h.2.1 h.2.2
  · have hc:(decide (J6 a > 2147483648) || decide (J6 b > 2147483648) || decide (n < 1) || decide (n > 4611686018427387904) || !((2:Int) == 0 || (2:Int) == 1 || (2:Int) == 2)) = true := by
      by_cases h1:J6 a > 2147483648
      · rw [decide_eq_true h1]; rfl
      · by_cases h2:J6 b > 2147483648
        · rw [decide_eq_true h2,decide_eq_false h1]; rfl
        · by_cases h3:n < 1
          · rw [decide_eq_true h3,decide_eq_false h1,decide_eq_false h2]; rfl
          · rw [decide_eq_true (show n > 4611686018427387904 by omega)]; simp
    unfold Xn jF
    rw [hc,cond_true,cond_true]
theorem Jt4 (a b n:Int) (hn:n < 1):Xn a b n 2 = 0 := by
  have hc:(decide (J6 a > 2147483648) || decide (J6 b > 2147483648) || decide (n < 1) || decide (n > 4611686018427387904) || !((2:Int) == 0 || (2:Int) == 1 || (2:Int) == 2)) = true := by
    rw [decide_eq_true hn]; simp
  unfold Xn
  rw [hc,cond_true]
theorem Jom (a b:Int):Xn a b 0 2 = 0 := Jt4 a b 0 (by omega)
theorem JSn (p0 p1 t0 t1 r:Int):XH p0 p1 t0 t1 r = Zr p0 p1 t0 t1 r ∧ XJ p0 p1 t0 t1 r = Zn p0 p1 t0 t1 r ∧ JK3 p0 p1 t0 t1 r = JKv p0 p1 t0 t1 r := by
  unfold XH XJ JK3 Zr Zn JKv
  rw [JhR]
  cases hc:(t0 == 0 && t1 == 0 || !Ja t0 4194304 || !Ja t1 4194304 || !Ja p0 1048576 || !Ja p1 1048576 || !Ja r 32768)
  · obtain ⟨h0,h1,h2,h3,h4,h5⟩ := Jjg hc
    have i0:XY t0 := ⟨by omega,by omega⟩
    have ir:XY r := ⟨by omega,by omega⟩
    rw [JNt (a := IntKind.i64.wrap (0 - t1)) (Jk _) ir,JNt i0 ir]
    unfold JI
    simp only [cond_false,and_self,Bool.not_false]
  · simp only [cond_true,and_self]
theorem JiK (a b c d s:Int):JC4 a b c d s = JCJ a b c d s := by
  unfold JC4 JCJ
  have e:(bif JHj a b c d s then JHj a b c d s else decide (JE a b c d < 0) && decide (s < 0)) = (decide (JE a b c d > 0) && decide (s > 0) || decide (JE a b c d < 0) && decide (s < 0)) := by
    show (bif (decide (JE a b c d > 0) && decide (s > 0)) then (decide (JE a b c d > 0) && decide (s > 0)) else _) = _
    cases (decide (JE a b c d > 0) && decide (s > 0)) <;> rfl
  rw [e]
theorem JtW (a c:Int):IntKind.i64.wrap (IntKind.i64.wrap (0 - a) - c) = IntKind.i64.wrap (0 - IntKind.i64.wrap (a + c)) := by
  unfold IntKind.wrap
  simp only [IntKind.bits,IntKind.signed]
  simp
  omega
theorem Jsq (a b c d i:Int):QQ a b c d i = X5 a b c d i ∧ QO a b c d i = X0 a b c d i := by
  unfold QQ QO X5 X0 Ko
  rw [JtW,JtW]
  by_cases h1:J8 a b c d > 0
  · rw [decide_eq_true h1]
    by_cases h2:IntKind.i64.wrap (JE a b c d * i) > 0
    · rw [decide_eq_true h2,decide_eq_false (show ¬ IntKind.i64.wrap (JE a b c d * i) ≤ 0 by omega)]
      exact ⟨rfl,rfl⟩
    · rw [decide_eq_false h2,decide_eq_true (show IntKind.i64.wrap (JE a b c d * i) ≤ 0 by omega)]
      exact ⟨rfl,rfl⟩
  · rw [decide_eq_false h1]
    exact ⟨rfl,rfl⟩
theorem Jrn (a b c d i:Int):XY (QQ a b c d i) ∧ XY (QO a b c d i) := by
  constructor
  · unfold QQ
    cases (Ko a b c d && decide (IntKind.i64.wrap (JE a b c d * i) > 0)) <;> cases Ko a b c d <;> exact Jk _
  · unfold QO
    cases (Ko a b c d && decide (IntKind.i64.wrap (JE a b c d * i) > 0)) <;> cases Ko a b c d <;> exact Jk _
theorem JcB (a b c d i:Int) {s:Int} (hs:XY s):oH0 a b c d i s = JK5 a b c d i s ∧ oH1 a b c d i s = JKa a b c d i s := by
  obtain ⟨e1,e2⟩ := Jsq a b c d i
  obtain ⟨i1,i2⟩ := Jrn a b c d i
  unfold oH0 oH1 JK5 JKa
  rw [← e1,← e2]
  generalize QQ a b c d i = u at *
  generalize QO a b c d i = v at *
  by_cases h:u = 0 ∧ v = 0
  · obtain ⟨rfl,rfl⟩ := h
    have e:J8 0 0 0 0 = 0 := rfl
    rw [e,Jom]
    exact ⟨rfl,rfl⟩
  · have e:(u == 0 && v == 0) = false := by
      rw [Bool.and_eq_false_iff,beq_eq_false_iff_ne,beq_eq_false_iff_ne]; omega
    rw [e,JNt i1 hs,JNt i2 hs]
    exact ⟨rfl,rfl⟩
theorem JwT (x:Int):∃ p:Int,0 ≤ p ∧ (x = p ∨ x = -p) ∧ (0 ≤ x → p = x) ∧ p * p = x * x := by
  by_cases h:x < 0
  · exact ⟨-x,by omega,by omega,by omega,Int.neg_mul_neg _ _⟩
  · exact ⟨x,by omega,by omega,by omega,rfl⟩
abbrev b9 (x:Int):Prop := bd 1000000000 x
abbrev Jv0 (d:Int):Prop := d = 0 ∨ d = 1 ∨ d = -1
structure EP (e0 e1 e2 e3 e4 e5 e6:Int):Prop where
  c0:bd 1048576 e0
  c1:bd 1048576 e1
  c2:bd 1048576 e2
  c3:bd 1048576 e3
  c4:bd 1048576 e4
  c5:bd 1048576 e5
  dir:e6 = 0 ∨ e6 = 1 ∨ e6 = -1
  s1:e6 ≠ 0 → e0 - e4 ≠ 0 ∨ e1 - e5 ≠ 0
  s2:e6 ≠ 0 → e2 - e4 ≠ 0 ∨ e3 - e5 ≠ 0
theorem WY {d:Int} (hd:Jv0 d) (r:Int):YN d r = K7 d r := by
  unfold YN K7
  rcases hd with rfl | rfl | rfl <;> rfl
theorem Jwj {r:Int} (hr:bd 1000000000 r):YL r = (if -r > r then -r else r) ∧ IntKind.i64.wrap (YL r * YL r) = IntKind.i64.wrap (r * r) ∧ IntKind.i64.wrap (IntKind.i64.wrap (4 * YL r) * YL r) = IntKind.i64.wrap (IntKind.i64.wrap (4 * r) * r) := by
  have e:YL r = (if -r > r then -r else r) := by
    unfold YL
    rw [X7 (x := 0 - r) (by omega) (by omega),show 0 - r = -r by omega]
  refine ⟨e,?_,?_⟩
  · rw [e]; split
    · rw [Int.neg_mul_neg]
    · rfl
  · rw [e]; split
    · rw [X7 (x := 4 * -r) (by omega) (by omega),X7 (x := 4 * r) (by omega) (by omega)]
      have:4 * -r * -r = 4 * r * r := by rw [Int.mul_neg 4 r,Int.neg_mul_neg]
      rw [this]
    · rfl
theorem Juc (x y:Int):decide (KC x y ≤ 0) = decide (KC y x ≥ 0) := by
  rcases JCr x y with ⟨h1,h2⟩ | ⟨h1,h2⟩ | ⟨h1,h2⟩ <;> rcases JCr y x with ⟨h3,h4⟩ | ⟨h3,h4⟩ | ⟨h3,h4⟩ <;> rw [h2,h4] <;> first | rfl | (exfalso; omega)
theorem Jhp (a b c d:Int):XY (J8 a b c d) := Jk _
theorem JMb {e0 e1 e2 e3 e4 e5 e6:Int} (y0 y1:Int) {r:Int} (hd:Jv0 e6) (hr:bd 1000000000 r):Zd e0 e1 e2 e3 e4 e5 e6 y0 y1 r = XC e0 e1 e2 e3 e4 e5 e6 y0 y1 r := by
  obtain ⟨_,q1,q2⟩ := Jwj hr
  have re:∀ {n m:Int},XY n → JCA n (YL r) m = (decide (IntKind.i64.wrap (IntKind.i64.wrap (m - n) - IntKind.i64.wrap (r * r)) ≥ 0) && decide (JHv (IntKind.i64.wrap (IntKind.i64.wrap (m - n) - IntKind.i64.wrap (r * r))) (IntKind.i64.wrap (IntKind.i64.wrap (m - n) - IntKind.i64.wrap (r * r))) (IntKind.i64.wrap (IntKind.i64.wrap (4 * r) * r)) n ≥ 0)) := fun {n m} hn => by
    unfold JCA JY5 JH8
    rw [q1,q2,Jfj _ _ _ _ (Jk _) hn (Jk _) (Jk _),JfQ _ _ _ _ (Jk _) (Jk _) (Jk _) hn,Juc]
  have sp:∀ a b c:Int,JF a b c true = J0 b c := fun _ _ _ => rfl
  unfold Zd XC
  cases h6:e6 == 0
  · rw [cond_false,cond_false]
    unfold JcS Yx jU
    rw [WY hd]
    simp only [sp]
    cases K7 e6 r
    · rw [cond_false,cond_false,cond_false,re (Jhp _ _ _ _)]
    · rw [cond_true,cond_true,cond_true,re (Jhp _ _ _ _)]
  · rw [cond_true,cond_true]
    have e:JRN e0 e1 e2 e3 y0 y1 r = JQE e0 e1 e2 e3 y0 y1 r := by
      unfold JRN JQE
      have hx:XY (JE (J0 e2 e0) (J0 e3 e1) (J0 y0 e0) (J0 y1 e1)) := Jk _
      rw [Jfj _ _ _ _ hx hx (Jk _) (Jhp _ _ _ _),JfQ _ _ _ _ hx hx (Jk _) (Jhp _ _ _ _)]
    rw [e]
theorem JQr {e0 e1 e2 e3 e4 e5 e6:Int} (w:Bool) (hd:Jv0 e6) (h0:bd 1048576 e0) (h1:bd 1048576 e1) (h2:bd 1048576 e2) (h3:bd 1048576 e3) (h4:bd 1048576 e4) (h5:bd 1048576 e5) :
    Z7 (Q5 e6) e0 e1 0 e2 e3 0 17 (JN e4 e6) (JN e5 e6) 0 (Jp e6) w = Qn e0 e1 e2 e3 e5 e6 w ∧ Z8 (Q5 e6) e0 e1 0 e2 e3 0 17 (JN e4 e6) (JN e5 e6) 0 (Jp e6) w = Qm e0 e1 e2 e3 e4 e6 w := by
  rcases hd with rfl | rfl | rfl
  · exact ⟨rfl,rfl⟩
  · have a0:Z7 (Q5 1) e0 e1 0 e2 e3 0 17 (JN e4 1) (JN e5 1) 0 (Jp 1) w = IntKind.i64.wrap (0 - (bif w then J0 e3 e5 else J0 e1 e5)) := rfl
    have a1:Z8 (Q5 1) e0 e1 0 e2 e3 0 17 (JN e4 1) (JN e5 1) 0 (Jp 1) w = (bif w then J0 e2 e4 else J0 e0 e4) := rfl
    have b0:Qn e0 e1 e2 e3 e5 1 w = IntKind.i64.wrap (IntKind.i64.wrap (0 - (bif w then J0 e3 e5 else J0 e1 e5)) * 1) := rfl
    have b1:Qm e0 e1 e2 e3 e4 1 w = IntKind.i64.wrap ((bif w then J0 e2 e4 else J0 e0 e4) * 1) := rfl
    rw [a0,a1,b0,b1]
    rw [Xf (a := e3) (by omega) (by omega),Xf (a := e1) (by omega) (by omega),Xf (a := e2) (by omega) (by omega),Xf (a := e0) (by omega) (by omega)]
    cases w
    · simp only [cond_false]
      rw [X7 (x := 0 - (e1 - e5)) (by omega) (by omega),X7 (by omega) (by omega),X7 (by omega) (by omega)]; omega
    · simp only [cond_true]
      rw [X7 (x := 0 - (e3 - e5)) (by omega) (by omega),X7 (by omega) (by omega),X7 (by omega) (by omega)]; omega
  · have a0:Z7 (Q5 (-1)) e0 e1 0 e2 e3 0 17 (JN e4 (-1)) (JN e5 (-1)) 0 (Jp (-1)) w = (bif w then J0 e3 e5 else J0 e1 e5) := rfl
    have a1:Z8 (Q5 (-1)) e0 e1 0 e2 e3 0 17 (JN e4 (-1)) (JN e5 (-1)) 0 (Jp (-1)) w = IntKind.i64.wrap (0 - (bif w then J0 e2 e4 else J0 e0 e4)) := rfl
    have b0:Qn e0 e1 e2 e3 e5 (-1) w = IntKind.i64.wrap (IntKind.i64.wrap (0 - (bif w then J0 e3 e5 else J0 e1 e5)) * -1) := rfl
    have b1:Qm e0 e1 e2 e3 e4 (-1) w = IntKind.i64.wrap ((bif w then J0 e2 e4 else J0 e0 e4) * -1) := rfl
    rw [a0,a1,b0,b1]
    rw [Xf (a := e3) (by omega) (by omega),Xf (a := e1) (by omega) (by omega),Xf (a := e2) (by omega) (by omega),Xf (a := e0) (by omega) (by omega)]
    cases w
    · simp only [cond_false]
      rw [X7 (x := 0 - (e1 - e5)) (by omega) (by omega),X7 (x := 0 - (e0 - e4)) (by omega) (by omega),X7 (by omega) (by omega),X7 (by omega) (by omega)]; omega
    · simp only [cond_true]
      rw [X7 (x := 0 - (e3 - e5)) (by omega) (by omega),X7 (x := 0 - (e2 - e4)) (by omega) (by omega),X7 (by omega) (by omega),X7 (by omega) (by omega)]; omega
theorem JNN {α:Type} (a b:Bool) (z x:α):(bif a then z else bif b then z else x) = (bif a || b then z else x) := by
  cases a <;> cases b <;> rfl
theorem JRz {e0 e1 e2 e3 e4 e5 e6:Int} (r:Int) (E:EP e0 e1 e2 e3 e4 e5 e6) :
    XN e0 e1 e2 e3 e4 e5 e6 r = Kd e0 e1 e2 e3 e4 e5 e6 r ∧ XP e0 e1 e2 e3 e4 e5 e6 r = Kf e0 e1 e2 e3 e4 e5 e6 r ∧ Xl e0 e1 e2 e3 e4 e5 e6 r = Xj e0 e1 e2 e3 e4 e5 e6 r ∧ Xk e0 e1 e2 e3 e4 e5 e6 r = Xm e0 e1 e2 e3 e4 e5 e6 r ∧ Qo e0 e1 e2 e3 e4 e5 e6 r = Qb e0 e1 e2 e3 e4 e5 e6 r := by
  obtain ⟨t0,t1⟩ := JQr false E.dir E.c0 E.c1 E.c2 E.c3 E.c4 E.c5
  obtain ⟨t2,t3⟩ := JQr true E.dir E.c0 E.c1 E.c2 E.c3 E.c4 E.c5
  have sp:∀ a b c:Int,JF a b c true = J0 b c := fun _ _ _ => rfl
  have sp':∀ a b c:Int,JF a b c false = J0 a c := fun _ _ _ => rfl
  have hw:∀ a b,QR a b = (Ja a 1048576 && Ja b 1048576) := fun _ _ => rfl
  have hs:Zc r = Zb r := rfl
  have N0:∀ p0 p1 t0 t1 r,XH p0 p1 t0 t1 r = Zr p0 p1 t0 t1 r := fun p0 p1 t0 t1 r => (JSn p0 p1 t0 t1 r).1
  have N1:∀ p0 p1 t0 t1 r,XJ p0 p1 t0 t1 r = Zn p0 p1 t0 t1 r := fun p0 p1 t0 t1 r => (JSn p0 p1 t0 t1 r).2.1
  refine ⟨?_,?_,?_,?_,?_⟩
  · unfold XN Kd JWm JWT JXj
    simp only [JNN,Bool.not_and,Bool.or_assoc,WY E.dir,t0,t1,t2,t3,N0,N1,sp,sp',hw,hs]
  · unfold XP Kf JZg JaT JWy
    simp only [JNN,Bool.not_and,Bool.or_assoc,WY E.dir,t0,t1,t2,t3,N0,N1,sp,sp',hw,hs]
  · unfold Xl Xj JZW JaJ JWk
    simp only [JNN,Bool.not_and,Bool.or_assoc,WY E.dir,t0,t1,t2,t3,N0,N1,sp,sp',hw,hs]
  · unfold Xk Xm JVw JZU JZm
    simp only [JNN,Bool.not_and,Bool.or_assoc,WY E.dir,t0,t1,t2,t3,N0,N1,sp,sp',hw,hs]
  · unfold Qo Qb JWb JZS
    simp only [JNN,Bool.not_and,Bool.or_assoc,WY E.dir,t0,t1,t2,t3,N0,N1,sp,sp',hw,hs]
theorem JGj {a m q r:Int} (hm:0 < m) (h0:0 ≤ r) (h1:r < m) (e:r + m * q = a):a / m = q := ((Int.ediv_emod_unique hm).2 ⟨e,h0,h1⟩).1
theorem JaC {x:Int} (h0:0 ≤ x) (h1:x ≤ 4611686018427387904):Yi x false = x := by
  unfold Yi
  rw [decide_eq_true (show x < 9223372036854775808 by omega)]
  simp only [Bool.false_and,cond_false,Bool.not_false,Bool.and_self,cond_true]
  rw [X7 (by omega) (by omega)]
theorem Jfz {x:Int} (h0:0 ≤ x) (h1:x ≤ 4611686018427387904):Yi x true = -x := by
  unfold Yi
  rw [decide_eq_true (show x ≤ 9223372036854775808 by omega)]
  simp only [Bool.and_self,cond_true]
  by_cases hz:x = 0
  · rw [hz]; rfl
  · rw [JB5]
    have:(0 - x) % 18446744073709551616 = 18446744073709551616 - x := by omega
    rw [this]
    unfold IntKind.wrap
    simp only [IntKind.bits,IntKind.signed]
    simp
    omega
theorem JlG (more:Int) (some ng:Bool):JAr 2 more some ng = (decide (more > 0) || more == 0 && !ng) := rfl
theorem JwC {d k n:Int} (hd:bd n d) (hk:0 ≤ k ∧ k ≤ n) (hn:1 ≤ n ∧ n ≤ 4194304):XD d k n 2 = (2 * d * k + n) / (2 * n) := by
  obtain ⟨p,p0,p1,pa,_⟩ := JwT d
  have sd:J6 d = p := by rw [Xw d ⟨by omega,by omega⟩]; split <;> omega
  have sk:J6 k = k := by rw [Xw k ⟨by omega,by omega⟩,if_neg (by omega)]
  have sn:J6 n = n := by rw [Xw n ⟨by omega,by omega⟩,if_neg (by omega)]
  have hP := Kk 4194304 4194304 (x := p) (y := k) ⟨p0,by omega⟩ ⟨hk.1,by omega⟩ (by omega)
  have e0:QM p k = 0 := by rw [zT _ _ ⟨by omega,by omega⟩ ⟨by omega,by omega⟩]; omega
  have e1:Qe p k = p * k := by rw [ku]; omega
  have hs := JK2 d k
  have hdk:d * k = p * k ∨ d * k = -(p * k) := by
    rcases p1 with rfl | rfl
    · exact .inl rfl
    · right; rw [Int.neg_mul]
  have hdk0:0 ≤ d → d * k = p * k := fun h => by rw [pa h]
  have e2:2 * d * k = 2 * (d * k) := Int.mul_assoc _ _ _
  have hneg:d < 0 → d * k = -(p * k) := fun h => by
    have:d = -p := by omega
    rw [this,Int.neg_mul]
  rw [e2]
  generalize d * k = D at *
  generalize p * k = P at *
  obtain ⟨f0,f1⟩ := JKm (a := 0) (b := P) (c := n) (by omega) (by omega) (by omega) (by omega) (by omega)
  rw [show (0:Int) * 18446744073709551616 + P = P by omega] at f0 f1
  have dm := Int.mul_ediv_add_emod P n
  have m0 := Int.emod_nonneg P (show n ≠ 0 by omega)
  have m1 := Int.emod_lt_of_pos P (show 0 < n by omega)
  have q0 := Int.ediv_nonneg hP.1 (show 0 ≤ n by omega)
  have q1 := Int.ediv_le_self n hP.1
  unfold XD JFk jZ JGJ
  rw [sd,sk,sn,e0,e1,f0,f1,JlG]
  generalize P / n = q at *
  generalize P % n = m at *
  have g1:(n == 0 || !((2:Int) == 0 || (2:Int) == 1 || (2:Int) == 2)) = false := by
    rw [show (n == 0) = false by simp; omega]; rfl
  have g2:decide ((0:Int) ≥ n) = false := decide_eq_false (by omega)
  have g3:(!decide (Qi d k < 0) == decide (n < 0) && Qi d k != 0) = decide (Qi d k < 0) := by
    rw [decide_eq_false (show ¬ n < 0 by omega)]
    rcases hs with ⟨h1,_⟩ | ⟨h1,_⟩ | ⟨h1,_⟩ <;> rw [h1] <;> rfl
  have g4:IntKind.u64.wrap (n - m) = n - m := W4 (by omega) (by omega)
  have g5:IntKind.u64.wrap (q + 1) = q + 1 := W4 (by omega) (by omega)
  have g6:(q + 1 == 0) = false := by simp; omega
  rw [g1,g2,g3,g4,g5,g6]
  simp only [cond_false]
  have nq:n * q = P - m := by omega
  have hmq:∀ x:Int,2 * n * x = 2 * (n * x) := fun x => Int.mul_assoc _ _ _
  have nq1:n * (q + 1) = P - m + n := by rw [Int.mul_add,Int.mul_one]; omega
  have nqn:n * -q = -(P - m) := by rw [Int.mul_neg,nq]
  have nqn1:n * -(q + 1) = -(P - m + n) := by rw [Int.mul_neg,nq1]
  have hmore:∀ ng:Bool,(decide ((bif decide (m > n - m) then (1:Int) else bif decide (m < n - m) then -1 else 0) > 0) || (bif decide (m > n - m) then (1:Int) else bif decide (m < n - m) then -1 else 0) == 0 && !ng) = (decide (2 * m > n) || decide (2 * m = n) && !ng) := fun ng => by
    by_cases h1:m > n - m
    · rw [decide_eq_true h1,decide_eq_true (show 2 * m > n by omega)]; rfl
    · rw [decide_eq_false h1,decide_eq_false (show ¬ 2 * m > n by omega)]
      by_cases h2:m < n - m
      · rw [decide_eq_true h2,decide_eq_false (show ¬ 2 * m = n by omega)]; rfl
      · rw [decide_eq_false h2,decide_eq_true (show 2 * m = n by omega)]; rfl
  rw [hmore]
  by_cases hsg:Qi d k < 0
  · rw [decide_eq_true hsg]
    have hD:D = -P := by rcases hs with ⟨h1,h2⟩ | ⟨h1,h2,_⟩ | ⟨h1,h2,_⟩ <;> rcases hdk with h | h <;> omega
    by_cases h1:2 * m > n
    · rw [decide_eq_true h1]
      simp only [Bool.true_or,cond_true]
      rw [Jfz (by omega) (by omega)]
      exact (JGj (r := 3 * n - 2 * m) (by omega) (by omega) (by omega) (by rw [hmq,nqn1]; omega)).symm
    · rw [decide_eq_false h1]
      simp only [Bool.not_true,Bool.and_false,Bool.or_self,cond_false]
      rw [Jfz (by omega) (by omega)]
      exact (JGj (r := n - 2 * m) (by omega) (by omega) (by omega) (by rw [hmq,nqn]; omega)).symm
  · rw [decide_eq_false hsg]
    have hD:D = P := by
      rcases hs with ⟨h1,h2⟩ | ⟨h1,h2,_⟩ | ⟨h1,h2,_⟩
      · rcases hdk with h | h <;> omega
      · rcases hdk with h | h <;> omega
      · exfalso; omega
    by_cases h1:2 * m > n
    · rw [decide_eq_true h1]
      simp only [Bool.true_or,cond_true]
      rw [JaC (by omega) (by omega)]
      exact (JGj (r := 2 * m - n) (by omega) (by omega) (by omega) (by rw [hmq,nq1]; omega)).symm
    · rw [decide_eq_false h1]
      by_cases h2:2 * m = n
      · rw [decide_eq_true h2]
        simp only [Bool.not_false,Bool.and_self,Bool.or_true,cond_true]
        rw [JaC (by omega) (by omega)]
        exact (JGj (r := 2 * m - n) (by omega) (by omega) (by omega) (by rw [hmq,nq1]; omega)).symm
      · rw [decide_eq_false h2]
        simp only [Bool.false_and,Bool.or_self,cond_false]
        rw [JaC (by omega) (by omega)]
        exact (JGj (r := 2 * m + n) (by omega) (by omega) (by omega) (by rw [hmq,nq]; omega)).symm
theorem Jwa {a m:Int} (hm:0 < m) (ha:bd 4611686018427387904 a):JCm a m = a / m := by
  unfold JCm
  by_cases h:0 ≤ a
  · have t1:a.tdiv m = a / m := Int.tdiv_eq_ediv_of_nonneg h
    have t2:a.tmod m = a % m := Int.tmod_eq_emod_of_nonneg h
    have m0 := Int.emod_nonneg a (show m ≠ 0 by omega)
    have q0 := Int.ediv_nonneg h (show 0 ≤ m by omega)
    have q1 := Int.ediv_le_self m h
    rw [t1,t2,decide_eq_false (by omega),cond_false,X7 (by omega) (by omega)]
  · obtain ⟨b,rfl⟩:∃ b,a = -b := ⟨-a,by omega⟩
    have hb:0 ≤ b := by omega
    have t1:(-b).tdiv m = -(b / m) := by rw [Int.neg_tdiv,Int.tdiv_eq_ediv_of_nonneg hb]
    have t2:(-b).tmod m = -(b % m) := by rw [Int.neg_tmod,Int.tmod_eq_emod_of_nonneg hb]
    have m0 := Int.emod_nonneg b (show m ≠ 0 by omega)
    have m1 := Int.emod_lt_of_pos b hm
    have q0 := Int.ediv_nonneg hb (show 0 ≤ m by omega)
    have q1 := Int.ediv_le_self m hb
    have dm := Int.mul_ediv_add_emod b m
    rw [t1,t2]
    by_cases h2:b % m = 0
    · rw [decide_eq_false (by omega),cond_false,X7 (by omega) (by omega)]
      exact (JGj (r := 0) hm (by omega) hm (by rw [Int.mul_neg]; omega)).symm
    · rw [decide_eq_true (by omega),cond_true,X7 (x := -(b / m)) (by omega) (by omega),X7 (by omega) (by omega)]
      have e:m * (-(b / m) - 1) = -(m * (b / m)) - m := by rw [Int.mul_sub,Int.mul_neg,Int.mul_one]
      exact (JGj (r := m - b % m) hm (by omega) (by omega) (by rw [e]; omega)).symm
theorem Jwc {d k n:Int} (hd:bd n d) (hk:0 ≤ k ∧ k ≤ n) (hn:1 ≤ n ∧ n ≤ 4194304):bd (n + 1) ((2 * d * k + n) / (2 * n)) ∧ bd 35184380477440 (2 * d * k + n) := by
  have e2:2 * d * k = 2 * (d * k) := Int.mul_assoc _ _ _
  have h1 := JHV hd (show bd n k by omega) (by omega) (by omega)
  have h2 := Kk 4194304 4194304 (x := n) (y := n) ⟨by omega,hn.2⟩ ⟨by omega,hn.2⟩ (by omega)
  have e3:(n + 1) * (2 * n) = 2 * (n * n) + 2 * n := by grind
  have e4:(-(n + 1)) * (2 * n) = -(2 * (n * n) + 2 * n) := by rw [Int.neg_mul,e3]
  rw [e2]
  refine ⟨⟨?_,?_⟩,by omega⟩
  · exact (Int.le_ediv_iff_mul_le (show 0 < 2 * n by omega)).2 (by rw [e4]; omega)
  · have:(2 * (d * k) + n) / (2 * n) < n + 1 + 1 := (Int.ediv_lt_iff_lt_mul (show 0 < 2 * n by omega)).2 (by
      have e5:(n + 1 + 1) * (2 * n) = 2 * (n * n) + 4 * n := by grind
      rw [e5]; omega)
    omega
theorem JUz {l h k n:Int} (hl:bd 1048576 l) (hd:bd n (h - l)) (hk:0 ≤ k ∧ k ≤ n) (hn:1 ≤ n ∧ n ≤ 4194304):JI l (XD (h - l) k n 2) = ZT l h k n ∧ JI l (XD (h - l) k n 2) = l + (2 * (h - l) * k + n) / (2 * n) := by
  obtain ⟨b1,b2⟩ := Jwc hd hk hn
  have e2:2 * (h - l) * k = 2 * ((h - l) * k) := Int.mul_assoc _ _ _
  rw [JwC hd hk hn,JWH (by omega) (by omega)]
  refine ⟨?_,rfl⟩
  unfold ZT
  rw [X7 (x := h - l) (by omega) (by omega),X7 (x := 2 * (h - l)) (by omega) (by omega),X7 (x := 2 * (h - l) * k) (by omega) (by omega),X7 (x := 2 * (h - l) * k + n) (by omega) (by omega),X7 (x := 2 * n) (by omega) (by omega),Jwa (by omega) (by omega),X7 (by omega) (by omega)]
theorem JWu {P Q:Int → Bool}:∀ (f:Nat) (a b:Int),0 ≤ a → (∀ k,a ≤ k → k ≤ b → P k = Q k) → bs P f a b = bs Q f a b
  | 0,_,_,_,_ => rfl
  | f + 1,a,b,h0,h => by
    unfold bs
    by_cases g:b - a > 1
    · obtain ⟨m1,m2⟩ := JVz h0 g
      rw [h _ (by omega) (by omega),JWu f a _ h0 (fun k k1 k2 => h k k1 (by omega)),JWu f _ b (by omega) (fun k k1 k2 => h k (by omega) k2)]
    · rw [decide_eq_false g]; rfl
theorem Jnu {P Q:Int → Bool} {n:Int} (h:∀ k,0 ≤ k → k ≤ n → P k = Q k):bsF P (bs0 n) = bsF Q (bs0 n) := JWu _ 0 n (by omega) h
theorem Jmw {P Q:Int → Int → Bool} {d z:Int} {full:Bool} (hz:XY z) (h:∀ u w,P u w = Q u w):∀ (f:Nat) (s:CvS),cv P d z full f s = rcv Q d z full f s
  | 0,_ => rfl
  | f + 1,s => by
    have e1:(full && Int.ofNat s.i == 0) = !(!full || decide (Int.ofNat s.i > 0)) := by
      have:(Int.ofNat s.i == 0) = !decide (Int.ofNat s.i > 0) := by
        by_cases g:s.i = 0
        · rw [g]; rfl
        · have:(0:Int) < Int.ofNat s.i := by simp; omega
          rw [decide_eq_true this,show (Int.ofNat s.i == 0) = false by simp; omega]; rfl
      rw [this]
      cases full <;> cases decide (Int.ofNat s.i > 0) <;> rfl
    have e2:JIj s.a0 s.a1 s.b0 s.b1 = !JM7 s := by
      unfold JIj JM7
      rw [Bool.not_and]
    have m0:JUH d z full s = Jgx d z full s := by
      unfold JUH Jgx
      rw [e1,(JcB _ _ _ _ _ hz).1]
      cases (!full || decide (Int.ofNat s.i > 0)) <;> rfl
    have m1:JUD d z full s = JgX d z full s := by
      unfold JUD JgX
      rw [e1,(JcB _ _ _ _ _ hz).2]
      cases (!full || decide (Int.ofNat s.i > 0)) <;> rfl
    have en:cvN P d z full s = rcN Q d z full s := by
      unfold cvN rcN
      rw [m0,m1,h]
    unfold cv rcv
    rw [e1,e2,en,Jmw hz h f]
    cases (!full || decide (Int.ofNat s.i > 0)) <;> cases JM7 s <;> rfl
end
end Go.Proofs.YtmbfbhimdkjkoaaGreat
