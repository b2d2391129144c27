/-
  CutterSpoilt: for every input the law returns true; each argument reads afterwards as it read before. Conditions: none.
-/
import Derived.Test.YtmbfbhimdkjkoaaGreatM5fd307ed
import Derived.Test.YtmbfbhimdkjkoaaGreatM4a7838e6
import Derived.ProofKit
import Derived.Carry
import Derived.ChangeOld
import Derived.ChangeArms
import Derived.DataElems
set_option linter.all false
set_option maxRecDepth 1000000
namespace Go.Proofs.YtmbfbhimdkjkoaaGreat
noncomputable section
open Go.SX Go.RowKit
theorem JWt (a b c d:Int):((0 < JE a b c d ∨ JE a b c d = 0 ∧ 0 < J8 a b c d) ∧ KK a b c d = 0) ∨ (¬ (0 < JE a b c d ∨ JE a b c d = 0 ∧ 0 < J8 a b c d) ∧ KK a b c d = 1) := by
  unfold KK
  by_cases h1:0 < JE a b c d
  · left; exact ⟨.inl h1,by simp [h1]⟩
  · by_cases h2:JE a b c d = 0
    · by_cases h3:0 < J8 a b c d
      · left; exact ⟨.inr ⟨h2,h3⟩,by simp [h2,h3]⟩
      · right; exact ⟨by omega,by simp [h2,h3]⟩
    · right; exact ⟨by omega,by rw [show decide (JE a b c d > 0) = false from decide_eq_false h1,show (JE a b c d == 0) = false by simpa using h2]; rfl⟩
theorem JJI (a b c d e:Int):((0 < IntKind.i64.wrap (JE a b c d * e) ∨ IntKind.i64.wrap (JE a b c d * e) = 0 ∧ 0 < J8 a b c d) ∧ KS a b c d e = 0) ∨ (¬ (0 < IntKind.i64.wrap (JE a b c d * e) ∨ IntKind.i64.wrap (JE a b c d * e) = 0 ∧ 0 < J8 a b c d) ∧ KS a b c d e = 1) := by
  unfold KS
  generalize IntKind.i64.wrap (JE a b c d * e) = w
  by_cases h1:0 < w
  · left; exact ⟨.inl h1,by simp [h1]⟩
  · by_cases h2:w = 0
    · by_cases h3:0 < J8 a b c d
      · left; exact ⟨.inr ⟨h2,h3⟩,by simp [h2,h3]⟩
      · right; exact ⟨by omega,by simp [h2,h3]⟩
    · right; exact ⟨by omega,by rw [show decide (w > 0) = false from decide_eq_false h1,show (w == 0) = false by simpa using h2]; rfl⟩
theorem JcZ (a0 a1 b0 b1 p0 p1:Int):KE a0 a1 b0 b1 p0 p1 = QN a0 a1 b0 b1 p0 p1 1 false := by
  have e:∀ x,XY x → IntKind.i64.wrap (x * 1) = x := fun x h => by rw [Int.mul_one]; exact X7 h.1 h.2
  have r:∀ a b c d,KS a b c d 1 = KK a b c d := fun a b c d => by
    unfold KS KK
    rw [e (JE a b c d) (Jk _)]
  unfold KE QN
  rw [r,r,e (JE p0 p1 b0 b1) (Jk _)]
  generalize KK a0 a1 p0 p1 = h
  generalize KK a0 a1 b0 b1 = k
  generalize JE p0 p1 b0 b1 = x
  by_cases h1:h = k
  · subst h1; simp
  · by_cases h2:h < k
    · rw [decide_eq_true h2,show (h != k) = true by simpa using h1]; rfl
    · rw [decide_eq_false h2,show (h != k) = true by simpa using h1,show (h == k) = false by simpa using h1]; rfl
theorem JiJ {a0 a1 b0 b1 p0 p1:Int} (ha0:b9 a0) (ha1:b9 a1) (hb0:b9 b0) (hb1:b9 b1) (hp0:b9 p0) (hp1:b9 p1) (ha:a0 ≠ 0 ∨ a1 ≠ 0) (hb:b0 ≠ 0 ∨ b1 ≠ 0) (hp:p0 ≠ 0 ∨ p1 ≠ 0) :
    KE b0 b1 a0 a1 p0 p1 = QN a0 a1 b0 b1 p0 p1 (-1) false := by
  have hN := JVn ha
  have bnd:∀ {a b c d:Int},b9 a → b9 b → b9 c → b9 d → bd 2000000000000000000 (JE a b c d) := fun {a b c d} h1 h2 h3 h4 => by
    have q1 := JHV h1 h4 (by omega) (by omega)
    have q2 := JHV h2 h3 (by omega) (by omega)
    rw [X6 h1 h2 h3 h4]
    generalize a * d = s at *
    generalize b * c = t at *
    omega
  have neg:∀ x,bd 2000000000000000000 x → IntKind.i64.wrap (x * -1) = -x := fun x h => by rw [show x * -1 = -x by omega]; exact X7 (by omega) (by omega)
  have eC:JE p0 p1 b0 b1 * (a0 * a0 + a1 * a1) = J8 a0 a1 p0 p1 * JE a0 a1 b0 b1 - JE a0 a1 p0 p1 * J8 a0 a1 b0 b1 := by
    rw [X6 hp0 hp1 hb0 hb1,Ks ha0 ha1 hp0 hp1,X6 ha0 ha1 hb0 hb1,X6 ha0 ha1 hp0 hp1,Ks ha0 ha1 hb0 hb1]
    grind
  have eD:J8 b0 b1 p0 p1 * (a0 * a0 + a1 * a1) = J8 a0 a1 p0 p1 * J8 a0 a1 b0 b1 + JE a0 a1 p0 p1 * JE a0 a1 b0 b1 := by
    rw [Ks hb0 hb1 hp0 hp1,Ks ha0 ha1 hp0 hp1,X6 ha0 ha1 hb0 hb1,X6 ha0 ha1 hp0 hp1,Ks ha0 ha1 hb0 hb1]
    grind
  have e1:JE b0 b1 p0 p1 = -JE p0 p1 b0 b1 := by rw [X6 hb0 hb1 hp0 hp1,X6 hp0 hp1 hb0 hb1]; grind
  have e2:JE b0 b1 a0 a1 = -JE a0 a1 b0 b1 := by rw [X6 hb0 hb1 ha0 ha1,X6 ha0 ha1 hb0 hb1]; grind
  have e3:J8 b0 b1 a0 a1 = J8 a0 a1 b0 b1 := by rw [Ks hb0 hb1 ha0 ha1,Ks ha0 ha1 hb0 hb1]; grind
  have e4:JE p0 p1 a0 a1 = -JE a0 a1 p0 p1 := by rw [X6 hp0 hp1 ha0 ha1,X6 ha0 ha1 hp0 hp1]; grind
  have nz:∀ {q0 q1:Int},b9 q0 → b9 q1 → (q0 ≠ 0 ∨ q1 ≠ 0) → J8 a0 a1 q0 q1 ≠ 0 ∨ JE a0 a1 q0 q1 ≠ 0 := fun {q0 q1} h0 h1 hq => by
    have hM := JVn hq
    have e:J8 a0 a1 q0 q1 * J8 a0 a1 q0 q1 + JE a0 a1 q0 q1 * JE a0 a1 q0 q1 = (a0 * a0 + a1 * a1) * (q0 * q0 + q1 * q1) := by
      rw [Ks ha0 ha1 h0 h1,X6 ha0 ha1 h0 h1]
      grind
    have hpos := Int.mul_pos hN hM
    rw [← e] at hpos
    by_cases q1:J8 a0 a1 q0 q1 = 0
    · right
      intro q2
      rw [q1,q2] at hpos
      simp at hpos
    · exact .inl q1
  have core := Jm4 (x := J8 a0 a1 p0 p1) (y := JE a0 a1 p0 p1) (u := J8 a0 a1 b0 b1) (v := JE a0 a1 b0 b1) (c := JE p0 p1 b0 b1) (d := J8 b0 b1 p0 p1) (nz hp0 hp1 hp) (nz hb0 hb1 hb)
    ⟨fun h => by rw [← eC]; exact JZ9 hN h,fun h => by rw [← eC] at h; exact qA hN h⟩ ⟨fun h => by rw [← eC]; exact JlQ hN h,fun h => by rw [← eC] at h; exact JbC hN h⟩ ⟨fun h => by rw [← eD]; exact JZ9 hN h,fun h => by rw [← eD] at h; exact qA hN h⟩
  have o1 := JWt b0 b1 p0 p1
  have o2 := JWt b0 b1 a0 a1
  have o3 := JJI a0 a1 p0 p1 (-1)
  have o4 := JJI a0 a1 b0 b1 (-1)
  rw [neg _ (bnd ha0 ha1 hp0 hp1)] at o3
  rw [neg _ (bnd ha0 ha1 hb0 hb1)] at o4
  rw [e1] at o1
  rw [e2,e3] at o2
  unfold KE QN
  rw [neg _ (bnd hp0 hp1 hb0 hb1),e4]
  clear eC eD e1 e2 e3 e4
  generalize KK b0 b1 p0 p1 = q at *
  generalize KK b0 b1 a0 a1 = k at *
  generalize KS a0 a1 p0 p1 (-1) = h at *
  generalize KS a0 a1 b0 b1 (-1) = k' at *
  generalize JE p0 p1 b0 b1 = c at *
  generalize J8 b0 b1 p0 p1 = d at *
  generalize JE a0 a1 p0 p1 = y at *
  generalize J8 a0 a1 p0 p1 = x at *
  generalize JE a0 a1 b0 b1 = v at *
  generalize J8 a0 a1 b0 b1 = u at *
  clear nz neg bnd ha hb hp hN ha0 ha1 hb0 hb1 hp0 hp1
  have Q1:((c < 0 ∨ c = 0 ∧ 0 < d) ∧ q = 0) ∨ (¬ (c < 0 ∨ c = 0 ∧ 0 < d) ∧ q = 1) := by
    rcases o1 with ⟨g1,g2⟩ | ⟨g1,g2⟩
    · exact .inl ⟨by omega,g2⟩
    · exact .inr ⟨by omega,g2⟩
  have Q2:((v < 0 ∨ v = 0 ∧ 0 < u) ∧ k = 0 ∧ k' = 0) ∨ (¬ (v < 0 ∨ v = 0 ∧ 0 < u) ∧ k = 1 ∧ k' = 1) := by
    rcases o2 with ⟨g1,g2⟩ | ⟨g1,g2⟩ <;> rcases o4 with ⟨g3,g4⟩ | ⟨g3,g4⟩
    · exact .inl ⟨by omega,g2,g4⟩
    · exfalso; omega
    · exfalso; omega
    · exact .inr ⟨by omega,g2,g4⟩
  have Q3:((y < 0 ∨ y = 0 ∧ 0 < x) ∧ h = 0) ∨ (¬ (y < 0 ∨ y = 0 ∧ 0 < x) ∧ h = 1) := by
    rcases o3 with ⟨g1,g2⟩ | ⟨g1,g2⟩
    · exact .inl ⟨by omega,g2⟩
    · exact .inr ⟨by omega,g2⟩
  clear o1 o2 o3 o4
  generalize (c < 0 ∨ c = 0 ∧ 0 < d) = Q at *
  generalize (v < 0 ∨ v = 0 ∧ 0 < u) = K at *
  generalize (y < 0 ∨ y = 0 ∧ 0 < x) = H at *
  rcases Q1 with ⟨A,rfl⟩ | ⟨A,rfl⟩ <;> rcases Q2 with ⟨B,rfl,rfl⟩ | ⟨B,rfl,rfl⟩ <;> rcases Q3 with ⟨D,rfl⟩ | ⟨D,rfl⟩ <;>
    simp only [A,B,D,true_and,false_and,not_true_eq_false,not_false_eq_true,false_or,or_false,true_or,or_true,and_true,iff_true,true_iff,iff_false,false_iff] at core <;>
    rw [Bool.eq_iff_iff] <;> simp <;> omega
theorem vc0 (a b:Int):JE a b 0 0 = 0 := by unfold JE; rw [Int.mul_zero,Int.mul_zero]; rfl
theorem JxF (a b:Int):JE 0 0 a b = 0 := by unfold JE; rw [Int.zero_mul,Int.zero_mul]; rfl
theorem vi0 (a b:Int):J8 a b 0 0 = 0 := by unfold J8; rw [Int.mul_zero,Int.mul_zero]; rfl
theorem JcY {a0 a1 b0 b1:Int} (ha0:b9 a0) (ha1:b9 a1) (hb0:b9 b0) (hb1:b9 b1):KE b0 b1 a0 a1 0 0 = QN a0 a1 b0 b1 0 0 (-1) false := by
  have q1 := JHV ha0 hb1 (by omega) (by omega)
  have q2 := JHV ha1 hb0 (by omega) (by omega)
  have o2 := JWt b0 b1 a0 a1
  have o4 := JJI a0 a1 b0 b1 (-1)
  have e2:JE b0 b1 a0 a1 = -JE a0 a1 b0 b1 := by rw [X6 hb0 hb1 ha0 ha1,X6 ha0 ha1 hb0 hb1]; grind
  have e3:J8 b0 b1 a0 a1 = J8 a0 a1 b0 b1 := by rw [Ks hb0 hb1 ha0 ha1,Ks ha0 ha1 hb0 hb1]; grind
  have e4:IntKind.i64.wrap (JE a0 a1 b0 b1 * -1) = -JE a0 a1 b0 b1 := by
    rw [X6 ha0 ha1 hb0 hb1,show (a0 * b1 - a1 * b0) * -1 = -(a0 * b1 - a1 * b0) by omega]
    generalize a0 * b1 = x at *
    generalize a1 * b0 = y at *
    exact X7 (by omega) (by omega)
  rw [e2,e3] at o2
  rw [e4] at o4
  have c1:KK b0 b1 0 0 = 1 := by unfold KK; rw [vc0,vi0]; rfl
  have c2:KS a0 a1 0 0 (-1) = 1 := by unfold KS; rw [vc0,vi0]; rfl
  unfold KE QN
  rw [c1,c2,JxF,JxF]
  have w:IntKind.i64.wrap (0 * -1) = 0 := rfl
  rw [w]
  generalize KK b0 b1 a0 a1 = h at *
  generalize KS a0 a1 b0 b1 (-1) = k at *
  rcases o2 with ⟨g1,rfl⟩ | ⟨g1,rfl⟩ <;> rcases o4 with ⟨g3,rfl⟩ | ⟨g3,rfl⟩
  · rfl
  · exact absurd g1 g3
  · exact absurd g3 g1
  · rfl
theorem Jtl (a0 a1 b0 b1 u w d:Int) (e7:Bool):QN a0 a1 b0 b1 u w d e7 = (e7 || QN a0 a1 b0 b1 u w d false) := by cases e7 <;> rfl
theorem JlH {e0 e1 e2 e3 e4 e5 e6:Int} (e7:Bool) {u w:Int} (y z:Int) (E:EP e0 e1 e2 e3 e4 e5 e6) (hu:bd 1048576 u) (hw:bd 1048576 w) :
    JHZ e0 e1 e2 e3 e4 e5 e6 e7 u w y z = bif e6 == 0 then decide (J8 (J0 u y) (J0 w z) (J0 e2 e0) (J0 e3 e1) > 0) else
      (QN (J0 e0 e4) (J0 e1 e5) (J0 e2 e4) (J0 e3 e5) (J0 u e4) (J0 w e5) e6 e7 && !XK (J0 e0 e4) (J0 e1 e5) (J0 u e4) (J0 w e5)) := by
  unfold JHZ
  cases h6:e6 == 0
  · rw [cond_false,cond_false]
    have hne:e6 ≠ 0 := by simpa using h6
    have c0 := E.c0
    have c1 := E.c1
    have c2 := E.c2
    have c3 := E.c3
    have c4 := E.c4
    have c5 := E.c5
    have hs:(JE (J0 e0 e4) (J0 e1 e5) (J0 u e4) (J0 w e5) != 0 || decide (J8 (J0 e0 e4) (J0 e1 e5) (J0 u e4) (J0 w e5) ≤ 0)) = !XK (J0 e0 e4) (J0 e1 e5) (J0 u e4) (J0 w e5) := by
      unfold XK
      generalize JE (J0 e0 e4) (J0 e1 e5) (J0 u e4) (J0 w e5) = x
      generalize J8 (J0 e0 e4) (J0 e1 e5) (J0 u e4) (J0 w e5) = i
      rw [Bool.eq_iff_iff]
      simp only [Bool.or_eq_true,Bool.not_eq_true',Bool.and_eq_false_iff,bne_iff_ne,decide_eq_true_eq,beq_eq_false_iff_ne,decide_eq_false_iff_not]
      omega
    rw [hs,Jtl]
    have m:∀ {a b:Int},bd 1048576 a → bd 1048576 b → J0 a b = a - b := fun {a b} h1 h2 => Xf (by omega) (by omega)
    have z1 := E.s1 hne
    have z2 := E.s2 hne
    rcases E.dir with h | rfl | rfl
    · exact absurd h hne
    · have ei:KQ e0 e1 0 e2 e3 0 17 (JN e4 1) (JN e5 1) 0 (Jp 1) (JOO 1 e7) (J0 u e4) (J0 w e5) = (e7 || KE (J0 e0 e4) (J0 e1 e5) (J0 e2 e4) (J0 e3 e5) (J0 u e4) (J0 w e5)) := rfl
      rw [ei,JcZ]
    · have ei:KQ e0 e1 0 e2 e3 0 17 (JN e4 (-1)) (JN e5 (-1)) 0 (Jp (-1)) (JOO (-1) e7) (J0 u e4) (J0 w e5) = (e7 || KE (J0 e2 e4) (J0 e3 e5) (J0 e0 e4) (J0 e1 e5) (J0 u e4) (J0 w e5)) := rfl
      rw [ei,m (a := e0) (by omega) c4,m (a := e1) (by omega) c5,m (a := e2) (by omega) c4,m (a := e3) (by omega) c5,m hu c4,m hw c5]
      by_cases hz:u - e4 = 0 ∧ w - e5 = 0
      · rw [hz.1,hz.2,JcY (by omega) (by omega) (by omega) (by omega)]
      · rw [JiJ (by omega) (by omega) (by omega) (by omega) (by omega) (by omega) z1 z2 (by omega)]
  · rw [cond_true,cond_true]
theorem JmR (d k:Int):XD d k 0 2 = 0 := by
  unfold XD
  have:((0:Int) == 0 || !((2:Int) == 0 || (2:Int) == 1 || (2:Int) == 2)) = true := rfl
  rw [this,cond_true]
theorem Jj1 {e0 e1 e2 e3 e4 e5 e6 f0 f1 f2 f3 f4 f5 f6 l0 l1 h0 h1 r:Int} (e7 f7:Bool) (hd:Jv0 e6) (F:EP f0 f1 f2 f3 f4 f5 f6) (hr:bd 1000000000 r) (b0:bd 1048576 l0) (b1:bd 1048576 l1) (b2:bd 1048576 h0) (b3:bd 1048576 h1) :
    (bif f6 == 0 then JCq l0 l1 h0 h1 e0 e1 e2 e3 e4 e5 e6 e7 r else JIo f0 f1 f2 f3 f4 f5 f6 f7 l0 l1 h0 h1 r e0 e1 e2 e3 e4 e5 e6 e7 r) = JNC e0 e1 e2 e3 e4 e5 e6 e7 f0 f1 f2 f3 f4 f5 f6 f7 l0 l1 h0 h1 r ∧
    (bif f6 == 0 then JDC l0 l1 h0 h1 e0 e1 e2 e3 e4 e5 e6 e7 r else JJz f0 f1 f2 f3 f4 f5 f6 f7 l0 l1 h0 h1 r e0 e1 e2 e3 e4 e5 e6 e7 r) = JNH e0 e1 e2 e3 e4 e5 e6 e7 f0 f1 f2 f3 f4 f5 f6 f7 l0 l1 h0 h1 r := by
  unfold JNC JNH
  cases h6:f6 == 0
  · simp only [cond_false]
    have sp':∀ a b c:Int,JF a b c false = J0 a c := fun _ _ _ => rfl
    have c0 := F.c0
    have c1 := F.c1
    have c4 := F.c4
    have c5 := F.c5
    have m0:J0 f0 f4 = f0 - f4 := Xf (by omega) (by omega)
    have m1:J0 f1 f5 = f1 - f5 := Xf (by omega) (by omega)
    have hv:J8 (J0 f0 f4) (J0 f1 f5) (J0 f0 f4) (J0 f1 f5) = (f0 - f4) * (f0 - f4) + (f1 - f5) * (f1 - f5) := by rw [m0,m1,Ks (by omega) (by omega) (by omega) (by omega)]
    have hz := (JoM (n := J8 (J0 f0 f4) (J0 f1 f5) (J0 f0 f4) (J0 f1 f5)) (m := 2) (by rw [hv]; exact JxJ _ _) (Jhp _ _ _ _) (.inr (.inr rfl))).1
    simp only [sp']
    rw [← hz]
    unfold JIo JJz
    have key:∀ {Z:Int},XY Z → (crF Z f0 f1 f2 f3 f4 f5 f6 f7 e0 e1 e2 e3 e4 e5 e6 e7 r).fin (cv0 (J0 l0 f4) (J0 l1 f5) (J0 h0 f4) (J0 h1 f5)) = (faF Z f0 f1 f2 f3 f4 f5 f6 f7 e0 e1 e2 e3 e4 e5 e6 e7 r).fin (cv0 (J0 l0 f4) (J0 l1 f5) (J0 h0 f4) (J0 h1 f5)) := fun {Z} hZ =>
      Jmw hZ (fun u w => JMb _ _ hd hr) _ _
    rw [key (Jk _)]
    exact ⟨rfl,rfl⟩
  · simp only [cond_true]
    obtain ⟨en,n0,n1,n2,n3⟩ := JnL b0 b1 b2 b3
    have en':ZB l0 l1 h0 h1 = YY l0 l1 h0 h1 := by
      unfold ZB JN8 JNY YY
      rw [X7 (x := l0 - h0) (by omega) (by omega),X7 (x := h0 - l0) (by omega) (by omega),X7 (x := h1 - l1) (by omega) (by omega),X7 (x := l1 - h1) (by omega) (by omega),show l0 - h0 = 0 - (h0 - l0) by omega,show l1 - h1 = 0 - (h1 - l1) by omega]
    have d0:J0 h0 l0 = h0 - l0 := Xf (by omega) (by omega)
    have d1:J0 h1 l1 = h1 - l1 := Xf (by omega) (by omega)
    unfold JCq JDC
    rw [en,en',d0,d1]
    generalize YY l0 l1 h0 h1 = n at *
    by_cases hn:n = 0
    · have e1:l0 = h0 := by omega
      have e2:l1 = h1 := by omega
      rw [hn,JmR,JmR,JWH (by omega) (by omega),JWH (by omega) (by omega)]
      exact ⟨show l0 + 0 = h0 by omega,show l1 + 0 = h1 by omega⟩
    · have hn':(n == 0) = false := by simpa using hn
      have hn1:1 ≤ n ∧ n ≤ 4194304 := by omega
      have hB:(stF l0 l1 (h0 - l0) (h1 - l1) n e0 e1 e2 e3 e4 e5 e6 e7 r).fin (bs0 n) = (fdF l0 l1 h0 h1 n e0 e1 e2 e3 e4 e5 e6 e7 r).fin (bs0 n) := by
        refine Jnu fun k k0 k1 => ?_
        show Zd e0 e1 e2 e3 e4 e5 e6 (JI l0 (XD (h0 - l0) k n 2)) (JI l1 (XD (h1 - l1) k n 2)) r = XC e0 e1 e2 e3 e4 e5 e6 (ZT l0 h0 k n) (ZT l1 h1 k n) r
        rw [(JUz b0 n2 ⟨k0,k1⟩ hn1).1,(JUz b1 n3 ⟨k0,k1⟩ hn1).1,JMb _ _ hd hr]
      have hR:0 ≤ (fdF l0 l1 h0 h1 n e0 e1 e2 e3 e4 e5 e6 e7 r).fin (bs0 n) ∧ (fdF l0 l1 h0 h1 n e0 e1 e2 e3 e4 e5 e6 e7 r).fin (bs0 n) ≤ n := JnX _ n0
      rw [hB,hn',cond_false,cond_false]
      exact ⟨(JUz b0 n2 hR hn1).1,(JUz b1 n3 hR hn1).1⟩
theorem Jog {e0 e1 e2 e3 e4 e5 e6 f0 f1 f2 f3 f4 f5 f6 r:Int} (e7 f7:Bool) (E:EP e0 e1 e2 e3 e4 e5 e6) (F:EP f0 f1 f2 f3 f4 f5 f6) (hr:bd 1000000000 r) :
    JN1 e0 e1 e2 e3 e4 e5 e6 e7 f0 f1 f2 f3 f4 f5 f6 f7 r = Wv e0 e1 e2 e3 e4 e5 e6 e7 f0 f1 f2 f3 f4 f5 f6 f7 r ∧ JMD e0 e1 e2 e3 e4 e5 e6 e7 f0 f1 f2 f3 f4 f5 f6 f7 r = j6 e0 e1 e2 e3 e4 e5 e6 e7 f0 f1 f2 f3 f4 f5 f6 f7 r ∧ JQZ e0 e1 e2 e3 e4 e5 e6 e7 f0 f1 f2 f3 f4 f5 f6 f7 r = JDO e0 e1 e2 e3 e4 e5 e6 e7 f0 f1 f2 f3 f4 f5 f6 f7 r := by
  obtain ⟨x0,x1,x2,x3,x4⟩ := JRz r E
  obtain ⟨y0,y1,y2,y3,y4⟩ := JRz r F
  obtain ⟨b0,b1,b2,b3⟩ := JEw f0 f1 f2 f3 f4 f5 f6 r
  have fs := Jj1 (e0 := e0) (e1 := e1) (e2 := e2) (e3 := e3) (e4 := e4) (e5 := e5) e7 f7 E.dir F hr b0 b1 b2 b3
  have s0:JC2 e0 e1 e2 e3 e4 e5 e6 e7 f0 f1 f2 f3 f4 f5 f6 f7 r = K8 e0 e1 e2 e3 e4 e5 e6 e7 f0 f1 f2 f3 f4 f5 f6 f7 r := by
    unfold JC2 K8
    rw [fs.1,y0,y1,y2,y3]
  have s1:JB9 e0 e1 e2 e3 e4 e5 e6 e7 f0 f1 f2 f3 f4 f5 f6 f7 r = KD e0 e1 e2 e3 e4 e5 e6 e7 f0 f1 f2 f3 f4 f5 f6 f7 r := by
    unfold JB9 KD
    rw [fs.2,y0,y1,y2,y3]
  have hw:∀ a b,QR a b = (Ja a 1048576 && Ja b 1048576) := fun _ _ => rfl
  have sp:∀ a b c:Int,JF a b c true = J0 b c := fun _ _ _ => rfl
  have sp':∀ a b c:Int,JF a b c false = J0 a c := fun _ _ _ => rfl
  unfold JN1 JMD JQZ Wv j6 JDO JO6
  rw [s0,s1,x0,x1,x4,y2,y3,y4,JMb _ _ E.dir hr]
  simp only [hw,sp,sp']
  generalize K8 e0 e1 e2 e3 e4 e5 e6 e7 f0 f1 f2 f3 f4 f5 f6 f7 r = u at *
  generalize KD e0 e1 e2 e3 e4 e5 e6 e7 f0 f1 f2 f3 f4 f5 f6 f7 r = w at *
  cases (Qb e0 e1 e2 e3 e4 e5 e6 r != 0)
  · cases (Qb f0 f1 f2 f3 f4 f5 f6 r != 0)
    · cases (!XC e0 e1 e2 e3 e4 e5 e6 (Xj f0 f1 f2 f3 f4 f5 f6 r) (Xm f0 f1 f2 f3 f4 f5 f6 r) r)
      · simp only [cond_false]
        cases hu:Ja u 1048576
        · exact ⟨rfl,rfl,rfl⟩
        · cases hv:Ja w 1048576
          · exact ⟨rfl,rfl,rfl⟩
          · have h1 := (jB (by omega) (by omega)).1 hu
            have h2 := (jB (by omega) (by omega)).1 hv
            rw [JlH e7 _ _ E h1 h2]
            simp only [Bool.not_true,Bool.or_self,Bool.and_self,cond_false]
            cases e6 == 0
            · simp only [cond_false,Bool.not_and,Bool.not_not]
              exact ⟨trivial,trivial,trivial⟩
            · simp only [cond_true]
              have:∀ x:Int,(!decide (x > 0)) = decide (x ≤ 0) := fun x => by
                by_cases h:x > 0
                · rw [decide_eq_true h,decide_eq_false (by omega)]; rfl
                · rw [decide_eq_false h,decide_eq_true (by omega)]; rfl
              simp only [this]
              exact ⟨trivial,trivial,trivial⟩
      · exact ⟨rfl,rfl,rfl⟩
    · exact ⟨rfl,rfl,rfl⟩
  · exact ⟨rfl,rfl,rfl⟩
theorem Jl3 {c b:Bool} (h:(bif c then false else b) = true):c = false ∧ b = true := by
  cases c
  · exact ⟨rfl,h⟩
  · cases h
theorem JMX {a b c:Int} (h:XI a b c = true):bd 1048576 a ∧ bd 1048576 b ∧ bd 1048576 c := by
  unfold XI at h
  simp only [Bool.and_eq_true,decide_eq_true_eq] at h
  exact ⟨⟨by omega,by omega⟩,⟨by omega,by omega⟩,⟨by omega,by omega⟩⟩
theorem JeG {a b c:Int} (p:Int) (h:bd 1048576 a ∧ bd 1048576 b ∧ bd 1048576 c):bd 1048576 (J3 p a b c) ∧ bd 1048576 (J4 p a b c) ∧ bd 1048576 (J9 p a b c) := by
  obtain ⟨h1,h2,h3⟩ := h
  have z:bd 1048576 0 := by decide
  unfold J3 J4 J9
  cases p == 17 <;> cases p == 18 <;> cases p == 19 <;> exact ⟨by assumption,by assumption,by assumption⟩
theorem JHF {x:List GC} (hv:Qc x = true) (hm:J5 (xi x 0) = true) :
    (bd 1048576 (xi x 2) ∧ bd 1048576 (xi x 3) ∧ bd 1048576 (xi x 4)) ∧ (bd 1048576 (xi x 5) ∧ bd 1048576 (xi x 6) ∧ bd 1048576 (xi x 7)) ∧
    ((xi x 16 == 0) = true → xi x 17 = 0 ∧ (xi x 8 = 0 ∨ xi x 0 = 3)) ∧
    ((xi x 16 == 0) = false → (xi x 0 = 1 ∨ xi x 0 = 2 ∨ xi x 0 = 3) ∧ Kt (xi x 8) = true ∧ (xi x 16 = 1 ∨ xi x 16 = -1) ∧ 0 ≤ xi x 17 ∧ xi x 17 ≤ 32768) ∧
    (xi x 0 = 3 → XW (xi x 0) (xi x 2) (xi x 3) (xi x 4) (xi x 5) (xi x 6) (xi x 7) (xi x 8) (xi x 9) (xi x 10) (xi x 11) (xi x 12) (xb x 13) = 0) := by
  unfold Qc at hv
  obtain ⟨_,hv⟩ := Jl3 hv
  rw [hm,cond_true] at hv
  obtain ⟨h2,hv⟩ := Jl3 hv
  simp only [Bool.or_eq_false_iff,Bool.not_eq_false'] at h2
  obtain ⟨⟨⟨⟨w1,w2⟩,_⟩,_⟩,w3⟩ := h2
  refine ⟨JMX w1,JMX w2,fun h => ?_,fun h => ?_,fun h => ?_⟩
  · rw [h,cond_true] at w3
    simp only [Bool.and_eq_true,Bool.or_eq_true,beq_iff_eq] at w3
    exact w3
  · rw [h,cond_false] at w3
    simp only [Bool.and_eq_true,Bool.or_eq_true,beq_iff_eq,decide_eq_true_eq] at w3
    obtain ⟨⟨⟨⟨a,b⟩,c⟩,d⟩,e⟩ := w3
    refine ⟨?_,b,c,by omega,e⟩
    rcases a with (a | a) | a
    · exact .inl a
    · exact .inr (.inl a)
    · exact .inr (.inr a)
  · rw [show (xi x 0 == 3) = true by simp [h],cond_true] at hv
    obtain ⟨h3,_⟩ := Jl3 hv
    simpa using h3
theorem WR {k f0 f1 f2 t0 t1 t2 p c0 c1 c2 d:Int} {fu:Bool} (h:XW k f0 f1 f2 t0 t1 t2 p c0 c1 c2 d fu = 0) :
    k = 3 ∧ Kt p = true ∧ (bd 1048576 c0 ∧ bd 1048576 c1 ∧ bd 1048576 c2) ∧ (d = 1 ∨ d = -1) ∧ J9 p f0 f1 f2 = J9 p c0 c1 c2 ∧
    (J3 p f0 f1 f2 - J3 p c0 c1 c2 ≠ 0 ∨ J4 p f0 f1 f2 - J4 p c0 c1 c2 ≠ 0) ∧ (J3 p t0 t1 t2 - J3 p c0 c1 c2 ≠ 0 ∨ J4 p t0 t1 t2 - J4 p c0 c1 c2 ≠ 0) ∧
    64 ≤ J8 (Jd f0 f1 f2 p c0 c1 c2) (Jg f0 f1 f2 p c0 c1 c2) (Jd f0 f1 f2 p c0 c1 c2) (Jg f0 f1 f2 p c0 c1 c2) ∧
    (fu = false → XK (Jd f0 f1 f2 p c0 c1 c2) (Jg f0 f1 f2 p c0 c1 c2) (Jd t0 t1 t2 p c0 c1 c2) (Jg t0 t1 t2 p c0 c1 c2) = false) := by
  unfold XW at h
  obtain ⟨h1,h⟩ := q7 (by decide) h
  simp only [Bool.or_eq_false_iff,bne_eq_false_iff_eq,Bool.not_eq_false',Bool.and_eq_false_iff] at h1
  obtain ⟨⟨⟨⟨⟨⟨k1,k2⟩,_⟩,_⟩,k5⟩,k6⟩,k7⟩ := h1
  have h2 := (q7 (by decide) h).1
  simp only [Bool.or_eq_false_iff,decide_eq_false_iff_not,Int.not_lt] at h2
  obtain ⟨⟨⟨⟨m1,m2⟩,_⟩,_⟩,m5⟩ := h2
  have nz:∀ a b:Int,64 ≤ J8 (IntKind.i64.wrap a) (IntKind.i64.wrap b) (IntKind.i64.wrap a) (IntKind.i64.wrap b) → a ≠ 0 ∨ b ≠ 0 := fun a b h => by
    by_cases ha:a = 0
    · by_cases hb:b = 0
      · subst ha; subst hb
        exact absurd h (by decide)
      · exact .inr hb
    · exact .inl ha
  refine ⟨k1,k2,JMX k5,?_,k7,nz _ _ m1,nz _ _ m2,m1,fun hf => ?_⟩
  · exact k6
  · rw [hf] at m5; simpa using m5
structure LI (l:List GC):Prop where
  n:J2 l = l
  k:xi l 0 = 2
  pl:Kt (xi l 8) = true
  sd:xi l 16 = 1 ∨ xi l 16 = -1
  ra:0 ≤ xi l 17 ∧ xi l 17 ≤ 32768
  hh:J9 (xi l 8) (xi l 2) (xi l 3) (xi l 4) = J9 (xi l 8) (xi l 5) (xi l 6) (xi l 7)
structure YI (l y:List GC):Prop where
  n:J2 y = y
  k:xi y 0 = 2 ∨ xi y 0 = 3
  p:xi y 8 = xi l 8
  E:EP (J3 (xi l 8) (xi y 2) (xi y 3) (xi y 4)) (J4 (xi l 8) (xi y 2) (xi y 3) (xi y 4)) (J3 (xi l 8) (xi y 5) (xi y 6) (xi y 7)) (J4 (xi l 8) (xi y 5) (xi y 6) (xi y 7)) (JL (xi l 8) y) (JM (xi l 8) y) (JJ y)
  A:xi y 0 = 3 → XW (xi y 0) (xi y 2) (xi y 3) (xi y 4) (xi y 5) (xi y 6) (xi y 7) (xi y 8) (xi y 9) (xi y 10) (xi y 11) (xi y 12) (xb y 13) = 0
theorem JjA (p:Int) (x:List GC):ZL p x = (xb x 13 || !(J3 p (xi x 2) (xi x 3) (xi x 4) == J3 p (xi x 5) (xi x 6) (xi x 7) && J4 p (xi x 2) (xi x 3) (xi x 4) == J4 p (xi x 5) (xi x 6) (xi x 7))) := rfl
theorem Jv2 {x:List GC} (hx:J2 x = x) (hv:Qc x = true) (hm:J5 (xi x 0) = true) (hs:(xi x 16 == 0) = false) (hd:JX x (xi x 8) (xi x 17) = true):LI x := by
  obtain ⟨_,_,_,h4,_⟩ := JHF hv hm
  obtain ⟨_,h5,h6,h7⟩ := h4 hs
  unfold JX at hd
  simp only [Bool.and_eq_true,beq_iff_eq] at hd
  exact ⟨hx,hd.1.1.1,h5,h6,h7,hd.1.1.2⟩
theorem JXp {x:List GC} (h:xi x 0 = 2) (p:Int):JL p x = 0 ∧ JM p x = 0 ∧ JJ x = 0 ∧ QI x = false := by
  have e:(xi x 0 == 3) = false := by rw [h]; rfl
  unfold JL JM JJ QI
  rw [e]; exact ⟨rfl,rfl,rfl,rfl⟩
theorem JGp {x:List GC} (h:xi x 0 = 3) (p:Int):JL p x = J3 p (xi x 9) (xi x 10) (xi x 11) ∧ JM p x = J4 p (xi x 9) (xi x 10) (xi x 11) ∧ JJ x = xi x 12 ∧ QI x = xb x 13 := by
  have e:(xi x 0 == 3) = true := by rw [h]; rfl
  unfold JL JM JJ QI
  rw [e]; exact ⟨rfl,rfl,rfl,rfl⟩
theorem JmU {x l:List GC} (hx:J2 x = x) (hv:Qc x = true) (hm:J5 (xi x 0) = true) (hs:(xi x 16 == 0) = false) (h1:xi x 0 ≠ 1) (hp:xi x 8 = xi l 8):YI l x := by
  obtain ⟨a,b,_,h4,h5⟩ := JHF hv hm
  obtain ⟨hk,_⟩ := h4 hs
  obtain ⟨p1,p2,_⟩ := JeG (xi l 8) a
  obtain ⟨q1,q2,_⟩ := JeG (xi l 8) b
  have z:bd 1048576 0 := by decide
  rcases hk with hk | hk | hk
  · exact absurd hk h1
  · obtain ⟨e1,e2,e3,_⟩ := JXp hk (xi l 8)
    exact ⟨hx,.inl hk,hp,by rw [e1,e2,e3]; exact ⟨p1,p2,q1,q2,z,z,.inl rfl,fun h => absurd rfl h,fun h => absurd rfl h⟩,fun h => by rw [hk] at h; exact absurd h (by decide)⟩
  · obtain ⟨e1,e2,e3,_⟩ := JGp hk (xi l 8)
    have hA := h5 hk
    obtain ⟨_,_,m3,m4,_,m6,m7,_⟩ := WR hA
    obtain ⟨r1,r2,_⟩ := JeG (xi l 8) m3
    rw [hp] at m6 m7
    exact ⟨hx,.inr hk,hp,by rw [e1,e2,e3]; exact ⟨p1,p2,q1,q2,r1,r2,.inr m4,fun _ => m6,fun _ => m7⟩,fun _ => hA⟩
theorem Jjq {x:List GC} {p:Int} (hv:Qc x = true) (hm:J5 (xi x 0) = true) (hs:(xi x 16 == 0) = false) (h1:xi x 0 ≠ 1) (hp:xi x 8 = p) (hr:ZL p x = false):xi x 0 = 2 := by
  obtain ⟨_,_,_,h4,h5⟩ := JHF hv hm
  obtain ⟨hk,_⟩ := h4 hs
  rcases hk with hk | hk | hk
  · exact absurd hk h1
  · exact hk
  · exfalso
    rw [JjA] at hr
    simp only [Bool.or_eq_false_iff,Bool.not_eq_false',Bool.and_eq_true,beq_iff_eq] at hr
    obtain ⟨hf,e0,e1⟩ := hr
    obtain ⟨_,_,_,_,_,_,_,m8,m9⟩ := WR (h5 hk)
    have m9 := m9 hf
    subst hp
    have w0:Jd (xi x 5) (xi x 6) (xi x 7) (xi x 8) (xi x 9) (xi x 10) (xi x 11) = Jd (xi x 2) (xi x 3) (xi x 4) (xi x 8) (xi x 9) (xi x 10) (xi x 11) := by unfold Jd; rw [e0]
    have w1:Jg (xi x 5) (xi x 6) (xi x 7) (xi x 8) (xi x 9) (xi x 10) (xi x 11) = Jg (xi x 2) (xi x 3) (xi x 4) (xi x 8) (xi x 9) (xi x 10) (xi x 11) := by unfold Jg; rw [e1]
    rw [w0,w1] at m9
    unfold XK at m9
    have v0:∀ a b:Int,JE a b a b = 0 := fun a b => by unfold JE; rw [Int.mul_comm b a,Int.sub_self]; rfl
    rw [v0] at m9
    simp only [beq_self_eq_true,Bool.true_and,decide_eq_false_iff_not] at m9
    omega
theorem JTJ {p:Int} (h:Kt p = true):p = 17 ∨ p = 18 ∨ p = 19 := by
  unfold Kt at h
  simpa using h
theorem JZs {p:Int} (h:Kt p = true) (a b c:Int):JP p (J3 p a b c) (J4 p a b c) (J9 p a b c) = a ∧ JQ p (J3 p a b c) (J4 p a b c) (J9 p a b c) = b ∧ JR p (J3 p a b c) (J4 p a b c) (J9 p a b c) = c := by
  rcases JTJ h with rfl | rfl | rfl <;> exact ⟨rfl,rfl,rfl⟩
theorem JXa {p:Int} (h:Kt p = true) (u w k:Int):J3 p (JP p u w k) (JQ p u w k) (JR p u w k) = u ∧ J4 p (JP p u w k) (JQ p u w k) (JR p u w k) = w ∧ J9 p (JP p u w k) (JQ p u w k) (JR p u w k) = k := by
  rcases JTJ h with rfl | rfl | rfl <;> exact ⟨rfl,rfl,rfl⟩
theorem JVq {l y:List GC} (Y:YI l y) (w:Bool) :
    Z7 (xi y 0) (xi y 2) (xi y 3) (xi y 4) (xi y 5) (xi y 6) (xi y 7) (xi y 8) (xi y 9) (xi y 10) (xi y 11) (xi y 12) w = Qn (J3 (xi l 8) (xi y 2) (xi y 3) (xi y 4)) (J4 (xi l 8) (xi y 2) (xi y 3) (xi y 4)) (J3 (xi l 8) (xi y 5) (xi y 6) (xi y 7)) (J4 (xi l 8) (xi y 5) (xi y 6) (xi y 7)) (JM (xi l 8) y) (JJ y) w ∧
    Z8 (xi y 0) (xi y 2) (xi y 3) (xi y 4) (xi y 5) (xi y 6) (xi y 7) (xi y 8) (xi y 9) (xi y 10) (xi y 11) (xi y 12) w = Qm (J3 (xi l 8) (xi y 2) (xi y 3) (xi y 4)) (J4 (xi l 8) (xi y 2) (xi y 3) (xi y 4)) (J3 (xi l 8) (xi y 5) (xi y 6) (xi y 7)) (J4 (xi l 8) (xi y 5) (xi y 6) (xi y 7)) (JL (xi l 8) y) (JJ y) w := by
  obtain ⟨h0,h1⟩ := JQr w Y.E.dir Y.E.c0 Y.E.c1 Y.E.c2 Y.E.c3 Y.E.c4 Y.E.c5
  rw [Y.p]
  rcases Y.k with hk | hk
  · obtain ⟨e1,e2,e3,_⟩ := JXp hk (xi l 8)
    rw [hk,e1,e2,e3]
    exact ⟨rfl,rfl⟩
  · obtain ⟨_,_,_,m4,_⟩ := WR (Y.A hk)
    obtain ⟨e1,e2,e3,_⟩ := JGp hk (xi l 8)
    rw [hk]
    rw [e1,e2,e3] at h0 h1 ⊢
    rcases m4 with h | h
    · rw [h] at h0 h1 ⊢; exact ⟨h0,h1⟩
    · rw [h] at h0 h1 ⊢; exact ⟨h0,h1⟩
theorem JLU {f0 f1 f2 t0 t1 t2 p c0 c1 c2 d u w:Int} (hd:d = 1 ∨ d = -1) (A0:b9 (Jd f0 f1 f2 p c0 c1 c2)) (A1:b9 (Jg f0 f1 f2 p c0 c1 c2)) (B0:b9 (Jd t0 t1 t2 p c0 c1 c2)) (B1:b9 (Jg t0 t1 t2 p c0 c1 c2))
    (ha:Jd f0 f1 f2 p c0 c1 c2 ≠ 0 ∨ Jg f0 f1 f2 p c0 c1 c2 ≠ 0) (hb:Jd t0 t1 t2 p c0 c1 c2 ≠ 0 ∨ Jg t0 t1 t2 p c0 c1 c2 ≠ 0) (hu:b9 u) (hw:b9 w) :
    KQ f0 f1 f2 t0 t1 t2 p c0 c1 c2 d false u w = QN (Jd f0 f1 f2 p c0 c1 c2) (Jg f0 f1 f2 p c0 c1 c2) (Jd t0 t1 t2 p c0 c1 c2) (Jg t0 t1 t2 p c0 c1 c2) u w d false := by
  unfold KQ
  rcases hd with rfl | rfl
  · exact JcZ ..
  · by_cases hp:u = 0 ∧ w = 0
    · obtain ⟨rfl,rfl⟩ := hp
      exact JcY A0 A1 B0 B1
    · exact JiJ A0 A1 B0 B1 hu hw ha hb (by omega)
theorem JTc (a b:Int):JE a b a b = 0 := by unfold JE; rw [Int.mul_comm b a,Int.sub_self]; rfl
theorem Jh8 {a0 a1:Int} (b0 b1 d:Int) (h:64 ≤ J8 a0 a1 a0 a1):QN a0 a1 b0 b1 a0 a1 d false = true := by
  unfold QN
  have h0:KS a0 a1 a0 a1 d = 0 := by
    rcases JJI a0 a1 a0 a1 d with ⟨_,h1⟩ | ⟨h1,_⟩
    · exact h1
    · rw [JTc,Int.zero_mul] at h1
      exact absurd (.inr ⟨rfl,by omega⟩) h1
  rw [h0]
  rcases JJI a0 a1 b0 b1 d with ⟨h1,h2⟩ | ⟨_,h2⟩
  · rw [h2]
    show decide (_ ≥ (0:Int)) = true
    rw [decide_eq_true_eq]
    rcases h1 with h1 | ⟨h1,_⟩ <;> omega
  · rw [h2]; rfl
theorem Jq0 (s0 s1 b0 b1 d:Int):QN s0 s1 b0 b1 b0 b1 d false = true := by
  unfold QN
  rw [bne_self_eq_false,JTc,Int.zero_mul]
  rfl
theorem JcW {α:Type} {c d:Bool} {k:Int} {z x:α} (h:k = 0 → c = d):(bif c then z else bif k != 0 then z else x) = (bif d then z else bif k != 0 then z else x) := by
  by_cases hk:k = 0
  · rw [h hk]
  · have:(k != 0) = true := by simpa using hk
    rw [this]; cases c <;> cases d <;> rfl
theorem JIz {a b:Int} (ha:bd 4000000 a) (hb:bd 1048576 b):b9 (IntKind.i64.wrap (a - b)) ∧ IntKind.i64.wrap (a - b) = a - b := by
  have e:IntKind.i64.wrap (a - b) = a - b := X7 (by omega) (by omega)
  rw [e]; exact ⟨⟨by omega,by omega⟩,rfl⟩
theorem bd4 {a:Int} (h:bd 1048576 a):bd 4000000 a := ⟨by omega,by omega⟩
theorem Jew {l y:List GC} (L:LI l) (Y:YI l y) (hk:xi y 0 = 2) (u w a0 a1:Int) (Xp tr:Bool) :
    Q0 u w Xp l y a0 a1 tr = Q8 u w Xp l y a0 a1 tr ∧ ZR u w Xp l y a0 a1 tr = Zt u w Xp l y a0 a1 tr [] := by
  obtain ⟨e1,e2,e3,e4⟩ := JXp hk (xi l 8)
  have k2:(xi y 0 == 2) = true := by rw [hk]; rfl
  have k3:(xi y 0 != 3) = true := by rw [hk]; rfl
  have es:JJn u w l y a0 a1 = z7 u w l y a0 a1 := rfl
  have eo:(tr || Xp) = (Xp || tr) := Bool.or_comm ..
  constructor
  · unfold Q0 Q8
    rw [Y.n,e3,k2,es,eo]
    rfl
  · unfold ZR Zt
    rw [Y.n,L.n,e3,k2,es,eo]
    show (bif _ then [] else _) = (bif _ then [] else _)
    cases (Xp || tr) && decide (z7 u w l y a0 a1 ≤ 0)
    · rw [cond_false,cond_false]
      unfold Yo Zu
      show (bif xi y 0 == 2 && (JP (xi l 8) a0 a1 _ == JP (xi l 8) u w _ && (JQ (xi l 8) a0 a1 _ == JQ (xi l 8) u w _ && JR (xi l 8) a0 a1 _ == JR (xi l 8) u w _)) then [] else _) = _
      rw [k2,Bool.true_and,Bool.false_or]
      unfold Ki XL XO XS
      rw [k3]
      cases (JP (xi l 8) a0 a1 (J9 (xi l 8) (xi y 2) (xi y 3) (xi y 4)) == JP (xi l 8) u w (J9 (xi l 8) (xi y 5) (xi y 6) (xi y 7)) && (JQ (xi l 8) a0 a1 (J9 (xi l 8) (xi y 2) (xi y 3) (xi y 4)) == JQ (xi l 8) u w (J9 (xi l 8) (xi y 5) (xi y 6) (xi y 7)) && JR (xi l 8) a0 a1 (J9 (xi l 8) (xi y 2) (xi y 3) (xi y 4)) == JR (xi l 8) u w (J9 (xi l 8) (xi y 5) (xi y 6) (xi y 7))))
      · rfl
      · rfl
    · rfl
theorem JtO {l y:List GC} (L:LI l) (Y:YI l y) (hk:xi y 0 = 3) (a0 a1:Int):Ki y = (bif xi y 0 != 3 then 0 else xi y 8) ∧ XL y a0 a1 l = xi y 9 ∧ XO y a0 a1 l = xi y 10 ∧ XS y a0 a1 l = xi y 11 := by
  have k3:(xi y 0 != 3) = false := by rw [hk]; rfl
  obtain ⟨_,_,_,_,m5,_⟩ := WR (Y.A hk)
  rw [Y.p] at m5
  obtain ⟨s0,s1,s2⟩ := JZs L.pl (xi y 9) (xi y 10) (xi y 11)
  obtain ⟨_,_,q2⟩ := JXa L.pl a0 a1 (J9 (xi l 8) (xi y 2) (xi y 3) (xi y 4))
  refine ⟨rfl,?_,?_,?_⟩
  · unfold XL; rw [k3,cond_false,q2,m5,s0]
  · unfold XO; rw [k3,cond_false,q2,m5,s1]
  · unfold XS; rw [k3,cond_false,q2,m5,s2]
theorem JVv {l y:List GC} (L:LI l) (Y:YI l y) (hk:xi y 0 = 3) {u w a0 a1:Int} (hu:bd 4000000 u) (hw:bd 4000000 w) (h0:bd 4000000 a0) (h1:bd 4000000 a1) (Xp tr:Bool) (hc:(Xp || tr) = true) (hf:xb y 13 = false)
    (hK:XW (xi y 0) (JP (xi l 8) a0 a1 (J9 (xi l 8) (xi y 2) (xi y 3) (xi y 4))) (JQ (xi l 8) a0 a1 (J9 (xi l 8) (xi y 2) (xi y 3) (xi y 4))) (JR (xi l 8) a0 a1 (J9 (xi l 8) (xi y 2) (xi y 3) (xi y 4))) (JP (xi l 8) u w (J9 (xi l 8) (xi y 5) (xi y 6) (xi y 7))) (JQ (xi l 8) u w (J9 (xi l 8) (xi y 5) (xi y 6) (xi y 7))) (JR (xi l 8) u w (J9 (xi l 8) (xi y 5) (xi y 6) (xi y 7))) (bif xi y 0 != 3 then 0 else xi y 8) (xi y 9) (xi y 10) (xi y 11) (xi y 12) false = 0) :
    (!QN (Xi l y) (Xb l y) (XV l y) (Xa l y) (bif tr then J0 a0 (JL (xi l 8) y) else Xi l y) (bif tr then J0 a1 (JM (xi l 8) y) else Xb l y) (JJ y) false ||
      !QN (bif tr then J0 a0 (JL (xi l 8) y) else Xi l y) (bif tr then J0 a1 (JM (xi l 8) y) else Xb l y) (XV l y) (Xa l y) (bif Xp then J0 u (JL (xi l 8) y) else XV l y) (bif Xp then J0 w (JM (xi l 8) y) else Xa l y) (JJ y) false) =
    !WE u w Xp l y a0 a1 tr := by
  obtain ⟨e1,e2,e3,e4⟩ := JGp hk (xi l 8)
  have k3:(xi y 0 != 3) = false := by rw [hk]; rfl
  obtain ⟨_,_,m3,m4,_,m6,m7,m8,_⟩ := WR (Y.A hk)
  rw [k3,cond_false,Y.p] at hK
  obtain ⟨_,_,_,_,_,n6,_⟩ := WR hK
  obtain ⟨q0,q1,_⟩ := JXa L.pl a0 a1 (J9 (xi l 8) (xi y 2) (xi y 3) (xi y 4))
  rw [q0,q1] at n6
  have E := Y.E
  rw [e1,e2,e3] at E
  have S0 := JIz h0 E.c4
  have S1 := JIz h1 E.c5
  have T0 := JIz hu E.c4
  have T1 := JIz hw E.c5
  have A0 := JIz (bd4 E.c0) E.c4
  have A1 := JIz (bd4 E.c1) E.c5
  have B0 := JIz (bd4 E.c2) E.c4
  have B1 := JIz (bd4 E.c3) E.c5
  rw [Y.p] at m6 m7 m8
  have r1:Xi l y = Jd (xi y 2) (xi y 3) (xi y 4) (xi l 8) (xi y 9) (xi y 10) (xi y 11) := by unfold Xi; rw [Y.n,e1]; rfl
  have r2:Xb l y = Jg (xi y 2) (xi y 3) (xi y 4) (xi l 8) (xi y 9) (xi y 10) (xi y 11) := by unfold Xb; rw [Y.n,e2]; rfl
  have r3:XV l y = Jd (xi y 5) (xi y 6) (xi y 7) (xi l 8) (xi y 9) (xi y 10) (xi y 11) := by unfold XV; rw [Y.n,e1]; rfl
  have r4:Xa l y = Jg (xi y 5) (xi y 6) (xi y 7) (xi l 8) (xi y 9) (xi y 10) (xi y 11) := by unfold Xa; rw [Y.n,e2]; rfl
  have za:Jd (xi y 2) (xi y 3) (xi y 4) (xi l 8) (xi y 9) (xi y 10) (xi y 11) ≠ 0 ∨ Jg (xi y 2) (xi y 3) (xi y 4) (xi l 8) (xi y 9) (xi y 10) (xi y 11) ≠ 0 := by
    unfold Jd Jg; rw [A0.2,A1.2]; exact m6
  have zb:Jd (xi y 5) (xi y 6) (xi y 7) (xi l 8) (xi y 9) (xi y 10) (xi y 11) ≠ 0 ∨ Jg (xi y 5) (xi y 6) (xi y 7) (xi l 8) (xi y 9) (xi y 10) (xi y 11) ≠ 0 := by
    unfold Jd Jg; rw [B0.2,B1.2]; exact m7
  have ia:∀ p q:Int,b9 p → b9 q → KQ (xi y 2) (xi y 3) (xi y 4) (xi y 5) (xi y 6) (xi y 7) (xi l 8) (xi y 9) (xi y 10) (xi y 11) (xi y 12) false p q = QN (Jd (xi y 2) (xi y 3) (xi y 4) (xi l 8) (xi y 9) (xi y 10) (xi y 11)) (Jg (xi y 2) (xi y 3) (xi y 4) (xi l 8) (xi y 9) (xi y 10) (xi y 11)) (Jd (xi y 5) (xi y 6) (xi y 7) (xi l 8) (xi y 9) (xi y 10) (xi y 11)) (Jg (xi y 5) (xi y 6) (xi y 7) (xi l 8) (xi y 9) (xi y 10) (xi y 11)) p q (xi y 12) false :=
    fun p q hp hq => JLU m4 A0.1 A1.1 B0.1 B1.1 za zb hp hq
  have w0:Jd (JP (xi l 8) a0 a1 (J9 (xi l 8) (xi y 2) (xi y 3) (xi y 4))) (JQ (xi l 8) a0 a1 (J9 (xi l 8) (xi y 2) (xi y 3) (xi y 4))) (JR (xi l 8) a0 a1 (J9 (xi l 8) (xi y 2) (xi y 3) (xi y 4))) (xi l 8) (xi y 9) (xi y 10) (xi y 11) = IntKind.i64.wrap (a0 - J3 (xi l 8) (xi y 9) (xi y 10) (xi y 11)) := by unfold Jd; rw [q0]
  have w1:Jg (JP (xi l 8) a0 a1 (J9 (xi l 8) (xi y 2) (xi y 3) (xi y 4))) (JQ (xi l 8) a0 a1 (J9 (xi l 8) (xi y 2) (xi y 3) (xi y 4))) (JR (xi l 8) a0 a1 (J9 (xi l 8) (xi y 2) (xi y 3) (xi y 4))) (xi l 8) (xi y 9) (xi y 10) (xi y 11) = IntKind.i64.wrap (a1 - J4 (xi l 8) (xi y 9) (xi y 10) (xi y 11)) := by unfold Jg; rw [q1]
  have ip:KQ (JP (xi l 8) a0 a1 (J9 (xi l 8) (xi y 2) (xi y 3) (xi y 4))) (JQ (xi l 8) a0 a1 (J9 (xi l 8) (xi y 2) (xi y 3) (xi y 4))) (JR (xi l 8) a0 a1 (J9 (xi l 8) (xi y 2) (xi y 3) (xi y 4))) (xi y 5) (xi y 6) (xi y 7) (xi l 8) (xi y 9) (xi y 10) (xi y 11) (xi y 12) false (je u l y) (ja w l y) = QN (IntKind.i64.wrap (a0 - J3 (xi l 8) (xi y 9) (xi y 10) (xi y 11))) (IntKind.i64.wrap (a1 - J4 (xi l 8) (xi y 9) (xi y 10) (xi y 11))) (Jd (xi y 5) (xi y 6) (xi y 7) (xi l 8) (xi y 9) (xi y 10) (xi y 11)) (Jg (xi y 5) (xi y 6) (xi y 7) (xi l 8) (xi y 9) (xi y 10) (xi y 11)) (je u l y) (ja w l y) (xi y 12) false := by
    have := JLU (f0 := JP (xi l 8) a0 a1 (J9 (xi l 8) (xi y 2) (xi y 3) (xi y 4))) (f1 := JQ (xi l 8) a0 a1 (J9 (xi l 8) (xi y 2) (xi y 3) (xi y 4))) (f2 := JR (xi l 8) a0 a1 (J9 (xi l 8) (xi y 2) (xi y 3) (xi y 4))) (t0 := xi y 5) (t1 := xi y 6) (t2 := xi y 7) (p := xi l 8) (c0 := xi y 9) (c1 := xi y 10) (c2 := xi y 11) (u := je u l y) (w := ja w l y) m4 (by rw [w0]; exact S0.1) (by rw [w1]; exact S1.1) B0.1 B1.1 (by rw [w0,w1,S0.2,S1.2]; exact n6) zb T0.1 T1.1
    rw [w0,w1] at this
    exact this
  have st := Jh8 (Jd (xi y 5) (xi y 6) (xi y 7) (xi l 8) (xi y 9) (xi y 10) (xi y 11)) (Jg (xi y 5) (xi y 6) (xi y 7) (xi l 8) (xi y 9) (xi y 10) (xi y 11)) (xi y 12) m8
  unfold WE
  rw [r1,r2,r3,r4,e1,e2,e3,hf,Y.p,ip,ia _ _ S0.1 S1.1,ia _ _ (show b9 (je u l y) from T0.1) (show b9 (ja w l y) from T1.1)]
  have f0:J0 u (J3 (xi l 8) (xi y 9) (xi y 10) (xi y 11)) = je u l y := rfl
  have f1:J0 w (J4 (xi l 8) (xi y 9) (xi y 10) (xi y 11)) = ja w l y := rfl
  have g0:J0 a0 (J3 (xi l 8) (xi y 9) (xi y 10) (xi y 11)) = IntKind.i64.wrap (a0 - J3 (xi l 8) (xi y 9) (xi y 10) (xi y 11)) := rfl
  have g1:J0 a1 (J4 (xi l 8) (xi y 9) (xi y 10) (xi y 11)) = IntKind.i64.wrap (a1 - J4 (xi l 8) (xi y 9) (xi y 10) (xi y 11)) := rfl
  rw [f0,f1,g0,g1]
  cases tr
  · have:Xp = true := by simpa using hc
    rw [this]
    simp only [cond_true,cond_false,st,Bool.not_true,Bool.false_or]
  · cases Xp
    · simp only [cond_true,cond_false,Jq0,Bool.not_true,Bool.or_false,Bool.not_false,Bool.true_or]
      generalize QN _ _ _ _ _ _ _ _ = X
      cases X <;> rfl
    · simp only [cond_true,cond_false]
      generalize QN (Jd (xi y 2) (xi y 3) (xi y 4) (xi l 8) (xi y 9) (xi y 10) (xi y 11)) _ _ _ _ _ _ _ = X
      generalize QN (IntKind.i64.wrap (a0 - J3 (xi l 8) (xi y 9) (xi y 10) (xi y 11))) _ _ _ _ _ _ _ = Z
      cases X <;> cases Z <;> rfl
theorem JgH {l y:List GC} (L:LI l) (Y:YI l y) (hk:xi y 0 = 3) {u w a0 a1:Int} (hu:bd 4000000 u) (hw:bd 4000000 w) (h0:bd 4000000 a0) (h1:bd 4000000 a1) (Xp tr:Bool) :
    Q0 u w Xp l y a0 a1 tr = Q8 u w Xp l y a0 a1 tr ∧ ZR u w Xp l y a0 a1 tr = Zt u w Xp l y a0 a1 tr [] := by
  obtain ⟨e1,e2,e3,e4⟩ := JGp hk (xi l 8)
  obtain ⟨b2,b3,b4,b5⟩ := JtO L Y hk a0 a1
  obtain ⟨_,_,_,m4,_⟩ := WR (Y.A hk)
  have k2:(xi y 0 == 2) = false := by rw [hk]; rfl
  have d0:(JJ y == 0) = false := by rw [e3]; rcases m4 with h | h <;> rw [h] <;> rfl
  have ck:∀ F,WH (xi y 0) (JP (xi l 8) a0 a1 (J9 (xi l 8) (xi y 2) (xi y 3) (xi y 4))) (JQ (xi l 8) a0 a1 (J9 (xi l 8) (xi y 2) (xi y 3) (xi y 4))) (JR (xi l 8) a0 a1 (J9 (xi l 8) (xi y 2) (xi y 3) (xi y 4))) (JP (xi l 8) u w (J9 (xi l 8) (xi y 5) (xi y 6) (xi y 7))) (JQ (xi l 8) u w (J9 (xi l 8) (xi y 5) (xi y 6) (xi y 7))) (JR (xi l 8) u w (J9 (xi l 8) (xi y 5) (xi y 6) (xi y 7))) (Ki y) (XL y a0 a1 l) (XO y a0 a1 l) (XS y a0 a1 l) (xi y 12) F = XW (xi y 0) (JP (xi l 8) a0 a1 (J9 (xi l 8) (xi y 2) (xi y 3) (xi y 4))) (JQ (xi l 8) a0 a1 (J9 (xi l 8) (xi y 2) (xi y 3) (xi y 4))) (JR (xi l 8) a0 a1 (J9 (xi l 8) (xi y 2) (xi y 3) (xi y 4))) (JP (xi l 8) u w (J9 (xi l 8) (xi y 5) (xi y 6) (xi y 7))) (JQ (xi l 8) u w (J9 (xi l 8) (xi y 5) (xi y 6) (xi y 7))) (JR (xi l 8) u w (J9 (xi l 8) (xi y 5) (xi y 6) (xi y 7))) (bif xi y 0 != 3 then 0 else xi y 8) (xi y 9) (xi y 10) (xi y 11) (xi y 12) F := fun F => by rw [b2,b3,b4,b5,JZO]
  have eo:(tr || Xp) = (Xp || tr) := Bool.or_comm ..
  unfold Q0 Q8 ZR Zt
  have s1:JWD y = (bif xi y 0 != 3 then 0 else xi y 8) := rfl
  rw [L.n,Y.n,d0,k2,eo,ck,ck,s1,b2,b3,b4,b5]
  simp only [cond_false]
  cases hc:(Xp || tr)
  · obtain ⟨h2,h3⟩:Xp = false ∧ tr = false := by simpa using hc
    rw [h2,h3]
    simp only [cond_false,Bool.false_and,Bool.not_false,Bool.and_true,List.nil_append]
    exact ⟨trivial,rfl⟩
  · have ff:(xb y 13 && !Xp && !tr) = false := by cases Xp <;> cases tr <;> simp_all
    rw [ff]
    simp only [cond_true,Bool.true_and,e4,List.nil_append]
    cases hf:xb y 13
    · simp only [Bool.not_false,Bool.true_and]
      exact ⟨JcW fun hK => JVv L Y hk hu hw h0 h1 Xp tr hc hf hK,JcW fun hK => JVv L Y hk hu hw h0 h1 Xp tr hc hf hK⟩
    · simp only [Bool.not_true,Bool.false_and,cond_false]
      exact ⟨trivial,rfl⟩
theorem Yy {l y:List GC} (L:LI l) (Y:YI l y) {u w a0 a1:Int} (hu:bd 4000000 u) (hw:bd 4000000 w) (h0:bd 4000000 a0) (h1:bd 4000000 a1) (Xp tr:Bool) :
    Q0 u w Xp l y a0 a1 tr = Q8 u w Xp l y a0 a1 tr ∧ ZR u w Xp l y a0 a1 tr = Zt u w Xp l y a0 a1 tr [] := by
  rcases Y.k with hk | hk
  · exact Jew L Y hk u w a0 a1 Xp tr
  · exact JgH L Y hk hu hw h0 h1 Xp tr
theorem Jlg {l:List GC} (L:LI l):bd 1000000000 (JO l) := by
  unfold JO
  obtain ⟨r1,r2⟩ := L.ra
  rcases L.sd with h | h <;> rw [h]
  · rw [X7 (by omega) (by omega)]; exact ⟨by omega,by omega⟩
  · rw [X7 (by omega) (by omega)]; exact ⟨by omega,by omega⟩
theorem JCI {l y:List GC} (Y:YI l y):Wi y l = nE l y ∧ Ys y l = n0 l y ∧ Yv y l = n1 l y ∧ Wd l y = nE l y ∧ QW l y = f0 l y ∧ QX l y = f1 l y ∧ Yg l y = nE l y := by
  obtain ⟨h0,h1,h2,h3,h4⟩ := JRz (JO l) Y.E
  exact ⟨h4.symm,h0.symm,h1.symm,h4.symm,h2.symm,h3.symm,h4.symm⟩
theorem Jci {l y x:List GC} (L:LI l) (Y:YI l y) (X:YI l x) :
    Wv (J3 (xi l 8) (xi y 2) (xi y 3) (xi y 4)) (J4 (xi l 8) (xi y 2) (xi y 3) (xi y 4)) (J3 (xi l 8) (xi y 5) (xi y 6) (xi y 7)) (J4 (xi l 8) (xi y 5) (xi y 6) (xi y 7)) (JL (xi l 8) y) (JM (xi l 8) y) (JJ y) (QI y) (J3 (xi l 8) (xi x 2) (xi x 3) (xi x 4)) (J4 (xi l 8) (xi x 2) (xi x 3) (xi x 4)) (J3 (xi l 8) (xi x 5) (xi x 6) (xi x 7)) (J4 (xi l 8) (xi x 5) (xi x 6) (xi x 7)) (JL (xi l 8) x) (JM (xi l 8) x) (JJ x) (QI x) (JO l) = tr0 l y x ∧
    j6 (J3 (xi l 8) (xi y 2) (xi y 3) (xi y 4)) (J4 (xi l 8) (xi y 2) (xi y 3) (xi y 4)) (J3 (xi l 8) (xi y 5) (xi y 6) (xi y 7)) (J4 (xi l 8) (xi y 5) (xi y 6) (xi y 7)) (JL (xi l 8) y) (JM (xi l 8) y) (JJ y) (QI y) (J3 (xi l 8) (xi x 2) (xi x 3) (xi x 4)) (J4 (xi l 8) (xi x 2) (xi x 3) (xi x 4)) (J3 (xi l 8) (xi x 5) (xi x 6) (xi x 7)) (J4 (xi l 8) (xi x 5) (xi x 6) (xi x 7)) (JL (xi l 8) x) (JM (xi l 8) x) (JJ x) (QI x) (JO l) = tr1 l y x ∧
    JDO (J3 (xi l 8) (xi y 2) (xi y 3) (xi y 4)) (J4 (xi l 8) (xi y 2) (xi y 3) (xi y 4)) (J3 (xi l 8) (xi y 5) (xi y 6) (xi y 7)) (J4 (xi l 8) (xi y 5) (xi y 6) (xi y 7)) (JL (xi l 8) y) (JM (xi l 8) y) (JJ y) (QI y) (J3 (xi l 8) (xi x 2) (xi x 3) (xi x 4)) (J4 (xi l 8) (xi x 2) (xi x 3) (xi x 4)) (J3 (xi l 8) (xi x 5) (xi x 6) (xi x 7)) (J4 (xi l 8) (xi x 5) (xi x 6) (xi x 7)) (JL (xi l 8) x) (JM (xi l 8) x) (JJ x) (QI x) (JO l) = trE l y x := by
  obtain ⟨h0,h1,h2⟩ := Jog (QI y) (QI x) Y.E X.E (Jlg L)
  exact ⟨h0.symm,h1.symm,h2.symm⟩
theorem JrG (e0 e1 e2 e3 e4 e5 e6:Int) (e7:Bool) (f0 f1 f2 f3 f4 f5 f6:Int) (f7:Bool) (r:Int):bd 1048576 (Wv e0 e1 e2 e3 e4 e5 e6 e7 f0 f1 f2 f3 f4 f5 f6 f7 r) ∧ bd 1048576 (j6 e0 e1 e2 e3 e4 e5 e6 e7 f0 f1 f2 f3 f4 f5 f6 f7 r) := by
  have z:bd 1048576 0 := by decide
  have key:∀ (a b c d p q s:Bool) (x:Int),(d = false → bd 1048576 x) → bd 1048576 (bif a then 0 else bif b then 0 else bif c then 0 else bif d then 0 else bif p then (bif q then 0 else x) else bif s then 0 else x) := fun a b c d p q s x h => by
    cases a
    · cases b
      · cases c
        · cases d
          · have := h rfl
            cases p <;> cases q <;> cases s <;> first | exact z | exact this
          · exact z
        · exact z
      · exact z
    · exact z
  have w:∀ u v:Int,(!QR u v) = false → bd 1048576 u ∧ bd 1048576 v := fun u v h => by
    have h':QR u v = true := by simpa using h
    unfold QR at h'
    simp only [Bool.and_eq_true] at h'
    exact ⟨(jB (by omega) (by omega)).1 h'.1,(jB (by omega) (by omega)).1 h'.2⟩
  exact ⟨key _ _ _ _ _ _ _ _ fun h => (w _ _ h).1,key _ _ _ _ _ _ _ _ fun h => (w _ _ h).2⟩
theorem Jvk {l y x:List GC} (L:LI l) (Y:YI l y) (X:YI l x):bd 4000000 (tr0 l y x) ∧ bd 4000000 (tr1 l y x) := by
  obtain ⟨h0,h1,_⟩ := Jci L Y X
  rw [← h0,← h1]
  obtain ⟨a,b⟩ := JrG (J3 (xi l 8) (xi y 2) (xi y 3) (xi y 4)) (J4 (xi l 8) (xi y 2) (xi y 3) (xi y 4)) (J3 (xi l 8) (xi y 5) (xi y 6) (xi y 7)) (J4 (xi l 8) (xi y 5) (xi y 6) (xi y 7)) (JL (xi l 8) y) (JM (xi l 8) y) (JJ y) (QI y) (J3 (xi l 8) (xi x 2) (xi x 3) (xi x 4)) (J4 (xi l 8) (xi x 2) (xi x 3) (xi x 4)) (J3 (xi l 8) (xi x 5) (xi x 6) (xi x 7)) (J4 (xi l 8) (xi x 5) (xi x 6) (xi x 7)) (JL (xi l 8) x) (JM (xi l 8) x) (JJ x) (QI x) (JO l)
  exact ⟨bd4 a,bd4 b⟩
theorem JhQ (l y:List GC):bd 4000000 (n0 l y) ∧ bd 4000000 (n1 l y) ∧ bd 4000000 (f0 l y) ∧ bd 4000000 (f1 l y) := by
  unfold n0 n1 f0 f1
  exact ⟨bd4 (JEw ..).1,bd4 (JEw ..).2.1,bd4 (JEw ..).2.2.1,bd4 (JEw ..).2.2.2⟩
theorem qF {l y x:List GC} (Y:YI l y) (X:YI l x):Jw x l y = kd l y x := by
  obtain ⟨a0,a1⟩ := JVq Y true
  obtain ⟨b0,b1⟩ := JVq X false
  unfold kd
  rw [a0,a1,b0,b1,JiK]
  rfl
theorem JXy {l y x:List GC} (L:LI l) (Y:YI l y) (X:YI l x) :
    JuY x l y = (bif kd l y x == 2 then trE l y x else bif nE l y == 0 then nE l x else nE l y) ∧
    Xs x l y = (bif kd l y x == 2 then tr0 l y x else f0 l y) ∧ Xv x l y = (bif kd l y x == 2 then tr1 l y x else f1 l y) ∧
    zR x l y = (bif kd l y x == 2 then tr0 l y x else bif nE l y == 0 then n0 l x else 0) ∧ kw x l y = (bif kd l y x == 2 then tr1 l y x else bif nE l y == 0 then n1 l x else 0) := by
  obtain ⟨t0,t1,t2⟩ := Jci L Y X
  obtain ⟨x0,x1,x2,_⟩ := JCI X
  obtain ⟨_,_,_,_,y4,y5,y6⟩ := JCI Y
  rw [← qF Y X,← t0,← t1,← t2,← x0,← x1,← x2,← y4,← y5,← y6]
  exact ⟨rfl,rfl,rfl,rfl,rfl⟩
theorem Jtz {x s:Int} (hx:XY x) (hs:s = 1 ∨ s = -1):(IntKind.i64.wrap (x * IntKind.i64.wrap (0 - s)) == 0) = (x == 0) := by
  obtain ⟨h1,h2⟩ := hx
  have e:∀ z:Int,(z == 0) = decide (z = 0) := fun z => rfl
  rcases hs with rfl | rfl
  · rw [show IntKind.i64.wrap (0 - 1) = -1 from by decide,Int.mul_neg_one]
    by_cases hm:x = -9223372036854775808
    · subst hm; decide
    · rw [X7 (by omega) (by omega),e,e]
      exact decide_eq_decide.2 (by omega)
  · rw [show IntKind.i64.wrap (0 - -1) = 1 from by decide,Int.mul_one,X7 h1 h2]
theorem JiR {l x:List GC} (L:LI l) (u0 u1 v0 v1:Int) (ou:Bool) (O:LL):Wl x v0 v1 ou l u0 u1 O = O ++ Wa x u0 u1 v0 v1 ou l := by
  have e1:Ws x v0 v1 l u0 u1 = Y4 x u0 u1 v0 v1 l := rfl
  have e0:(Y4 x u0 u1 v0 v1 l == 0) = (Ky x u0 u1 v0 v1 l == 0) := Jtz (Jk _) L.sd
  unfold Wl Wa
  rw [e1,e0]
  rw [show J8 (K3 x l u0) (Xz x l u1) (Xy x v0 l) (Xx x v1 l) = Yl x u0 u1 v0 v1 l from rfl,show J8 (K3 x l u0) (Xz x l u1) (K3 x l u0) (Xz x l u1) = ZS x u0 u1 l from rfl,show J8 (Xy x v0 l) (Xx x v1 l) (Xy x v0 l) (Xx x v1 l) = ZS x v0 v1 l from rfl]
  generalize (ou && (decide (Y4 x u0 u1 v0 v1 l > 0) || Ky x u0 u1 v0 v1 l == 0 && decide (Yl x u0 u1 v0 v1 l < 0)) && decide (ZS x u0 u1 l ≥ 64) && decide (ZS x v0 v1 l ≥ 64)) = c
  cases c
  · simp only [cond_false]
    unfold Zu Yo
    rw [L.n,Bool.false_or]
    show (bif !(JP (xi l 8) u0 u1 (J9 (xi l 8) (xi x 2) (xi x 3) (xi x 4)) == JP (xi l 8) v0 v1 (J9 (xi l 8) (xi x 2) (xi x 3) (xi x 4)) && (JQ (xi l 8) u0 u1 (J9 (xi l 8) (xi x 2) (xi x 3) (xi x 4)) == JQ (xi l 8) v0 v1 (J9 (xi l 8) (xi x 2) (xi x 3) (xi x 4)) && JR (xi l 8) u0 u1 (J9 (xi l 8) (xi x 2) (xi x 3) (xi x 4)) == JR (xi l 8) v0 v1 (J9 (xi l 8) (xi x 2) (xi x 3) (xi x 4)))) then _ else _) = O ++ (bif true && (JP (xi l 8) u0 u1 (J9 (xi l 8) (xi x 2) (xi x 3) (xi x 4)) == JP (xi l 8) v0 v1 (J9 (xi l 8) (xi x 2) (xi x 3) (xi x 4)) && (JQ (xi l 8) u0 u1 (J9 (xi l 8) (xi x 2) (xi x 3) (xi x 4)) == JQ (xi l 8) v0 v1 (J9 (xi l 8) (xi x 2) (xi x 3) (xi x 4)) && JR (xi l 8) u0 u1 (J9 (xi l 8) (xi x 2) (xi x 3) (xi x 4)) == JR (xi l 8) v0 v1 (J9 (xi l 8) (xi x 2) (xi x 3) (xi x 4)))) then [] else _)
    rw [Bool.true_and]
    cases (JP (xi l 8) u0 u1 (J9 (xi l 8) (xi x 2) (xi x 3) (xi x 4)) == JP (xi l 8) v0 v1 (J9 (xi l 8) (xi x 2) (xi x 3) (xi x 4)) && (JQ (xi l 8) u0 u1 (J9 (xi l 8) (xi x 2) (xi x 3) (xi x 4)) == JQ (xi l 8) v0 v1 (J9 (xi l 8) (xi x 2) (xi x 3) (xi x 4)) && JR (xi l 8) u0 u1 (J9 (xi l 8) (xi x 2) (xi x 3) (xi x 4)) == JR (xi l 8) v0 v1 (J9 (xi l 8) (xi x 2) (xi x 3) (xi x 4))))
    · rfl
    · exact (List.append_nil _).symm
  · rfl
def CI (C:LL):Prop := ∀ r ∈ C,J5 (r.getD 0 0) = true → r.getD 0 0 = 2
theorem JpF (l:List GC) (a0 a1:Int) (O:LL) (r:List Int) (hl:J2 l = l) (h:J5 (r.getD 0 0) = true → r.getD 0 0 = 2):JUL l a0 a1 O r = rfS l a0 a1 O r := by
  unfold JUL rfS
  cases hm:J5 (r.getD 0 0)
  · rfl
  · rw [cond_true,cond_true]
    have hk := h hm
    unfold Zu Yz
    rw [hl,Bool.false_or]
    have k2:(xi (Jqi l (Jj r) a0 a1 a0 a1) 0 == 2) = true := by show (r.getD 0 0 == 2) = true; rw [hk]; rfl
    rw [k2,Bool.true_and]
    have k3:(r.getD 0 0 != 3) = true := by rw [hk]; rfl
    have c9:XL (Jj r) a0 a1 l = r.getD 9 0 := by unfold XL; show (bif r.getD 0 0 != 3 then _ else _) = _; rw [k3]; rfl
    have c10:XO (Jj r) a0 a1 l = r.getD 10 0 := by unfold XO; show (bif r.getD 0 0 != 3 then _ else _) = _; rw [k3]; rfl
    have c11:XS (Jj r) a0 a1 l = r.getD 11 0 := by unfold XS; show (bif r.getD 0 0 != 3 then _ else _) = _; rw [k3]; rfl
    unfold Jqi
    rw [hl,c9,c10,c11]
    show (bif !(JP (xi l 8) a0 a1 (J9 (xi l 8) (r.getD 2 0) (r.getD 3 0) (r.getD 4 0)) == JP (xi l 8) a0 a1 (J9 (xi l 8) (r.getD 5 0) (r.getD 6 0) (r.getD 7 0)) && (JQ (xi l 8) a0 a1 (J9 (xi l 8) (r.getD 2 0) (r.getD 3 0) (r.getD 4 0)) == JQ (xi l 8) a0 a1 (J9 (xi l 8) (r.getD 5 0) (r.getD 6 0) (r.getD 7 0)) && (JR (xi l 8) a0 a1 (J9 (xi l 8) (r.getD 2 0) (r.getD 3 0) (r.getD 4 0)) == JR (xi l 8) a0 a1 (J9 (xi l 8) (r.getD 5 0) (r.getD 6 0) (r.getD 7 0))))) then _ else _) = (bif (JP (xi l 8) a0 a1 (J9 (xi l 8) (r.getD 2 0) (r.getD 3 0) (r.getD 4 0)) == JP (xi l 8) a0 a1 (J9 (xi l 8) (r.getD 5 0) (r.getD 6 0) (r.getD 7 0)) && (JQ (xi l 8) a0 a1 (J9 (xi l 8) (r.getD 2 0) (r.getD 3 0) (r.getD 4 0)) == JQ (xi l 8) a0 a1 (J9 (xi l 8) (r.getD 5 0) (r.getD 6 0) (r.getD 7 0)) && (JR (xi l 8) a0 a1 (J9 (xi l 8) (r.getD 2 0) (r.getD 3 0) (r.getD 4 0)) == JR (xi l 8) a0 a1 (J9 (xi l 8) (r.getD 5 0) (r.getD 6 0) (r.getD 7 0))))) then _ else _)
    cases (JP (xi l 8) a0 a1 (J9 (xi l 8) (r.getD 2 0) (r.getD 3 0) (r.getD 4 0)) == JP (xi l 8) a0 a1 (J9 (xi l 8) (r.getD 5 0) (r.getD 6 0) (r.getD 7 0)) && (JQ (xi l 8) a0 a1 (J9 (xi l 8) (r.getD 2 0) (r.getD 3 0) (r.getD 4 0)) == JQ (xi l 8) a0 a1 (J9 (xi l 8) (r.getD 5 0) (r.getD 6 0) (r.getD 7 0)) && (JR (xi l 8) a0 a1 (J9 (xi l 8) (r.getD 2 0) (r.getD 3 0) (r.getD 4 0)) == JR (xi l 8) a0 a1 (J9 (xi l 8) (r.getD 5 0) (r.getD 6 0) (r.getD 7 0))))) <;> rfl
theorem Jgo (x:List GC) (O:LL):Yz x O = O ++ Yz x [] := by
  unfold Yz
  cases (_:Bool) && _
  · rfl
  · exact (List.append_nil _).symm
theorem Jub (l:List GC) (a b:Int) (O:LL) (r:List Int):rfS l a b O r = O ++ rfS l a b [] r := by
  unfold rfS
  cases J5 (r.getD 0 0)
  · rfl
  · exact Jgo ..
theorem JSD (l:List GC) (a b:Int):∀ (C O:LL),C.foldl (rfS l a b) O = O ++ C.foldl (rfS l a b) []
  | [],O => (List.append_nil _).symm
  | r :: C,O => by
    rw [List.foldl_cons,List.foldl_cons,JSD l a b C,JSD l a b C (rfS l a b [] r),Jub l a b O,List.append_assoc]
theorem Jbf (l:List GC) (a0 a1:Int) (hl:J2 l = l):∀ (C O:LL),CI C → JaD l a0 a1 O C = C.foldl (rfS l a0 a1) O
  | [],O,_ => rfl
  | r :: C,O,h => by
    show JaD l a0 a1 (JUL l a0 a1 O r) C = _
    rw [JpF l a0 a1 O r hl (h r (List.mem_cons_self ..)),Jbf l a0 a1 hl C _ fun q hq => h q (List.mem_cons_of_mem _ hq)]
    rfl
theorem JAG {l:List GC} (hl:J2 l = l) (a0 a1:Int) {C:LL} (O:LL) (h:CI C):QY l a0 a1 C O = O ++ ZC l a0 a1 C := by
  unfold QY ZC rfL
  rw [hl,Jbf l a0 a1 hl C O h,JSD]
theorem JiO {l:List GC} (L:LI l) (u w:Int):Zu l u w (J9 (xi l 8) (xi l 2) (xi l 3) (xi l 4)) (J9 (xi l 8) (xi l 2) (xi l 3) (xi l 4)) true l (J3 (xi l 8) (xi l 2) (xi l 3) (xi l 4)) (J4 (xi l 8) (xi l 2) (xi l 3) (xi l 4)) [] = [Jwi l (J3 (xi l 8) (xi l 2) (xi l 3) (xi l 4)) (J4 (xi l 8) (xi l 2) (xi l 3) (xi l 4)) u w] := by
  have k3:(xi l 0 != 3) = true := by rw [L.k]; rfl
  have c9:XL l (J3 (xi l 8) (xi l 2) (xi l 3) (xi l 4)) (J4 (xi l 8) (xi l 2) (xi l 3) (xi l 4)) l = xi l 9 := by unfold XL; rw [k3]; rfl
  have c10:XO l (J3 (xi l 8) (xi l 2) (xi l 3) (xi l 4)) (J4 (xi l 8) (xi l 2) (xi l 3) (xi l 4)) l = xi l 10 := by unfold XO; rw [k3]; rfl
  have c11:XS l (J3 (xi l 8) (xi l 2) (xi l 3) (xi l 4)) (J4 (xi l 8) (xi l 2) (xi l 3) (xi l 4)) l = xi l 11 := by unfold XS; rw [k3]; rfl
  unfold Zu Jwi
  rw [c9,c10,c11,← L.hh]
  rfl
theorem Je0 {l x:List GC} (L:LI l) (hv:Qc x = true) (hm:J5 (xi x 0) = true) (hs:(xi x 16 == 0) = true) (hd:JX x (xi l 8) (xi l 17) = true) (u w:Int) (O:LL) :
    Zu x (J3 (xi l 8) (xi x 5) (xi x 6) (xi x 7)) (J4 (xi l 8) (xi x 5) (xi x 6) (xi x 7)) (J9 (xi l 8) (xi x 5) (xi x 6) (xi x 7)) (J9 (xi l 8) (xi x 5) (xi x 6) (xi x 7)) true l u w O = O ++ [Jqq x l u w] := by
  obtain ⟨_,_,h3,_⟩ := JHF hv hm
  obtain ⟨r0,p0⟩ := h3 hs
  unfold JX at hd
  simp only [Bool.and_eq_true,beq_iff_eq] at hd
  obtain ⟨⟨⟨hk,hh⟩,_⟩,_⟩ := hd
  have s0:xi x 16 = 0 := by simpa using hs
  have p0:xi x 8 = 0 := by
    rcases p0 with h | h
    · exact h
    · rw [hk] at h; exact absurd h (by decide)
  obtain ⟨q0,q1,q2⟩ := JZs L.pl (xi x 5) (xi x 6) (xi x 7)
  unfold Zu Jqq
  rw [q0,q1,q2,hh,s0,r0,p0,hk]
  rfl
theorem JHo (x:List GC) (p r:Int):JX x p r = ZO p r x := by
  unfold JX ZO
  rw [show J8 (JGC x p) (JFs x p) (JGC x p) (JFs x p) = JFf p x from rfl]
  cases xi x 0 == 2 <;> cases decide (JFf p x > 0) <;> cases decide (JFf p x ≥ IntKind.i64.wrap (r * r)) <;> cases (J9 p (xi x 2) (xi x 3) (xi x 4) == J9 p (xi x 5) (xi x 6) (xi x 7)) <;> rfl
structure Op (s:St) (t:Rt):Prop where
  l:s.l = t.l
  L:LI s.l
  C:s.C = t.C
  ci:CI s.C
  h:t.has = (xi s.y 0 != 0)
  z:t.has = false → s.tr = false
  e:t.has = true → s.y = t.y ∧ YI s.l s.y ∧ s.a0 = t.st0 ∧ s.a1 = t.st1 ∧ bd 4000000 s.a0 ∧ bd 4000000 s.a1 ∧ s.tr = t.tr
structure Rel (s:St) (t:Rt):Prop where
  cl:s.cl = t.cl
  er:s.er = t.er
  sl:J2 s.l = s.l
  sy:J2 s.y = s.y
  tl:J2 t.l = t.l
  ty:J2 t.y = t.y
  C8:s.C.length ≤ 8
  D8:t.C.length ≤ 8
  ok:s.er = 0 → s.op = t.op ∧ s.mo = t.mo ∧ s.en = t.en ∧ s.la0 = t.la0 ∧ s.la1 = t.la1 ∧ s.la2 = t.la2 ∧ (s.op = true → Op s t)
def Jv6 (x:List GC) (t:Rt):Int := Q9 x t.cl t.op t.mo t.en t.la0 t.la1 t.la2 t.l t.has t.y t.st0 t.st1 t.tr t.C
theorem JmN (a:Int):(bif a != 0 then a else 0) = a := JDG a
theorem JuX {x:List GC} {t:Rt} (hx:J2 x = x) (he:t.er = 0) (hl:J2 t.l = t.l) (hy:J2 t.y = t.y):rE x t = Jv6 x t := by
  unfold rE Z0 Z3 Jv6
  rw [he,bne_self_eq_false,cond_false,JmN,hx,hl,hy,hl,hy]
theorem Ju8 {x:List GC} {t:Rt} (he:t.er ≠ 0):rE x t = t.er := by
  unfold rE Z0
  rw [show (t.er != 0) = true by simpa using he]; rfl
theorem Jx2 (x:List GC) (t:Rt):(rS x t).cl = t.cl := by
  unfold rS JB3
  simp only [Bool.cond_self]
theorem Jx1 (x:List GC) (t:Rt):(rS x t).er = rE x t := by
  unfold rS rE Wr Z0
  show (bif t.er != 0 then t.er else bif (Z3 ..) != 0 then _ else t.er) = _
  cases h:(t.er != 0)
  · have:t.er = 0 := by simpa using h
    rw [this]
  · rfl
theorem Js9 {x:List GC} {t:Rt} (he:t.er ≠ 0):rO x t = [] := by
  unfold rO KJ
  rw [show (t.er != 0) = true by simpa using he]; rfl
theorem JwD {x:List GC} {t:Rt} (he:t.er = 0) (h:rE x t ≠ 0):rO x t = [] := by
  unfold rE Z0 Z3 at h
  rw [he,bne_self_eq_false,cond_false,JmN] at h
  unfold rO KJ
  rw [he,bne_self_eq_false,cond_false,bne_iff_ne.2 h]; rfl
theorem Jxe (x:List GC) (t:Rt):J2 (rS x t).l = (rS x t).l := by kernel_rfl
theorem JxT (x:List GC) (t:Rt):J2 (rS x t).y = (rS x t).y := by kernel_rfl
theorem JuZ (x:List GC) (s:St):J2 (Zm x s).l = (Zm x s).l := by kernel_rfl
theorem Juf (x:List GC) (s:St):J2 (Zm x s).y = (Zm x s).y := by kernel_rfl
theorem Jx3 (x:List GC) (t:Rt) (h:t.C.length ≤ 8):(rS x t).C.length ≤ 8 := by
  show (YB ..).length ≤ 8
  unfold YB
  exact WU h (WU h (JeI _ _ _ _ _ _ _ _ _ _ _ _ _ _ _ h))
theorem Jwf (a b:Int):(bif a != 0 then a else bif b != 0 then b else 0) = (bif a == 0 then (bif b != 0 then b else 0) else (bif a != 0 then a else 0)) := by
  cases h:(a == 0)
  · have:(a != 0) = true := by simpa using h
    rw [this]; rfl
  · have:(a != 0) = false := by simpa using h
    rw [this]; rfl
theorem Jh6 {x:List GC} {s:St} {t:Rt} (hx:J2 x = x) (hmo:s.mo = t.mo) (hen:s.en = t.en) (h0:s.la0 = t.la0) (h1:s.la1 = t.la1) (h2:s.la2 = t.la2):inv x s = JJf x t := by
  unfold inv JJf
  rw [JjU,hmo,hen,h0,h1,h2]
theorem JP4 (x l:List GC):jM x l = (!J5 (xi x 0) || !ZL (xi l 8) x) := rfl
theorem JrW (x l:List GC):(xi x 0 == 1 || xi x 0 == 11 || xi x 0 == 14 || J5 (xi x 0) && (xi x 8 != xi l 8 || xi x 16 != xi l 16 || xi x 17 != xi l 17)) = (three x || odd x l) := rfl
theorem JdR {x:List GC} {s:St} (hx:J2 x = x) (hi:inv x s = false) (hm:(J5 (xi x 0) && xi x 16 == 0) = false) (h3:three x = false) (ho:odd x s.l = false) (hmo:J5 (xi x 0) = true) :
    Qc x = true ∧ (xi x 16 == 0) = false ∧ xi x 0 ≠ 1 ∧ xi x 8 = xi s.l 8 := by
  unfold inv at hi
  unfold three at h3
  unfold odd at ho
  rw [hx] at hi
  rw [hmo] at hm ho
  simp only [Bool.or_eq_false_iff,Bool.not_eq_false',Bool.true_and,beq_eq_false_iff_ne,ne_eq,bne_eq_false_iff_eq] at hi hm h3 ho
  exact ⟨hi.1.1,by simpa using hm,h3.1.1,ho.1.1⟩
theorem Jqj {x:List GC} {s:St} {t:Rt} (hx:J2 x = x) (R:Rel s t) (he:s.er = 0):Jv7 x s = Jv6 x t := by
  obtain ⟨hop,hmo,hen,h0,h1,h2,hO⟩ := R.ok he
  have hI := Jh6 hx hmo hen h0 h1 h2
  unfold Jv7 Jv6 Q9
  rw [← R.cl,← hop,hx]
  have hI2:(!Qt x || t.en || J5 (xi x 0) && t.mo && !(xi x 2 == t.la0 && (xi x 3 == t.la1 && xi x 4 == t.la2))) = JJf x t := by unfold JJf; rw [hx]
  rw [hI2,← hI]
  cases hcl:s.cl
  case true => rfl
  cases hi:inv x s
  case true => rfl
  simp only [cond_false]
  cases ho:s.op
  · simp only [Bool.not_false,Bool.true_and,cond_true]
    rw [JHo]
    have hne:(xi x 16 != 0) = !(xi x 16 == 0) := rfl
    rw [hne]
    cases J5 (xi x 0) <;> cases (xi x 16 == 0) <;> rfl
  · have O := hO ho
    simp only [Bool.not_true,Bool.false_and,cond_false]
    rw [← O.l]
    cases hm:(J5 (xi x 0) && xi x 16 == 0)
    · simp only [cond_false]
      rw [JrW,← JP4]
      cases h3:three x
      case true => rfl
      cases hd:odd x s.l
      case true => rfl
      simp only [Bool.or_self,cond_false]
      rw [← O.C]
      cases hs:jM x s.l
      case true => rfl
      simp only [cond_false]
      have hmot:J5 (xi x 0) = true := by
        unfold jM at hs
        simp only [Bool.or_eq_false_iff,Bool.not_eq_false'] at hs
        exact hs.1
      obtain ⟨v1,v2,v3,v4⟩ := JdR hx hi hm h3 hd hmot
      have X:YI s.l x := JmU hx v1 hmot v2 v3 v4
      obtain ⟨x0,_⟩ := JCI X
      have hh:(xi s.y 0 == 0) = !t.has := by rw [O.h]; cases hq:(xi s.y 0 == 0) <;> simp_all
      rw [hh]
      cases hha:t.has
      · simp only [Bool.not_false,cond_true]
        unfold JCc
        rw [O.L.n,x0]
      · simp only [Bool.not_true,cond_false]
        obtain ⟨ey,Y,ea,eb,ba,bb,et⟩ := O.e hha
        obtain ⟨b0,s5,s6,_,_⟩ := JXy O.L Y X
        rw [O.L.n,← ey,R.sy]
        unfold JGn
        rw [Jcr,JfN,O.L.n,R.sy,← ea,← eb,← et,qF Y X,b0,s5,s6]
        cases hk:(kd s.l s.y x == 2)
        · simp only [cond_false]
          obtain ⟨_,_,f1,f2⟩ := JhQ s.l s.y
          rw [(Yy O.L Y f1 f2 ba bb false s.tr).1]
          have hS:Q8 (f0 s.l s.y) (Go.Proofs.YtmbfbhimdkjkoaaGreat.f1 s.l s.y) false s.l s.y s.a0 s.a1 s.tr = shE (f0 s.l s.y) (Go.Proofs.YtmbfbhimdkjkoaaGreat.f1 s.l s.y) false s := by unfold shE; rw [R.sl,R.sy]
          rw [hS]
          cases hn:(nE s.l s.y == 0)
          · have:(nE s.l s.y != 0) = true := by simpa using hn
            rw [this]; simp only [cond_true,cond_false,this]
          · have:(nE s.l s.y != 0) = false := by simpa using hn
            rw [this]
            simp only [cond_true,cond_false]
            exact (Jwf _ _).symm
        · simp only [cond_true]
          obtain ⟨f1,f2⟩ := Jvk O.L Y X
          rw [(Yy O.L Y f1 f2 ba bb true s.tr).1]
          have hS:Q8 (tr0 s.l s.y x) (tr1 s.l s.y x) true s.l s.y s.a0 s.a1 s.tr = shE (tr0 s.l s.y x) (tr1 s.l s.y x) true s := by unfold shE; rw [R.sl,R.sy]
          rw [hS]
          exact (Jwf _ _).symm
    · simp only [cond_true]
      have hh:(xi s.y 0 == 0) = !t.has := by rw [O.h]; cases hq:(xi s.y 0 == 0) <;> simp_all
      rw [hh,JHo]
      cases hld:(!ZO (xi s.l 8) (xi s.l 17) x || !t.has)
      case true => rfl
      simp only [cond_false]
      have hha:t.has = true := by
        simp only [Bool.or_eq_false_iff,Bool.not_eq_false'] at hld
        exact hld.2
      obtain ⟨ey,Y,ea,eb,ba,bb,et⟩ := O.e hha
      obtain ⟨_,_,_,y3,y4,y5,_⟩ := JCI Y
      rw [O.L.n,← ey,R.sy]
      unfold JCf
      have hs1:JCG s.l s.y s.a0 s.a1 s.tr = Q0 (QW s.l s.y) (QX s.l s.y) false (J2 s.l) (J2 s.y) s.a0 s.a1 s.tr := by kernel_rfl
      rw [← ea,← eb,← et,y3,hs1,y4,y5,O.L.n,R.sy]
      obtain ⟨_,_,f1,f2⟩ := JhQ s.l s.y
      rw [(Yy O.L Y f1 f2 ba bb false s.tr).1]
      have hS:Q8 (f0 s.l s.y) (Go.Proofs.YtmbfbhimdkjkoaaGreat.f1 s.l s.y) false s.l s.y s.a0 s.a1 s.tr = shE (f0 s.l s.y) (Go.Proofs.YtmbfbhimdkjkoaaGreat.f1 s.l s.y) false s := by unfold shE; rw [R.sl,R.sy]
      rw [hS]
      exact (Jwf _ _).symm
def Rok (s:St) (t:Rt):Prop := s.op = t.op ∧ s.mo = t.mo ∧ s.en = t.en ∧ s.la0 = t.la0 ∧ s.la1 = t.la1 ∧ s.la2 = t.la2 ∧ (s.op = true → Op s t)
theorem JGw {x:List GC} {s:St} {t:Rt} (R:Rel s t) (hE:YU x s = rE x t) (h:(Zm x s).er = 0 → Rok (Zm x s) (rS x t)):Rel (Zm x s) (rS x t) :=
  ⟨by rw [Jx2]; exact (show s.cl = t.cl from R.cl),by rw [← JYT,Jx1,hE],JuZ x s,Juf x s,Jxe x t,JxT x t,JdV x s R.C8,Jx3 x t R.D8,h⟩
theorem JwS {s:St} {t:Rt} (x:List GC) (hmo:s.mo = t.mo) (h0:s.la0 = t.la0) (h1:s.la1 = t.la1) (h2:s.la2 = t.la2):(mvd x s).mo = (JIZ x t).mo ∧ (mvd x s).en = (JIZ x t).en ∧ (mvd x s).la0 = (JIZ x t).la0 ∧ (mvd x s).la1 = (JIZ x t).la1 ∧ (mvd x s).la2 = (JIZ x t).la2 := by
  refine ⟨?_,rfl,?_,?_,?_⟩
  · show (_ || _) = (_ || _); rw [hmo]
  · show (bif _ then _ else _) = (bif _ then _ else _); rw [h0]
  · show (bif _ then _ else _) = (bif _ then _ else _); rw [h1]
  · show (bif _ then _ else _) = (bif _ then _ else _); rw [h2]
theorem JuU {c:Bool} {n:Int} (h:(c && n != 0) = false):(!c || n == 0) = true := by
  have:(n != 0) = !(n == 0) := rfl
  rw [this] at h
  clear this
  generalize (n == 0) = b at *
  cases c <;> cases b <;> simp_all
theorem Jv1 {c:Bool} {n:Int} (h:(c && n != 0) = true):(!c || n == 0) = false ∧ c = true ∧ (n == 0) = false := by
  have:(n != 0) = !(n == 0) := rfl
  rw [this] at h
  clear this
  generalize (n == 0) = b at *
  cases c <;> cases b <;> simp_all
theorem JfP {l x:List GC} (X:YI l x):true = (xi x 0 != 0) := by
  rcases X.k with h | h <;> rw [h] <;> rfl
theorem JK9 {x:List GC} {s:St} {t:Rt} (hx:J2 x = x) (R:Rel s t):YU x s = rE x t ∧ Kv x s = rO x t ∧ Rel (Zm x s) (rS x t) := by
  by_cases he:s.er = 0
  case neg =>
    have he':t.er ≠ 0 := by rw [← R.er]; exact he
    have hE:YU x s = rE x t := by rw [JTX x s he,Ju8 he',R.er]
    refine ⟨hE,by rw [Jht x s he,Js9 he'],JGw R hE fun h => ?_⟩
    rw [← JYT,JTX x s he] at h
    exact absurd h he
  have he':t.er = 0 := by rw [← R.er]; exact he
  have hE:YU x s = rE x t := by rw [JVr x s he,JuX hx he' R.tl R.ty,Jqj hx R he]
  refine ⟨hE,?_⟩
  by_cases h:YU x s = 0
  case neg =>
    have h':rE x t ≠ 0 := by rw [← hE]; exact h
    refine ⟨by rw [Jno x s h,JwD he' h'],JGw R hE fun q => ?_⟩
    rw [← JYT] at q
    exact absurd q h
  obtain ⟨hop,hmo,hen,l0,l1,l2,hO⟩ := R.ok he
  obtain ⟨hc,hi,hcase⟩ := Jkm x s he h
  have hc':t.cl = false := by rw [← R.cl]; exact hc
  have hi':JJf x t = false := by rw [← Jh6 hx hmo hen l0 l1 l2]; exact hi
  obtain ⟨m1,m2,m3,m4,m5⟩ := JwS x hmo l0 l1 l2
  rcases hcase with ⟨ho,hm⟩ | ⟨ho,hm,hd⟩ | ⟨ho,hm,hd,hn,hS⟩ | ⟨ho,hm,h3,hod,hcase⟩
  · obtain ⟨S1,O1⟩ := Jig x s he R.sl R.sy hc hi ho hm
    obtain ⟨_,S2,O2⟩ := JiV x t hx he' R.tl R.ty hc' hi' (by rw [← hop]; exact ho) (JuU hm)
    refine ⟨by rw [O1,O2],JGw R hE fun _ => ?_⟩
    rw [S1,S2]
    exact ⟨hop,m1,m2,m3,m4,m5,fun q => by rw [show s.op = true from q] at ho; cases ho⟩
  · obtain ⟨hm',hmot,hs0⟩ := Jv1 hm
    obtain ⟨S1,O1⟩ := Jlc x s he R.sl R.sy hc hi ho hm hd
    rw [hx] at hd
    obtain ⟨_,S2,O2⟩ := JhI x t hx he' R.tl R.ty hc' hi' (by rw [← hop]; exact ho) hm' (by rw [← JHo]; exact hd)
    refine ⟨by rw [O1,O2],JGw R hE fun _ => ?_⟩
    rw [S1,S2]
    have hv:Qc x = true := by
      unfold inv at hi
      rw [hx] at hi
      simp only [Bool.or_eq_false_iff,Bool.not_eq_false'] at hi
      exact hi.1.1
    exact ⟨rfl,m1,m2,m3,m4,m5,fun _ => ⟨hx,by rw [hx]; exact Jv2 hx hv hmot hs0 hd,rfl,(fun r hr => by cases hr),rfl,fun _ => rfl,fun q => by cases q⟩⟩
  · have O := hO ho
    obtain ⟨S1,O1⟩ := JgW x s he R.sl R.sy hc hi ho hm hd hn hS
    simp only [Bool.or_eq_false_iff,Bool.not_eq_false',hx] at hd
    have hha:t.has = true := by rw [O.h]; show (!(xi s.y 0 == 0)) = true; rw [hd.2]; rfl
    obtain ⟨ey,Y,ea,eb,ba,bb,et⟩ := O.e hha
    obtain ⟨_,_,_,y3,y4,y5,_⟩ := JCI Y
    obtain ⟨_,_,b2,b3⟩ := JhQ s.l s.y
    have st := Yy O.L Y b2 b3 ba bb false s.tr
    have hS':Q8 (f0 s.l s.y) (f1 s.l s.y) false s.l s.y s.a0 s.a1 s.tr = 0 := by rw [← hS]; unfold shE; rw [R.sl,R.sy]
    have hrl:ZO (xi s.l 8) (xi s.l 17) x = true := by rw [← JHo]; exact hd.1
    obtain ⟨_,S2,O2⟩ := Jhr x t hx he' R.tl R.ty hc' hi' (by rw [← hop]; exact ho) hm (by rw [← O.l,hrl,hha]; rfl) (by rw [← O.l,← ey,y3]; exact hn) (by rw [← O.l,← ey,← ea,← eb,← et,y4,y5,st.1]; exact hS')
    simp only [Bool.and_eq_true] at hm
    have hv:Qc x = true := by
      unfold inv at hi
      rw [hx] at hi
      simp only [Bool.or_eq_false_iff,Bool.not_eq_false'] at hi
      exact hi.1.1
    refine ⟨?_,JGw R hE fun _ => ?_⟩
    · rw [O1,O2,← O.l,← ey,← ea,← eb,← et,← O.C,y4,y5,st.2,hx,O.L.n]
      rw [Je0 O.L hv hm.1 hm.2 hd.1,JAG O.L.n _ _ _ O.ci]
      unfold shO
      rw [R.sl,R.sy]
    · rw [S1,S2]
      exact ⟨rfl,m1,m2,m3,m4,m5,fun q => by cases q⟩
  · have O := hO ho
    have ho':t.op = true := by rw [← hop]; exact ho
    have h3':(xi x 0 == 1 || xi x 0 == 11 || xi x 0 == 14 || J5 (xi x 0) && (xi x 8 != xi t.l 8 || xi x 16 != xi t.l 16 || xi x 17 != xi t.l 17)) = false := by rw [JrW,← O.l,h3,hod]; rfl
    rcases hcase with ⟨hs,h8⟩ | ⟨hs,h0,hn⟩ | ⟨hs,h0,hk,hn,hS⟩ | ⟨hs,h0,hk,hn,hn',hS⟩
    · obtain ⟨S1,O1⟩ := JjL x s he R.sl R.sy hc hi ho hm h3 hod hs h8
      obtain ⟨_,S2,O2⟩ := Jhi x t hx he' R.tl R.ty hc' hi' ho' hm h3' (by rw [← JP4,← O.l]; exact hs) (by rw [← O.C]; exact h8)
      refine ⟨by rw [O1,O2],JGw R hE fun _ => ?_⟩
      rw [S1,S2]
      refine ⟨hop,m1,m2,m3,m4,m5,fun _ => ⟨O.l,O.L,congrArg (· ++ [JI2 x]) O.C,?_,O.h,O.z,O.e⟩⟩
      intro r hr hq
      rcases List.mem_append.1 hr with hr | hr
      · exact O.ci r hr hq
      · have hr':r = JI2 x := by simpa using hr
        subst hr'
        have hmot:J5 (xi x 0) = true := hq
        obtain ⟨v1,v2,v3,v4⟩ := JdR hx hi hm h3 hod hmot
        rw [JP4,hmot] at hs
        exact Jjq v1 hmot v2 v3 v4 (by simpa using hs)
    all_goals
      have hmot:J5 (xi x 0) = true := by
        unfold jM at hs
        simp only [Bool.or_eq_false_iff,Bool.not_eq_false'] at hs
        exact hs.1
      obtain ⟨v1,v2,v3,v4⟩ := JdR hx hi hm h3 hod hmot
      have X:YI s.l x := JmU hx v1 hmot v2 v3 v4
      obtain ⟨x0,x1,x2,_⟩ := JCI X
      obtain ⟨p0,p1,_,_⟩ := JhQ s.l x
      have hs':(!J5 (xi x 0) || !ZL (xi t.l 8) x) = false := by rw [← JP4,← O.l]; exact hs
    · have hha:t.has = false := by rw [O.h]; show (!(xi s.y 0 == 0)) = false; rw [h0]; rfl
      obtain ⟨S1,O1⟩ := JjS x s he R.sl R.sy hc hi ho hm h3 hod hs h0 hn
      obtain ⟨_,S2,O2⟩ := Jg0 x t hx he' R.tl R.ty hc' hi' ho' hm h3' hs' hha (by rw [← O.l,x0]; exact hn)
      refine ⟨?_,JGw R hE fun _ => ?_⟩
      · rw [O1,O2,← O.l,← O.C,O.L.n,x1,x2,JiO O.L,JAG O.L.n _ _ _ O.ci]
        rfl
      · rw [S1,S2]
        exact ⟨hop,m1,m2,m3,m4,m5,fun _ => ⟨O.l,O.L,rfl,(fun r hr => by cases hr),by rw [hx]; exact JfP X,(fun q => by cases q),fun _ => ⟨hx,by rw [hx]; exact X,by rw [← O.l]; exact x1.symm,by rw [← O.l]; exact x2.symm,p0,p1,O.z hha⟩⟩⟩
    · have hha:t.has = true := by rw [O.h]; show (!(xi s.y 0 == 0)) = true; rw [h0]; rfl
      obtain ⟨ey,Y,ea,eb,ba,bb,et⟩ := O.e hha
      obtain ⟨b0,s5,s6,s8,s9⟩ := JXy O.L Y X
      obtain ⟨t0,t1⟩ := Jvk O.L Y X
      rw [hk,cond_true] at b0 s5 s6 s8 s9
      have st := Yy O.L Y t0 t1 ba bb true s.tr
      have hS':Q8 (tr0 s.l s.y x) (tr1 s.l s.y x) true s.l s.y s.a0 s.a1 s.tr = 0 := by rw [← hS]; unfold shE; rw [R.sl,R.sy]
      obtain ⟨S1,O1⟩ := JiB x s he R.sl R.sy hc hi ho hm h3 hod hs h0 hk hn hS
      obtain ⟨_,S2,O2⟩ := JYU x t hx he' R.tl R.ty hc' hi' ho' hm h3' hs' hha (by rw [← O.l,← ey,b0]; exact hn) (by rw [← O.l,← ey,← ea,← eb,← et,s5,s6,qF Y X,hk,st.1]; exact hS')
      refine ⟨?_,JGw R hE fun _ => ?_⟩
      · rw [O1,O2,← O.l,← ey,← ea,← eb,← et,← O.C,qF Y X,show (kd s.l s.y x != 2) = false by simpa using hk,cond_false]
        unfold JG3
        rw [s5,s6,qF Y X,hk,O.L.n,R.sy,st.2,JAG O.L.n _ _ _ O.ci]
        unfold shO
        rw [R.sl,R.sy]
      · rw [S1,S2]
        exact ⟨hop,m1,m2,m3,m4,m5,fun _ => ⟨O.l,O.L,rfl,(fun r hr => by cases hr),by rw [hx]; show t.has = _; rw [hha]; exact JfP X,fun q => absurd (show t.has = false from q) (by rw [hha]; decide),fun _ => ⟨hx,by rw [hx]; exact X,by rw [← O.l,← ey]; exact s8.symm,by rw [← O.l,← ey]; exact s9.symm,t0,t1,by rw [← O.l,← ey,qF Y X]; exact hk.symm⟩⟩⟩
    · have hha:t.has = true := by rw [O.h]; show (!(xi s.y 0 == 0)) = true; rw [h0]; rfl
      obtain ⟨ey,Y,ea,eb,ba,bb,et⟩ := O.e hha
      obtain ⟨b0,s5,s6,s8,s9⟩ := JXy O.L Y X
      obtain ⟨_,_,q2,q3⟩ := JhQ s.l s.y
      rw [hk,cond_false] at b0 s5 s6 s8 s9
      rw [hn,beq_self_eq_true,cond_true] at b0 s8 s9
      have st := Yy O.L Y q2 q3 ba bb false s.tr
      have hS':Q8 (f0 s.l s.y) (f1 s.l s.y) false s.l s.y s.a0 s.a1 s.tr = 0 := by rw [← hS]; unfold shE; rw [R.sl,R.sy]
      obtain ⟨S1,O1⟩ := JfA x s he R.sl R.sy hc hi ho hm h3 hod hs h0 hk hn hn' hS
      obtain ⟨_,S2,O2⟩ := JYU x t hx he' R.tl R.ty hc' hi' ho' hm h3' hs' hha (by rw [← O.l,← ey,b0]; exact hn') (by rw [← O.l,← ey,← ea,← eb,← et,s5,s6,qF Y X,hk,st.1]; exact hS')
      refine ⟨?_,JGw R hE fun _ => ?_⟩
      · rw [O1,O2,← O.l,← ey,← ea,← eb,← et,← O.C,qF Y X,show (kd s.l s.y x != 2) = true by simpa using hk,cond_true]
        unfold JG3
        rw [s5,s6,s8,s9,qF Y X,hk,O.L.n,R.sy,hx,st.2,JiR O.L,JAG O.L.n _ _ _ O.ci]
        unfold shO
        rw [R.sl,R.sy]
      · rw [S1,S2]
        exact ⟨hop,m1,m2,m3,m4,m5,fun _ => ⟨O.l,O.L,rfl,(fun r hr => by cases hr),by rw [hx]; show t.has = _; rw [hha]; exact JfP X,fun q => absurd (show t.has = false from q) (by rw [hha]; decide),fun _ => ⟨hx,by rw [hx]; exact X,by rw [← O.l,← ey]; exact s8.symm,by rw [← O.l,← ey]; exact s9.symm,p0,p1,by rw [← O.l,← ey,qF Y X]; exact hk.symm⟩⟩⟩
theorem Jk0:Runs (Js (JB Jfo) WV 14) [.one (.wh 0),.one .nilsl] [(0,.row false 40 22 (.lit 1 []))] 2 (.one (.bool (.c true))) [(0,.row false 40 22 (.lit 1 []))] :=
  Runs.of1 (ps := []) (by kernel_rfl) (by simp)
def JkY:JW := fun vs mem n => match vs,mem,n with
  | [.one (.wh 0),.one .nilsl],[(0,.row false 40 22 (.lst 1 ks xs))],2 => some ⟨.one (.bool (.c true)),[(0,.row false 40 22 (.lit 1 []))],[xs = []],[],10⟩
  | _,_,_ => none
theorem Juz {θ:Th} {w:World} {id:Nat} {a b:SX.Obj} (h:QD θ w id a → QD θ w id b) (hm:Jf θ [(id,a)] w):Jf θ [(id,b)] w := by
  have l1:SX.JC [(id,a)] id = some a := by simp [SX.JT]
  refine ⟨fun i o ho => ?_,fun i i' o o' bk ho ho' hne => ?_⟩
  · rw [JT] at ho
    cases hb:Nat.beq id i
    · rw [hb] at ho; cases ho
    · rw [hb] at ho; cases ho
      have := Nat.eq_of_beq_eq_true hb; subst this
      exact h (hm.1 id a l1)
  · exfalso
    rw [JT] at ho ho'
    cases hb:Nat.beq id i
    · rw [hb] at ho; cases ho
    cases hb':Nat.beq id i'
    · rw [hb'] at ho'; cases ho'
    exact hne ((Nat.eq_of_beq_eq_true hb).symm.trans (Nat.eq_of_beq_eq_true hb'))
theorem Jtf {n:Nat} {θ θ':Th} {w w':World} {id:Nat} {a b:SX.Obj} {m:Jo} (g:Grew n θ [(id,b)] w θ' m w'):Grew n θ [(id,a)] w θ' m w' := by
  have l1:SX.JC [(id,a)] id = some a := by simp [SX.JT]
  have key:∀ i o,SX.JC [(id,b)] i = some o → i = id := fun i o h => by
    rw [JT] at h
    cases hb:Nat.beq id i
    · rw [hb] at h; cases h
    · exact (Nat.eq_of_beq_eq_true hb).symm
  refine { g with heap := fun bk hb hno => g.heap bk hb fun i o ho => ?_,blks := fun i o bk hl hb => ?_,eyes := fun i o bk hl hb => ?_ }
  · rw [key i o ho]; exact hno id a l1
  · rcases g.blks i o bk hl hb with h | ⟨i0,o0,h1,h2⟩
    · exact .inl h
    · rw [key i0 o0 h1] at h2; exact .inr ⟨id,a,l1,h2⟩
  · rcases g.eyes i o bk hl hb with h | ⟨i0,o0,h1,h2⟩
    · exact .inl h
    · rw [key i0 o0 h1] at h2; exact .inr ⟨id,a,l1,h2⟩
theorem Jo9:Qk Tryz.prog 14 JkY := by
  intro vs mem n r hr hn he hwf hids θ w hm
  unfold JkY at hr
  split at hr
  · rename_i ks xs
    cases hr
    have hx:xs = [] := hn _ (by simp)
    subst hx
    obtain ⟨r',q1,q2,q3,q4,q5⟩ := Jk0.run
    have hm':Jf θ [(0,SX.Obj.row false 40 22 (.lit 1 []))] w := Juz (a := .row false 40 22 (.lst 1 ks [])) (b := .row false 40 22 (.lit 1 [])) (fun h => h) hm
    have hwf':Z2 2 [(0,SX.Obj.row false 40 22 (.lit 1 []))] := fun i o h => by
      rw [JT] at h
      cases hb:Nat.beq 0 i
      · rw [hb] at h; cases h
      · rw [hb] at h; cases h
        have := Nat.eq_of_beq_eq_true hb; subst this
        exact ⟨by decide,fun i hi => by cases hi⟩
    have := JD JT9 14 _ _ _ r' q1 q2 q3 hwf' hids θ w hm'
    rw [q4,q5] at this
    exact ⟨this.1,this.2.mono fun e w' ⟨θ',g1,g2,g3⟩ => ⟨θ',g1,Jtf g2,g3⟩⟩
  · cases hr
def JEK:List (Nat × JW) := (14,orS (orS (JS JC5 JKd) Jum) JkY) :: (2000000 + 20,JnO) :: (2000000 + 34,JnO) :: Jfo
theorem JJm:Known Tryz.prog (JB JEK) WV := J7 (J7 (J7 JT9 (JeP _ _)) (JeP _ _)) (JJN (JJN JhN Jmn) Jo9)
def JV1 (g:Nat → Nat) (t:Rt) (c:Nat):List (Nat × SC) := JjV g t.cl t.op t.er t.mo t.en t.la0 t.la1 t.la2 t.l c t.has t.y t.st0 t.st1 t.tr t.pn0 t.pn1
structure TS where
  i:Nat
  s:St
  t:Rt
structure TF where
  bad:Bool
  s:St
  t:Rt
def Qh:Rt := ⟨false,false,0,false,false,0,0,0,JYo,false,JYo,0,0,false,0,0,[]⟩
def tlN (X:LL):Nat → TS → TF
  | 0,a => ⟨false,a.s,a.t⟩
  | n + 1,a => tlN X n ⟨a.i + 1,Zm (Jj (X.getD a.i [])) a.s,rS (Jj (X.getD a.i [])) a.t⟩
section
variable (k:Nat)
def tlG:Nat:= 1000000100 + k
def tlK:Nat:= 1000000200 + k
def tlH:Nat:= 700 + k
def tlI:Nat:= 800 + k
end
theorem JQe (r:List Int):J2 (Jj r) = Jj r := by kernel_rfl
theorem JKO {s:St} {t:Rt} (R:Rel s t):Jl s.op s.er s.C = Jl t.op t.er t.C := by
  unfold Jl
  rw [← R.er]
  by_cases h:s.er = 0
  · obtain ⟨hop,_,_,_,_,_,hO⟩ := R.ok h
    rw [← hop]
    cases ho:s.op
    · rw [Bool.not_false,Bool.or_true,cond_true,cond_true]
    · rw [(hO ho).C]
  · rw [show (s.er != 0) = true by simpa using h,Bool.true_or,Bool.true_or,cond_true,cond_true]
theorem Jox:Rel QJ Qh := ⟨rfl,rfl,rfl,rfl,rfl,rfl,Nat.zero_le _,Nat.zero_le _,fun _ => ⟨rfl,rfl,rfl,rfl,rfl,rfl,fun h => by cases h⟩⟩
theorem JOb (X:LL):∀ (n:Nat) (a:TS),Rel a.s a.t → Rel (tlN X n a).s (tlN X n a).t
  | 0,a,h => h
  | n + 1,a,h => JOb X n _ (JK9 (JQe _) h).2.2
theorem Jcu (X:LL):∀ (n:Nat) (a:TS),(tlN X n a).bad = false
  | 0,a => rfl
  | n + 1,a => Jcu X n _
theorem Jgf {X:LL} {a:TS} (h:a.i < X.length):tlN X (X.length - a.i) a = tlN X (X.length - (a.i + 1)) ⟨a.i + 1,Zm (Jj (X.getD a.i [])) a.s,rS (Jj (X.getD a.i [])) a.t⟩ := by
  have e:X.length - a.i = (X.length - (a.i + 1)) + 1 := by omega
  rw [e]; rfl
def Xd (X:LL):Fam TS TF where
  k := 900
  E a := [(5,ent 1000000000 (.one (I (Int.ofNat a.i)))),(4,ent 141 (.one (.ptr 74 0))),(3,ent 140 (.one (.ptr 5 0))),(0,ent 0 (.one (.wh 0)))]
  M a := [(74,.blk 74 (JV1 tlK a.t 520)),JoK 520 1000000012 a.t.C,(5,.blk 66 (JKf tlG a.s 510 511)),Ku 510 1000000010 a.s.C,Ku 511 1000000011 [],(0,.row false 40 22 (.lst 1 CKi X))]
  out t := .ite t.bad (.leaf .ret [(2,ent 600 (.one (.bool (.c false))))] [])
    (.leaf (.exit 0) [(4,ent 141 (.one (.ptr 74 0))),(3,ent 140 (.one (.ptr 5 0))),(0,ent 0 (.one (.wh 0)))] [(74,.blk 74 (JV1 tlI t.t 520)),JoK 520 612 t.t.C,(5,.blk 66 (JKf tlH t.s 510 511)),Ku 510 610 t.s.C,Ku 511 611 [],(0,.row false 40 22 (.lst 1 CKi X))])
  fin a := tlN X (X.length - a.i) a
  next a _ := ⟨a.i + 1,Zm (Jj (X.getD a.i [])) a.s,rS (Jj (X.getD a.i [])) a.t⟩
  J a := a.i ≤ X.length ∧ X.length ≤ 1000 ∧ Rel a.s a.t
  μ a := X.length - a.i
section
variable (X:LL) (a:TS)
def Jh7:Prop:= decide (Int.ofNat a.i < Int.ofNat X.length) = true
def JvX:LL:= KO (Jj (X.getD (Int.ofNat a.i).toNat [])) (J2 a.s.l) (J2 a.s.y) a.s.a0 a.s.a1 a.s.tr a.s.op a.s.cl a.s.en a.s.mo a.s.la0 a.s.la1 a.s.la2 a.s.er a.s.C []
def Jvz:Bool:= jJ (Jj (X.getD (Int.ofNat a.i).toNat [])) (J2 a.s.l) (J2 a.s.y) a.s.a0 a.s.a1 a.s.tr a.s.op a.s.cl a.s.en a.s.mo a.s.la0 a.s.la1 a.s.la2 a.s.er
def JvY:Int:= Y0 (Jj (X.getD (Int.ofNat a.i).toNat [])) (J2 a.s.l) (J2 a.s.y) a.s.a0 a.s.a1 a.s.tr a.s.op a.s.cl a.s.en a.s.mo a.s.la0 a.s.la1 a.s.la2 a.s.er a.s.C
def JvO:LL:= Yu (Jj (X.getD (Int.ofNat a.i).toNat [])) (J2 a.s.l) (J2 a.s.y) a.s.a0 a.s.a1 a.s.tr a.s.op a.s.cl a.s.en a.s.mo a.s.la0 a.s.la1 a.s.la2 a.s.er a.s.C
def JvW:Bool:= qG (Jj (X.getD (Int.ofNat a.i).toNat [])) a.t.cl a.t.op a.t.er a.t.mo a.t.en a.t.la0 a.t.la1 a.t.la2 (J2 a.t.l) a.t.has (J2 a.t.y) a.t.st0 a.t.st1 a.t.tr a.t.C
def JvQ:Int:= Wr (Jj (X.getD (Int.ofNat a.i).toNat [])) a.t.cl a.t.op a.t.er a.t.mo a.t.en a.t.la0 a.t.la1 a.t.la2 (J2 a.t.l) a.t.has (J2 a.t.y) a.t.st0 a.t.st1 a.t.tr a.t.C
def Jvw:LL:= YB (Jj (X.getD (Int.ofNat a.i).toNat [])) a.t.cl a.t.op a.t.er a.t.mo a.t.en a.t.la0 a.t.la1 a.t.la2 (J2 a.t.l) a.t.has (J2 a.t.y) a.t.st0 a.t.st1 a.t.tr a.t.C
end
abbrev Jua (s s':St) (t t':Rt):Prop := t.cl = t'.cl ∧ t.op = t'.op ∧ t.er = t'.er ∧ t.mo = t'.mo ∧ t.en = t'.en ∧ t.la0 = t'.la0 ∧ t.la1 = t'.la1 ∧ t.la2 = t'.la2 ∧ xi t.l 0 = xi t'.l 0 ∧ xi t.l 1 = xi t'.l 1 ∧ xi t.l 2 = xi t'.l 2 ∧ xi t.l 3 = xi t'.l 3 ∧ xi t.l 4 = xi t'.l 4 ∧ xi t.l 5 = xi t'.l 5 ∧ xi t.l 6 = xi t'.l 6 ∧ xi t.l 7 = xi t'.l 7 ∧ xi t.l 8 = xi t'.l 8 ∧ xi t.l 9 = xi t'.l 9 ∧ xi t.l 10 = xi t'.l 10 ∧ xi t.l 11 = xi t'.l 11 ∧ xi t.l 12 = xi t'.l 12 ∧ xb t.l 13 = xb t'.l 13 ∧ xi t.l 14 = xi t'.l 14 ∧ xb t.l 15 = xb t'.l 15 ∧ xi t.l 16 = xi t'.l 16 ∧ xi t.l 17 = xi t'.l 17 ∧ xi t.l 18 = xi t'.l 18 ∧ xi t.l 19 = xi t'.l 19 ∧ xi t.l 20 = xi t'.l 20 ∧ xb t.l 21 = xb t'.l 21 ∧ t.has = t'.has ∧ xi t.y 0 = xi t'.y 0 ∧ xi t.y 1 = xi t'.y 1 ∧ xi t.y 2 = xi t'.y 2 ∧ xi t.y 3 = xi t'.y 3 ∧ xi t.y 4 = xi t'.y 4 ∧ xi t.y 5 = xi t'.y 5 ∧ xi t.y 6 = xi t'.y 6 ∧ xi t.y 7 = xi t'.y 7 ∧ xi t.y 8 = xi t'.y 8 ∧ xi t.y 9 = xi t'.y 9 ∧ xi t.y 10 = xi t'.y 10 ∧ xi t.y 11 = xi t'.y 11 ∧ xi t.y 12 = xi t'.y 12 ∧ xb t.y 13 = xb t'.y 13 ∧ xi t.y 14 = xi t'.y 14 ∧ xb t.y 15 = xb t'.y 15 ∧ xi t.y 16 = xi t'.y 16 ∧ xi t.y 17 = xi t'.y 17 ∧ xi t.y 18 = xi t'.y 18 ∧ xi t.y 19 = xi t'.y 19 ∧ xi t.y 20 = xi t'.y 20 ∧ xb t.y 21 = xb t'.y 21 ∧ t.st0 = t'.st0 ∧ t.st1 = t'.st1 ∧ t.tr = t'.tr ∧ t.pn0 = t'.pn0 ∧ t.pn1 = t'.pn1 ∧ t.C = t'.C ∧ xi s.l 0 = xi s'.l 0 ∧ xi s.l 1 = xi s'.l 1 ∧ xi s.l 2 = xi s'.l 2 ∧ xi s.l 3 = xi s'.l 3 ∧ xi s.l 4 = xi s'.l 4 ∧ xi s.l 5 = xi s'.l 5 ∧ xi s.l 6 = xi s'.l 6 ∧ xi s.l 7 = xi s'.l 7 ∧ xi s.l 8 = xi s'.l 8 ∧ xi s.l 9 = xi s'.l 9 ∧ xi s.l 10 = xi s'.l 10 ∧ xi s.l 11 = xi s'.l 11 ∧ xi s.l 12 = xi s'.l 12 ∧ xb s.l 13 = xb s'.l 13 ∧ xi s.l 14 = xi s'.l 14 ∧ xb s.l 15 = xb s'.l 15 ∧ xi s.l 16 = xi s'.l 16 ∧ xi s.l 17 = xi s'.l 17 ∧ xi s.l 18 = xi s'.l 18 ∧ xi s.l 19 = xi s'.l 19 ∧ xi s.l 20 = xi s'.l 20 ∧ xb s.l 21 = xb s'.l 21 ∧ xi s.y 0 = xi s'.y 0 ∧ xi s.y 1 = xi s'.y 1 ∧ xi s.y 2 = xi s'.y 2 ∧ xi s.y 3 = xi s'.y 3 ∧ xi s.y 4 = xi s'.y 4 ∧ xi s.y 5 = xi s'.y 5 ∧ xi s.y 6 = xi s'.y 6 ∧ xi s.y 7 = xi s'.y 7 ∧ xi s.y 8 = xi s'.y 8 ∧ xi s.y 9 = xi s'.y 9 ∧ xi s.y 10 = xi s'.y 10 ∧ xi s.y 11 = xi s'.y 11 ∧ xi s.y 12 = xi s'.y 12 ∧ xb s.y 13 = xb s'.y 13 ∧ xi s.y 14 = xi s'.y 14 ∧ xb s.y 15 = xb s'.y 15 ∧ xi s.y 16 = xi s'.y 16 ∧ xi s.y 17 = xi s'.y 17 ∧ xi s.y 18 = xi s'.y 18 ∧ xi s.y 19 = xi s'.y 19 ∧ xi s.y 20 = xi s'.y 20 ∧ xb s.y 21 = xb s'.y 21 ∧ s.a0 = s'.a0 ∧ s.a1 = s'.a1 ∧ s.tr = s'.tr ∧ s.op = s'.op ∧ s.cl = s'.cl ∧ s.en = s'.en ∧ s.mo = s'.mo ∧ s.la0 = s'.la0 ∧ s.la1 = s'.la1 ∧ s.la2 = s'.la2 ∧ s.er = s'.er ∧ s.C = s'.C ∧ ([]:LL) = []
def JYl (X:LL) (a:TS):List Prop := [Jh7 X a → 0 ≤ Int.ofNat a.i ∧ (Int.ofNat a.i).toNat < X.length ∧ (Int.ofNat a.i).toNat < X.length ∧ a.s.C.length ≤ 1000 ∧ 0 ≤ 800000 ∧ 0 ≤ Int.ofNat a.i ∧ (Int.ofNat a.i).toNat < X.length ∧ (Int.ofNat a.i).toNat < X.length ∧ ((a.t.er != 0) = false → a.t.C.length ≤ 8) ∧ JvX X a = KJ (Jj (X.getD (Int.ofNat a.i).toNat [])) a.t.cl a.t.op a.t.er a.t.mo a.t.en a.t.la0 a.t.la1 a.t.la2 (J2 a.t.l) a.t.has (J2 a.t.y) a.t.st0 a.t.st1 a.t.tr a.t.C ∧ (JvX X a).length ≤ 1000000,Jh7 X a → ((Kq (Jj (X.getD (Int.ofNat a.i).toNat [])) (J2 a.s.l) (J2 a.s.y) a.s.a0 a.s.a1 a.s.tr a.s.op a.s.cl a.s.en a.s.mo a.s.la0 a.s.la1 a.s.la2 a.s.er a.s.C != Z0 (Jj (X.getD (Int.ofNat a.i).toNat [])) a.t.cl a.t.op a.t.er a.t.mo a.t.en a.t.la0 a.t.la1 a.t.la2 (J2 a.t.l) a.t.has (J2 a.t.y) a.t.st0 a.t.st1 a.t.tr a.t.C || Jl (Jvz X a) (JvY X a) (JvO X a) != Jl (JvW X a) (JvQ X a) (Jvw X a)) = true → ((Xd X).fin a).bad = false → False) ∧ ((Kq (Jj (X.getD (Int.ofNat a.i).toNat [])) (J2 a.s.l) (J2 a.s.y) a.s.a0 a.s.a1 a.s.tr a.s.op a.s.cl a.s.en a.s.mo a.s.la0 a.s.la1 a.s.la2 a.s.er a.s.C != Z0 (Jj (X.getD (Int.ofNat a.i).toNat [])) a.t.cl a.t.op a.t.er a.t.mo a.t.en a.t.la0 a.t.la1 a.t.la2 (J2 a.t.l) a.t.has (J2 a.t.y) a.t.st0 a.t.st1 a.t.tr a.t.C || Jl (Jvz X a) (JvY X a) (JvO X a) != Jl (JvW X a) (JvQ X a) (Jvw X a)) = false → (((Xd X).next a 1).i ≤ X.length ∧ X.length ≤ 1000 ∧ YtmbfbhimdkjkoaaGreat.Rel ((Xd X).next a 1).s ((Xd X).next a 1).t) ∧ (Xd X).μ ((Xd X).next a 1) < (Xd X).μ a ∧ (Xd X).fin ((Xd X).next a 1) = (Xd X).fin a ∧ Int.ofNat ((Xd X).next a 1).i = IntKind.i64.wrap (Int.ofNat a.i + 1) ∧ Jua ((Xd X).next a 1).s ((Xd X).next a 1).s ((Xd X).next a 1).t ((Xd X).next a 1).t),decide (Int.ofNat a.i < Int.ofNat X.length) = false → (((Xd X).fin a).bad = true → False) ∧ (((Xd X).fin a).bad = false → Jua ((Xd X).fin a).s a.s ((Xd X).fin a).t a.t)]
theorem Js2 (X:LL) (a:TS) (hNeeds:∀ pN ∈ (JYl X a),pN):Jz (XU (Xd X) (QU Tryz.prog (JB JEK) WV 15 0) 145 a) :=
  Jz.of (ps := (JYl X a)) (by kernel_rfl) (by kernel_rfl) hNeeds
theorem JpM (X:LL):Qv (Xd X) (QU Tryz.prog (JB JEK) WV 15 0) 145 := by
  intro a hJ
  obtain ⟨h1,h2,h3⟩:a.i ≤ X.length ∧ X.length ≤ 1000 ∧ Rel a.s a.t := hJ
  obtain ⟨p1,p2,p3⟩ := JK9 (JQe (X.getD a.i [])) h3
  have e6:IntKind.i64.wrap (Int.ofNat a.i + 1) = Int.ofNat (a.i + 1) := X7 (by simp; omega) (by simp; omega)
  have pp := JKO p3
  refine Js2 X a ?_
  unfold JYl
  simp only [awc,awn,and_true]
  have lt:Jh7 X a → a.i < X.length := fun h => by unfold Jh7 at h; simp at h; omega
  have hl := JKc (Jj (X.getD a.i [])) a.s h3.C8
  have hc8 := h3.C8
  refine ⟨fun h => ⟨by simp,lt h,lt h,by omega,by omega,by simp,lt h,lt h,fun _ => h3.D8,p2,Nat.le_trans hl (by decide)⟩,fun h => ⟨fun hb _ => ?_,fun hb => ⟨⟨?_,h2,p3⟩,?_,?_,e6.symm,?_⟩⟩,fun h => ?_⟩
  · have hb':(YU (Jj (X.getD a.i [])) a.s != rE (Jj (X.getD a.i [])) a.t || Jl (Zm (Jj (X.getD a.i [])) a.s).op (Zm (Jj (X.getD a.i [])) a.s).er (Zm (Jj (X.getD a.i [])) a.s).C != Jl (rS (Jj (X.getD a.i [])) a.t).op (rS (Jj (X.getD a.i [])) a.t).er (rS (Jj (X.getD a.i [])) a.t).C) = true := hb
    rw [p1,pp,bne_self_eq_false,bne_self_eq_false] at hb'
    exact absurd hb' (by decide)
  · have := lt h
    show a.i + 1 ≤ _; omega
  · have := lt h
    show X.length - (a.i + 1) < X.length - a.i; omega
  · show tlN X (X.length - (a.i + 1)) _ = tlN X (X.length - a.i) a
    rw [Jgf (lt h)]; rfl
  · repeat' first | refine ⟨by kernel_rfl,?_⟩ | kernel_rfl | exact trivial | refine ⟨trivial,?_⟩
  · have hi:a.i = X.length := by unfold Jh7 at h; simp at h; omega
    have e:(Xd X).fin a = ⟨false,a.s,a.t⟩ := by
      show tlN X (X.length - a.i) a = _
      rw [hi,Nat.sub_self]; rfl
    rw [e]
    refine ⟨fun h => (by cases h),fun _ => ?_⟩
    repeat' first | refine ⟨by kernel_rfl,?_⟩ | kernel_rfl | exact trivial | refine ⟨trivial,?_⟩
def QP (X:LL):Fam TS TF where
  k := 900
  E a := [(5,ent 1000000000 (.one (I (Int.ofNat a.i)))),(4,ent 141 (.one (.ptr 74 0))),(3,ent 140 (.one (.ptr 5 0))),(0,ent 0 (.one (.wh 0)))]
  M a := [(74,.blk 74 (JV1 tlK a.t 520)),JoK 520 1000000012 a.t.C,(5,.blk 66 (JKf tlG a.s 510 511)),Ku 510 1000000010 a.s.C,Ku 511 1000000011 [],(0,.row true 40 22 (.lst 1 CKi X))]
  out t := .ite t.bad (.leaf .ret [(2,ent 600 (.one (.bool (.c false))))] [])
    (.leaf (.exit 0) [(4,ent 141 (.one (.ptr 74 0))),(3,ent 140 (.one (.ptr 5 0))),(0,ent 0 (.one (.wh 0)))] [(74,.blk 74 (JV1 tlI t.t 520)),JoK 520 612 t.t.C,(5,.blk 66 (JKf tlH t.s 510 511)),Ku 510 610 t.s.C,Ku 511 611 [],(0,.row true 40 22 (.lst 1 CKi X))])
  fin a := tlN X (X.length - a.i) a
  next a _ := ⟨a.i + 1,Zm (Jj (X.getD a.i [])) a.s,rS (Jj (X.getD a.i [])) a.t⟩
  J a := a.i ≤ X.length ∧ X.length ≤ 1000 ∧ Rel a.s a.t
  μ a := X.length - a.i
section
variable (X:LL) (a:TS)
def JaZ:Prop:= decide (Int.ofNat a.i < Int.ofNat X.length) = true
def Ju1:LL:= KO (Jj (X.getD (Int.ofNat a.i).toNat [])) (J2 a.s.l) (J2 a.s.y) a.s.a0 a.s.a1 a.s.tr a.s.op a.s.cl a.s.en a.s.mo a.s.la0 a.s.la1 a.s.la2 a.s.er a.s.C []
def JsJ:Bool:= jJ (Jj (X.getD (Int.ofNat a.i).toNat [])) (J2 a.s.l) (J2 a.s.y) a.s.a0 a.s.a1 a.s.tr a.s.op a.s.cl a.s.en a.s.mo a.s.la0 a.s.la1 a.s.la2 a.s.er
def Jsc:Int:= Y0 (Jj (X.getD (Int.ofNat a.i).toNat [])) (J2 a.s.l) (J2 a.s.y) a.s.a0 a.s.a1 a.s.tr a.s.op a.s.cl a.s.en a.s.mo a.s.la0 a.s.la1 a.s.la2 a.s.er a.s.C
def Jtm:LL:= Yu (Jj (X.getD (Int.ofNat a.i).toNat [])) (J2 a.s.l) (J2 a.s.y) a.s.a0 a.s.a1 a.s.tr a.s.op a.s.cl a.s.en a.s.mo a.s.la0 a.s.la1 a.s.la2 a.s.er a.s.C
def Jta:Bool:= qG (Jj (X.getD (Int.ofNat a.i).toNat [])) a.t.cl a.t.op a.t.er a.t.mo a.t.en a.t.la0 a.t.la1 a.t.la2 (J2 a.t.l) a.t.has (J2 a.t.y) a.t.st0 a.t.st1 a.t.tr a.t.C
def Jrx:Int:= Wr (Jj (X.getD (Int.ofNat a.i).toNat [])) a.t.cl a.t.op a.t.er a.t.mo a.t.en a.t.la0 a.t.la1 a.t.la2 (J2 a.t.l) a.t.has (J2 a.t.y) a.t.st0 a.t.st1 a.t.tr a.t.C
def Jsr:LL:= YB (Jj (X.getD (Int.ofNat a.i).toNat [])) a.t.cl a.t.op a.t.er a.t.mo a.t.en a.t.la0 a.t.la1 a.t.la2 (J2 a.t.l) a.t.has (J2 a.t.y) a.t.st0 a.t.st1 a.t.tr a.t.C
def JRg:List Prop:= [JaZ X a → 0 ≤ Int.ofNat a.i ∧ (Int.ofNat a.i).toNat < X.length ∧ (Int.ofNat a.i).toNat < X.length ∧ a.s.C.length ≤ 1000 ∧ 0 ≤ 800000 ∧ 0 ≤ Int.ofNat a.i ∧ (Int.ofNat a.i).toNat < X.length ∧ (Int.ofNat a.i).toNat < X.length ∧ ((a.t.er != 0) = false → a.t.C.length ≤ 8) ∧ Ju1 X a = KJ (Jj (X.getD (Int.ofNat a.i).toNat [])) a.t.cl a.t.op a.t.er a.t.mo a.t.en a.t.la0 a.t.la1 a.t.la2 (J2 a.t.l) a.t.has (J2 a.t.y) a.t.st0 a.t.st1 a.t.tr a.t.C ∧ (Ju1 X a).length ≤ 1000000,JaZ X a → ((Kq (Jj (X.getD (Int.ofNat a.i).toNat [])) (J2 a.s.l) (J2 a.s.y) a.s.a0 a.s.a1 a.s.tr a.s.op a.s.cl a.s.en a.s.mo a.s.la0 a.s.la1 a.s.la2 a.s.er a.s.C != Z0 (Jj (X.getD (Int.ofNat a.i).toNat [])) a.t.cl a.t.op a.t.er a.t.mo a.t.en a.t.la0 a.t.la1 a.t.la2 (J2 a.t.l) a.t.has (J2 a.t.y) a.t.st0 a.t.st1 a.t.tr a.t.C || Jl (JsJ X a) (Jsc X a) (Jtm X a) != Jl (Jta X a) (Jrx X a) (Jsr X a)) = true → ((QP X).fin a).bad = false → False) ∧ ((Kq (Jj (X.getD (Int.ofNat a.i).toNat [])) (J2 a.s.l) (J2 a.s.y) a.s.a0 a.s.a1 a.s.tr a.s.op a.s.cl a.s.en a.s.mo a.s.la0 a.s.la1 a.s.la2 a.s.er a.s.C != Z0 (Jj (X.getD (Int.ofNat a.i).toNat [])) a.t.cl a.t.op a.t.er a.t.mo a.t.en a.t.la0 a.t.la1 a.t.la2 (J2 a.t.l) a.t.has (J2 a.t.y) a.t.st0 a.t.st1 a.t.tr a.t.C || Jl (JsJ X a) (Jsc X a) (Jtm X a) != Jl (Jta X a) (Jrx X a) (Jsr X a)) = false → (((QP X).next a 1).i ≤ X.length ∧ X.length ≤ 1000 ∧ YtmbfbhimdkjkoaaGreat.Rel ((QP X).next a 1).s ((QP X).next a 1).t) ∧ (QP X).μ ((QP X).next a 1) < (QP X).μ a ∧ (QP X).fin ((QP X).next a 1) = (QP X).fin a ∧ Int.ofNat ((QP X).next a 1).i = IntKind.i64.wrap (Int.ofNat a.i + 1) ∧ Jua ((QP X).next a 1).s ((QP X).next a 1).s ((QP X).next a 1).t ((QP X).next a 1).t),decide (Int.ofNat a.i < Int.ofNat X.length) = false → (((QP X).fin a).bad = true → False) ∧ (((QP X).fin a).bad = false → Jua ((QP X).fin a).s a.s ((QP X).fin a).t a.t)]
end
theorem Jpi (X:LL) (a:TS) (hNeeds:∀ pN ∈ (JRg X a),pN):Jz (XU (QP X) (QU Tryz.prog (JB JEK) WV 15 0) 145 a) :=
  Jz.of (ps := (JRg X a)) (by kernel_rfl) (by kernel_rfl) hNeeds
theorem JlB (X:LL):Qv (QP X) (QU Tryz.prog (JB JEK) WV 15 0) 145 := by
  intro a hJ
  obtain ⟨h1,h2,h3⟩:a.i ≤ X.length ∧ X.length ≤ 1000 ∧ Rel a.s a.t := hJ
  obtain ⟨p1,p2,p3⟩ := JK9 (JQe (X.getD a.i [])) h3
  have e6:IntKind.i64.wrap (Int.ofNat a.i + 1) = Int.ofNat (a.i + 1) := X7 (by simp; omega) (by simp; omega)
  have pp := JKO p3
  refine Jpi X a ?_
  unfold JRg
  simp only [awc,awn,and_true]
  have lt:JaZ X a → a.i < X.length := fun h => by unfold JaZ at h; simp at h; omega
  have hl := JKc (Jj (X.getD a.i [])) a.s h3.C8
  have hc8 := h3.C8
  refine ⟨fun h => ⟨by simp,lt h,lt h,by omega,by omega,by simp,lt h,lt h,fun _ => h3.D8,p2,Nat.le_trans hl (by decide)⟩,fun h => ⟨fun hb _ => ?_,fun hb => ⟨⟨?_,h2,p3⟩,?_,?_,e6.symm,?_⟩⟩,fun h => ?_⟩
  · have hb':(YU (Jj (X.getD a.i [])) a.s != rE (Jj (X.getD a.i [])) a.t || Jl (Zm (Jj (X.getD a.i [])) a.s).op (Zm (Jj (X.getD a.i [])) a.s).er (Zm (Jj (X.getD a.i [])) a.s).C != Jl (rS (Jj (X.getD a.i [])) a.t).op (rS (Jj (X.getD a.i [])) a.t).er (rS (Jj (X.getD a.i [])) a.t).C) = true := hb
    rw [p1,pp,bne_self_eq_false,bne_self_eq_false] at hb'
    exact absurd hb' (by decide)
  · have := lt h
    show a.i + 1 ≤ _; omega
  · have := lt h
    show X.length - (a.i + 1) < X.length - a.i; omega
  · show tlN X (X.length - (a.i + 1)) _ = tlN X (X.length - a.i) a
    rw [Jgf (lt h)]; rfl
  · repeat' first | refine ⟨by kernel_rfl,?_⟩ | kernel_rfl | exact trivial | refine ⟨trivial,?_⟩
  · have hi:a.i = X.length := by unfold JaZ at h; simp at h; omega
    have e:(QP X).fin a = ⟨false,a.s,a.t⟩ := by
      show tlN X (X.length - a.i) a = _
      rw [hi,Nat.sub_self]; rfl
    rw [e]
    refine ⟨fun h => (by cases h),fun _ => ?_⟩
    repeat' first | refine ⟨by kernel_rfl,?_⟩ | kernel_rfl | exact trivial | refine ⟨trivial,?_⟩
def Jva:QH := fun env mem m => match SX.JC mem 0 with
  | some (.row true _ _ (.lst _ _ X)) => jY (QP X) 145 (fun _ _ => some ⟨0,QJ,Qh⟩) env mem m
  | some (.row false _ _ (.lst _ _ X)) => jY (Xd X) 145 (fun _ _ => some ⟨0,QJ,Qh⟩) env mem m
  | _ => none
def JW3:FuncId → Nat → Option QH := JBZ WV 15 5 Jva
theorem JYe:Known Tryz.prog (JB JEK) JW3 := by
  refine Qj 0 JJm (by kernel_rfl) (Qy fun env mem m x h => ?_)
  unfold Jva at h
  have hlen:(QZ Tryz.prog 15).length = 2 := by kernel_rfl
  split at h
  · exact ⟨_,XF (Qa Zy JJm (by omega)) (JlB _),h⟩
  · exact ⟨_,XF (Qa Zy JJm (by omega)) (JpM _),h⟩
  · cases h
def WT (s:St):St := { s with cl := true,er := K9 s.op s.cl s.er }
def WS (t:Rt):Rt := { t with cl := true,er := Kn t.cl t.op t.er }
theorem Jfy {s:St} {t:Rt} (R:Rel s t):K9 s.op s.cl s.er = Kn t.cl t.op t.er := by
  unfold K9 Kn
  rw [← R.er,← R.cl]
  by_cases h:s.er = 0
  · obtain ⟨hop,_⟩ := R.ok h
    rw [← hop]
  · rw [show (s.er == 0) = false by simpa using h,Bool.false_and,Bool.false_and]
theorem JWv {s:St} {t:Rt} (R:Rel s t):XQ s.op s.cl s.er = Kn t.cl t.op t.er := by
  have:XQ s.op s.cl s.er = K9 s.op s.cl s.er := JDG _
  rw [this,Jfy R]
theorem JcC {s:St} {t:Rt} (R:Rel s t):Rel (WT s) (WS t) :=
  ⟨rfl,Jfy R,R.sl,R.sy,R.tl,R.ty,R.C8,R.D8,fun h => by
    have h0:s.er = 0 := by
      have h':K9 s.op s.cl s.er = 0 := h
      unfold K9 at h'
      exact (q7 (by decide) h').2
    obtain ⟨a,b,c,d,e,f,O⟩ := R.ok h0
    exact ⟨a,b,c,d,e,f,fun q => ⟨(O q).l,(O q).L,(O q).C,(O q).ci,(O q).h,(O q).z,(O q).e⟩⟩⟩
theorem JGy (op cl:Bool) (er:Int):Xg op cl er [] = [] := by unfold Xg ZQ; cases (bif er == 0 && (cl || op) then (13:Int) else er) != 0 <;> rfl
def Jqr:List GC := [GC.i 12,GC.i 0,GC.i 0,GC.i 0,GC.i 0,GC.i 0,GC.i 0,GC.i 0,GC.i 0,GC.i 0,GC.i 0,GC.i 0,GC.i 0,GC.b false,GC.i 0,GC.b false,GC.i 0,GC.i 0,GC.i 0,GC.i 0,GC.i 0,GC.b false]
theorem JhB {s:St} {t:Rt} (R:Rel s t):(bif XQ s.op s.cl s.er != Kn t.cl t.op t.er || Jl (WT s).op (WT s).er (WT s).C != Jl (WS t).op (WS t).er (WS t).C then false else
    bif XQ (WT s).op (WT s).cl (WT s).er != Kn (WS t).cl (WS t).op (WS t).er || Jl (WT (WT s)).op (WT (WT s)).er (WT (WT s)).C != Jl (WS (WS t)).op (WS (WS t)).er (WS (WS t)).C then false else
    YU Jqr (WT (WT s)) == rE Jqr (WS (WS t))) = true := by
  have R1 := JcC R
  have R2 := JcC R1
  rw [JWv R,JWv R1,JKO R1,JKO R2,bne_self_eq_false,bne_self_eq_false,bne_self_eq_false,bne_self_eq_false,(JK9 (x := Jqr) rfl R2).1]
  exact beq_self_eq_true _
def JFU:Tpl := ⟨[.one (.wh 0)],[(0,.row false 40 22 1 CKi)],2⟩
section
variable (X:LL)
def JL2:Int:= Kn ((Xd X).fin (TS.mk 0 QJ Qh)).t.cl ((Xd X).fin (TS.mk 0 QJ Qh)).t.op ((Xd X).fin (TS.mk 0 QJ Qh)).t.er
def Wm:Int:= K9 ((Xd X).fin (TS.mk 0 QJ Qh)).s.op ((Xd X).fin (TS.mk 0 QJ Qh)).s.cl ((Xd X).fin (TS.mk 0 QJ Qh)).s.er
def jy:Int:= Kn true ((Xd X).fin (TS.mk 0 QJ Qh)).t.op (JL2 X)
def JfZ:Int:= K9 ((Xd X).fin (TS.mk 0 QJ Qh)).s.op true (Wm X)
def JkE:Bool:= bif ((Xd X).fin (TS.mk 0 QJ Qh)).bad then false else bif XQ ((Xd X).fin (TS.mk 0 QJ Qh)).s.op ((Xd X).fin (TS.mk 0 QJ Qh)).s.cl ((Xd X).fin (TS.mk 0 QJ Qh)).s.er != JL2 X || Jl ((Xd X).fin (TS.mk 0 QJ Qh)).s.op (Wm X) ((Xd X).fin (TS.mk 0 QJ Qh)).s.C != Jl ((Xd X).fin (TS.mk 0 QJ Qh)).t.op (JL2 X) ((Xd X).fin (TS.mk 0 QJ Qh)).t.C then false else bif XQ ((Xd X).fin (TS.mk 0 QJ Qh)).s.op true (Wm X) != jy X || Jl ((Xd X).fin (TS.mk 0 QJ Qh)).s.op (JfZ X) ((Xd X).fin (TS.mk 0 QJ Qh)).s.C != Jl ((Xd X).fin (TS.mk 0 QJ Qh)).t.op (jy X) ((Xd X).fin (TS.mk 0 QJ Qh)).t.C then false else Kq [GC.i 12,GC.i 0,GC.i 0,GC.i 0,GC.i 0,GC.i 0,GC.i 0,GC.i 0,GC.i 0,GC.i 0,GC.i 0,GC.i 0,GC.i 0,GC.b false,GC.i 0,GC.b false,GC.i 0,GC.i 0,GC.i 0,GC.i 0,GC.i 0,GC.b false] (J2 ((Xd X).fin (TS.mk 0 QJ Qh)).s.l) (J2 ((Xd X).fin (TS.mk 0 QJ Qh)).s.y) ((Xd X).fin (TS.mk 0 QJ Qh)).s.a0 ((Xd X).fin (TS.mk 0 QJ Qh)).s.a1 ((Xd X).fin (TS.mk 0 QJ Qh)).s.tr ((Xd X).fin (TS.mk 0 QJ Qh)).s.op true ((Xd X).fin (TS.mk 0 QJ Qh)).s.en ((Xd X).fin (TS.mk 0 QJ Qh)).s.mo ((Xd X).fin (TS.mk 0 QJ Qh)).s.la0 ((Xd X).fin (TS.mk 0 QJ Qh)).s.la1 ((Xd X).fin (TS.mk 0 QJ Qh)).s.la2 (JfZ X) ((Xd X).fin (TS.mk 0 QJ Qh)).s.C == Z0 [GC.i 12,GC.i 0,GC.i 0,GC.i 0,GC.i 0,GC.i 0,GC.i 0,GC.i 0,GC.i 0,GC.i 0,GC.i 0,GC.i 0,GC.i 0,GC.b false,GC.i 0,GC.b false,GC.i 0,GC.i 0,GC.i 0,GC.i 0,GC.i 0,GC.b false] true ((Xd X).fin (TS.mk 0 QJ Qh)).t.op (jy X) ((Xd X).fin (TS.mk 0 QJ Qh)).t.mo ((Xd X).fin (TS.mk 0 QJ Qh)).t.en ((Xd X).fin (TS.mk 0 QJ Qh)).t.la0 ((Xd X).fin (TS.mk 0 QJ Qh)).t.la1 ((Xd X).fin (TS.mk 0 QJ Qh)).t.la2 (J2 ((Xd X).fin (TS.mk 0 QJ Qh)).t.l) ((Xd X).fin (TS.mk 0 QJ Qh)).t.has (J2 ((Xd X).fin (TS.mk 0 QJ Qh)).t.y) ((Xd X).fin (TS.mk 0 QJ Qh)).t.st0 ((Xd X).fin (TS.mk 0 QJ Qh)).t.st1 ((Xd X).fin (TS.mk 0 QJ Qh)).t.tr ((Xd X).fin (TS.mk 0 QJ Qh)).t.C
def JV5:Prop:= (XQ ((Xd X).fin (TS.mk 0 QJ Qh)).s.op ((Xd X).fin (TS.mk 0 QJ Qh)).s.cl ((Xd X).fin (TS.mk 0 QJ Qh)).s.er != JL2 X || Jl ((Xd X).fin (TS.mk 0 QJ Qh)).s.op (Wm X) ((Xd X).fin (TS.mk 0 QJ Qh)).s.C != Jl ((Xd X).fin (TS.mk 0 QJ Qh)).t.op (JL2 X) ((Xd X).fin (TS.mk 0 QJ Qh)).t.C) = false
def JGo:List Prop:= [0 ≤ X.length ∧ X.length ≤ 1000 ∧ YtmbfbhimdkjkoaaGreat.Rel (TS.mk 0 QJ Qh).s (TS.mk 0 QJ Qh).t,Int.ofNat 0 = 0,false = false,false = false,Int.ofNat 0 = 0,false = false,false = false, Int.ofNat 0 = 0,Int.ofNat 0 = 0,Int.ofNat 0 = 0,Int.ofNat 0 = 0,Int.ofNat 0 = 0,Int.ofNat 0 = 0,Int.ofNat 0 = 0,Int.ofNat 0 = 0,Int.ofNat 0 = 0,Int.ofNat 0 = 0,Int.ofNat 0 = 0, Int.ofNat 0 = 0,Int.ofNat 0 = 0,Int.ofNat 0 = 0,Int.ofNat 0 = 0,Int.ofNat 0 = 0,false = false,Int.ofNat 0 = 0,false = false,Int.ofNat 0 = 0,Int.ofNat 0 = 0,Int.ofNat 0 = 0, Int.ofNat 0 = 0,Int.ofNat 0 = 0,false = false,false = false,Int.ofNat 0 = 0,Int.ofNat 0 = 0,Int.ofNat 0 = 0,Int.ofNat 0 = 0,Int.ofNat 0 = 0,Int.ofNat 0 = 0,Int.ofNat 0 = 0, Int.ofNat 0 = 0,Int.ofNat 0 = 0,Int.ofNat 0 = 0,Int.ofNat 0 = 0,Int.ofNat 0 = 0,Int.ofNat 0 = 0,false = false,Int.ofNat 0 = 0,false = false,Int.ofNat 0 = 0,Int.ofNat 0 = 0, Int.ofNat 0 = 0,Int.ofNat 0 = 0,Int.ofNat 0 = 0,false = false,Int.ofNat 0 = 0,Int.ofNat 0 = 0,false = false,Int.ofNat 0 = 0,Int.ofNat 0 = 0,(TS.mk 0 QJ Qh).t.C = [],Int.ofNat 0 = 0, Int.ofNat 0 = 0,Int.ofNat 0 = 0,Int.ofNat 0 = 0,Int.ofNat 0 = 0,Int.ofNat 0 = 0,Int.ofNat 0 = 0,Int.ofNat 0 = 0,Int.ofNat 0 = 0,Int.ofNat 0 = 0,Int.ofNat 0 = 0,Int.ofNat 0 = 0, Int.ofNat 0 = 0,false = false,Int.ofNat 0 = 0,false = false,Int.ofNat 0 = 0,Int.ofNat 0 = 0,Int.ofNat 0 = 0,Int.ofNat 0 = 0,Int.ofNat 0 = 0,false = false,Int.ofNat 0 = 0,Int.ofNat 0 = 0, Int.ofNat 0 = 0,Int.ofNat 0 = 0,Int.ofNat 0 = 0,Int.ofNat 0 = 0,Int.ofNat 0 = 0,Int.ofNat 0 = 0,Int.ofNat 0 = 0,Int.ofNat 0 = 0,Int.ofNat 0 = 0,Int.ofNat 0 = 0,Int.ofNat 0 = 0, false = false,Int.ofNat 0 = 0,false = false,Int.ofNat 0 = 0,Int.ofNat 0 = 0,Int.ofNat 0 = 0,Int.ofNat 0 = 0,Int.ofNat 0 = 0,false = false,Int.ofNat 0 = 0,Int.ofNat 0 = 0,false = false, false = false,false = false,false = false,false = false,Int.ofNat 0 = 0,Int.ofNat 0 = 0,Int.ofNat 0 = 0,Int.ofNat 0 = 0,(TS.mk 0 QJ Qh).s.C = [],([]:LL) = [], ((Xd X).fin (TS.mk 0 QJ Qh)).bad = false → Xg ((Xd X).fin (TS.mk 0 QJ Qh)).s.op ((Xd X).fin (TS.mk 0 QJ Qh)).s.cl ((Xd X).fin (TS.mk 0 QJ Qh)).s.er ([]:LL) = [] ∧ (JV5 X → Xg ((Xd X).fin (TS.mk 0 QJ Qh)).s.op true (Wm X) ([]:LL) = []) ∧ (JV5 X → (XQ ((Xd X).fin (TS.mk 0 QJ Qh)).s.op true (Wm X) != jy X || Jl ((Xd X).fin (TS.mk 0 QJ Qh)).s.op (K9 ((Xd X).fin (TS.mk 0 QJ Qh)).s.op true (Wm X)) ((Xd X).fin (TS.mk 0 QJ Qh)).s.C != Jl ((Xd X).fin (TS.mk 0 QJ Qh)).t.op (jy X) ((Xd X).fin (TS.mk 0 QJ Qh)).t.C) = false →
 ((Xd X).fin (TS.mk 0 QJ Qh)).s.C.length ≤ 1000 ∧ 0 ≤ 800000 ∧ ((jy X != 0) = false → ((Xd X).fin (TS.mk 0 QJ Qh)).t.C.length ≤ 8))]
end
theorem Jq5 (X:LL):(JkE X) = true := by
  have R:Rel ((Xd X).fin (TS.mk 0 QJ Qh)).s ((Xd X).fin (TS.mk 0 QJ Qh)).t := JOb X (X.length - 0) ⟨0,QJ,Qh⟩ Jox
  have hb:((Xd X).fin (TS.mk 0 QJ Qh)).bad = false := Jcu X (X.length - 0) ⟨0,QJ,Qh⟩
  unfold JkE jy JfZ JL2 Wm
  rw [hb,cond_false]
  exact JhB R
theorem JoI {X:LL} (hW:∀ q ∈ ([X.length ≤ 1000]:List Prop),q):∀ q ∈ (JGo X),q := by
  simp only [awc,awn,and_true] at hW
  unfold JGo
  simp only [awc,awn,and_true]
  have R:Rel ((Xd X).fin (TS.mk 0 QJ Qh)).s ((Xd X).fin (TS.mk 0 QJ Qh)).t := JOb X (X.length - 0) ⟨0,QJ,Qh⟩ Jox
  have h8 := R.C8
  have k:((Xd X).fin (TS.mk 0 QJ Qh)).bad = false →
     Xg ((Xd X).fin (TS.mk 0 QJ Qh)).s.op ((Xd X).fin (TS.mk 0 QJ Qh)).s.cl ((Xd X).fin (TS.mk 0 QJ Qh)).s.er [] = [] ∧ (JV5 X → Xg ((Xd X).fin (TS.mk 0 QJ Qh)).s.op true (Wm X) [] = []) ∧
     (JV5 X → (XQ ((Xd X).fin (TS.mk 0 QJ Qh)).s.op true (Wm X) != jy X || Jl ((Xd X).fin (TS.mk 0 QJ Qh)).s.op (K9 ((Xd X).fin (TS.mk 0 QJ Qh)).s.op true (Wm X)) ((Xd X).fin (TS.mk 0 QJ Qh)).s.C != Jl ((Xd X).fin (TS.mk 0 QJ Qh)).t.op (jy X) ((Xd X).fin (TS.mk 0 QJ Qh)).t.C) = false →
       ((Xd X).fin (TS.mk 0 QJ Qh)).s.C.length ≤ 1000 ∧ 0 ≤ 800000 ∧ ((jy X != 0) = false → ((Xd X).fin (TS.mk 0 QJ Qh)).t.C.length ≤ 8)) :=
    fun _ => ⟨JGy ..,fun _ => JGy ..,fun _ _ => ⟨by omega,by decide,fun _ => R.D8⟩⟩
  refine ⟨⟨Nat.zero_le _,hW,Jox⟩,?_⟩
  repeat' first | exact k | refine ⟨by kernel_rfl,?_⟩ | kernel_rfl | exact trivial | refine ⟨trivial,?_⟩
theorem Jo8 (X:LL) (hNeeds:∀ pN ∈ (JGo X),pN):Runs (Js (JB JEK) JW3 15) (JFU.args []) (JFU.memo [] [X]) JFU.n (SV.one (SC.bool (SB.v (JkE X))))
    ([]) :=
  Runs.of1 (ps := (JGo X)) (by kernel_rfl) hNeeds
def JOW:List Pm → Qr → Option CRes
  | [],[X] => some ⟨SV.one (SC.bool (SB.c true)),
    [],
    [X.length ≤ 1000],[],185165⟩
  | _,_ => none
theorem JnR:Qk Tryz.prog 15 (JS JFU JOW) := by
  refine JH (JD JYe 15) fun ps ls r hr hn _ => ?_
  unfold JOW at hr
  split at hr
  · cases hr; exact ⟨_,Jo8 _ (JoI (by exact hn)),fun _ => by simp only [SV.den,SC.den,SB.val,Jq5]⟩
  · cases hr
def Jij:List (Nat × JW) := (15,JS JFU JOW) :: JEK
theorem JXd:Known Tryz.prog (JB Jij) JW3 := J7 JYe JnR
def JEp:Tpl := ⟨[.one (.wh 0)],[(0,.row true 40 22 1 CKi)],2⟩
section
variable (X:LL)
def JEd:Int:= Kn ((QP X).fin (TS.mk 0 QJ Qh)).t.cl ((QP X).fin (TS.mk 0 QJ Qh)).t.op ((QP X).fin (TS.mk 0 QJ Qh)).t.er
def YZ:Int:= K9 ((QP X).fin (TS.mk 0 QJ Qh)).s.op ((QP X).fin (TS.mk 0 QJ Qh)).s.cl ((QP X).fin (TS.mk 0 QJ Qh)).s.er
def WI:Int:= Kn true ((QP X).fin (TS.mk 0 QJ Qh)).t.op (JEd X)
def JXb:Int:= K9 ((QP X).fin (TS.mk 0 QJ Qh)).s.op true (YZ X)
def JdQ:Bool:= bif ((QP X).fin (TS.mk 0 QJ Qh)).bad then false else bif XQ ((QP X).fin (TS.mk 0 QJ Qh)).s.op ((QP X).fin (TS.mk 0 QJ Qh)).s.cl ((QP X).fin (TS.mk 0 QJ Qh)).s.er != JEd X || Jl ((QP X).fin (TS.mk 0 QJ Qh)).s.op (YZ X) ((QP X).fin (TS.mk 0 QJ Qh)).s.C != Jl ((QP X).fin (TS.mk 0 QJ Qh)).t.op (JEd X) ((QP X).fin (TS.mk 0 QJ Qh)).t.C then false else bif XQ ((QP X).fin (TS.mk 0 QJ Qh)).s.op true (YZ X) != WI X || Jl ((QP X).fin (TS.mk 0 QJ Qh)).s.op (JXb X) ((QP X).fin (TS.mk 0 QJ Qh)).s.C != Jl ((QP X).fin (TS.mk 0 QJ Qh)).t.op (WI X) ((QP X).fin (TS.mk 0 QJ Qh)).t.C then false else Kq [GC.i 12,GC.i 0,GC.i 0,GC.i 0,GC.i 0,GC.i 0,GC.i 0,GC.i 0,GC.i 0,GC.i 0,GC.i 0,GC.i 0,GC.i 0,GC.b false,GC.i 0,GC.b false,GC.i 0,GC.i 0,GC.i 0,GC.i 0,GC.i 0,GC.b false] (J2 ((QP X).fin (TS.mk 0 QJ Qh)).s.l) (J2 ((QP X).fin (TS.mk 0 QJ Qh)).s.y) ((QP X).fin (TS.mk 0 QJ Qh)).s.a0 ((QP X).fin (TS.mk 0 QJ Qh)).s.a1 ((QP X).fin (TS.mk 0 QJ Qh)).s.tr ((QP X).fin (TS.mk 0 QJ Qh)).s.op true ((QP X).fin (TS.mk 0 QJ Qh)).s.en ((QP X).fin (TS.mk 0 QJ Qh)).s.mo ((QP X).fin (TS.mk 0 QJ Qh)).s.la0 ((QP X).fin (TS.mk 0 QJ Qh)).s.la1 ((QP X).fin (TS.mk 0 QJ Qh)).s.la2 (JXb X) ((QP X).fin (TS.mk 0 QJ Qh)).s.C == Z0 [GC.i 12,GC.i 0,GC.i 0,GC.i 0,GC.i 0,GC.i 0,GC.i 0,GC.i 0,GC.i 0,GC.i 0,GC.i 0,GC.i 0,GC.i 0,GC.b false,GC.i 0,GC.b false,GC.i 0,GC.i 0,GC.i 0,GC.i 0,GC.i 0,GC.b false] true ((QP X).fin (TS.mk 0 QJ Qh)).t.op (WI X) ((QP X).fin (TS.mk 0 QJ Qh)).t.mo ((QP X).fin (TS.mk 0 QJ Qh)).t.en ((QP X).fin (TS.mk 0 QJ Qh)).t.la0 ((QP X).fin (TS.mk 0 QJ Qh)).t.la1 ((QP X).fin (TS.mk 0 QJ Qh)).t.la2 (J2 ((QP X).fin (TS.mk 0 QJ Qh)).t.l) ((QP X).fin (TS.mk 0 QJ Qh)).t.has (J2 ((QP X).fin (TS.mk 0 QJ Qh)).t.y) ((QP X).fin (TS.mk 0 QJ Qh)).t.st0 ((QP X).fin (TS.mk 0 QJ Qh)).t.st1 ((QP X).fin (TS.mk 0 QJ Qh)).t.tr ((QP X).fin (TS.mk 0 QJ Qh)).t.C
def JPD:Prop:= (XQ ((QP X).fin (TS.mk 0 QJ Qh)).s.op ((QP X).fin (TS.mk 0 QJ Qh)).s.cl ((QP X).fin (TS.mk 0 QJ Qh)).s.er != JEd X || Jl ((QP X).fin (TS.mk 0 QJ Qh)).s.op (YZ X) ((QP X).fin (TS.mk 0 QJ Qh)).s.C != Jl ((QP X).fin (TS.mk 0 QJ Qh)).t.op (JEd X) ((QP X).fin (TS.mk 0 QJ Qh)).t.C) = false
def JDv:List Prop:= [0 ≤ X.length ∧ X.length ≤ 1000 ∧ YtmbfbhimdkjkoaaGreat.Rel (TS.mk 0 QJ Qh).s (TS.mk 0 QJ Qh).t,Int.ofNat 0 = 0,false = false,false = false,Int.ofNat 0 = 0,false = false,false = false, Int.ofNat 0 = 0,Int.ofNat 0 = 0,Int.ofNat 0 = 0,Int.ofNat 0 = 0,Int.ofNat 0 = 0,Int.ofNat 0 = 0,Int.ofNat 0 = 0,Int.ofNat 0 = 0,Int.ofNat 0 = 0,Int.ofNat 0 = 0,Int.ofNat 0 = 0, Int.ofNat 0 = 0,Int.ofNat 0 = 0,Int.ofNat 0 = 0,Int.ofNat 0 = 0,Int.ofNat 0 = 0,false = false,Int.ofNat 0 = 0,false = false,Int.ofNat 0 = 0,Int.ofNat 0 = 0,Int.ofNat 0 = 0, Int.ofNat 0 = 0,Int.ofNat 0 = 0,false = false,false = false,Int.ofNat 0 = 0,Int.ofNat 0 = 0,Int.ofNat 0 = 0,Int.ofNat 0 = 0,Int.ofNat 0 = 0,Int.ofNat 0 = 0,Int.ofNat 0 = 0, Int.ofNat 0 = 0,Int.ofNat 0 = 0,Int.ofNat 0 = 0,Int.ofNat 0 = 0,Int.ofNat 0 = 0,Int.ofNat 0 = 0,false = false,Int.ofNat 0 = 0,false = false,Int.ofNat 0 = 0,Int.ofNat 0 = 0, Int.ofNat 0 = 0,Int.ofNat 0 = 0,Int.ofNat 0 = 0,false = false,Int.ofNat 0 = 0,Int.ofNat 0 = 0,false = false,Int.ofNat 0 = 0,Int.ofNat 0 = 0,(TS.mk 0 QJ Qh).t.C = [],Int.ofNat 0 = 0, Int.ofNat 0 = 0,Int.ofNat 0 = 0,Int.ofNat 0 = 0,Int.ofNat 0 = 0,Int.ofNat 0 = 0,Int.ofNat 0 = 0,Int.ofNat 0 = 0,Int.ofNat 0 = 0,Int.ofNat 0 = 0,Int.ofNat 0 = 0,Int.ofNat 0 = 0, Int.ofNat 0 = 0,false = false,Int.ofNat 0 = 0,false = false,Int.ofNat 0 = 0,Int.ofNat 0 = 0,Int.ofNat 0 = 0,Int.ofNat 0 = 0,Int.ofNat 0 = 0,false = false,Int.ofNat 0 = 0,Int.ofNat 0 = 0, Int.ofNat 0 = 0,Int.ofNat 0 = 0,Int.ofNat 0 = 0,Int.ofNat 0 = 0,Int.ofNat 0 = 0,Int.ofNat 0 = 0,Int.ofNat 0 = 0,Int.ofNat 0 = 0,Int.ofNat 0 = 0,Int.ofNat 0 = 0,Int.ofNat 0 = 0, false = false,Int.ofNat 0 = 0,false = false,Int.ofNat 0 = 0,Int.ofNat 0 = 0,Int.ofNat 0 = 0,Int.ofNat 0 = 0,Int.ofNat 0 = 0,false = false,Int.ofNat 0 = 0,Int.ofNat 0 = 0,false = false, false = false,false = false,false = false,false = false,Int.ofNat 0 = 0,Int.ofNat 0 = 0,Int.ofNat 0 = 0,Int.ofNat 0 = 0,(TS.mk 0 QJ Qh).s.C = [],([]:LL) = [], ((QP X).fin (TS.mk 0 QJ Qh)).bad = false → Xg ((QP X).fin (TS.mk 0 QJ Qh)).s.op ((QP X).fin (TS.mk 0 QJ Qh)).s.cl ((QP X).fin (TS.mk 0 QJ Qh)).s.er ([]:LL) = [] ∧ (JPD X → Xg ((QP X).fin (TS.mk 0 QJ Qh)).s.op true (YZ X) ([]:LL) = []) ∧ (JPD X → (XQ ((QP X).fin (TS.mk 0 QJ Qh)).s.op true (YZ X) != WI X || Jl ((QP X).fin (TS.mk 0 QJ Qh)).s.op (K9 ((QP X).fin (TS.mk 0 QJ Qh)).s.op true (YZ X)) ((QP X).fin (TS.mk 0 QJ Qh)).s.C != Jl ((QP X).fin (TS.mk 0 QJ Qh)).t.op (WI X) ((QP X).fin (TS.mk 0 QJ Qh)).t.C) = false →
 ((QP X).fin (TS.mk 0 QJ Qh)).s.C.length ≤ 1000 ∧ 0 ≤ 800000 ∧ ((WI X != 0) = false → ((QP X).fin (TS.mk 0 QJ Qh)).t.C.length ≤ 8))]
end
theorem Jkh (X:LL):(JdQ X) = true := by
  have R:Rel ((QP X).fin (TS.mk 0 QJ Qh)).s ((QP X).fin (TS.mk 0 QJ Qh)).t := JOb X (X.length - 0) ⟨0,QJ,Qh⟩ Jox
  have hb:((QP X).fin (TS.mk 0 QJ Qh)).bad = false := Jcu X (X.length - 0) ⟨0,QJ,Qh⟩
  unfold JdQ WI JXb JEd YZ
  rw [hb,cond_false]
  exact JhB R
theorem Jj8 {X:LL} (hW:∀ q ∈ ([X.length ≤ 1000]:List Prop),q):∀ q ∈ (JDv X),q := by
  simp only [awc,awn,and_true] at hW
  unfold JDv
  simp only [awc,awn,and_true]
  have R:Rel ((QP X).fin (TS.mk 0 QJ Qh)).s ((QP X).fin (TS.mk 0 QJ Qh)).t := JOb X (X.length - 0) ⟨0,QJ,Qh⟩ Jox
  have h8 := R.C8
  have k:((QP X).fin (TS.mk 0 QJ Qh)).bad = false →
     Xg ((QP X).fin (TS.mk 0 QJ Qh)).s.op ((QP X).fin (TS.mk 0 QJ Qh)).s.cl ((QP X).fin (TS.mk 0 QJ Qh)).s.er [] = [] ∧ (JPD X → Xg ((QP X).fin (TS.mk 0 QJ Qh)).s.op true (YZ X) [] = []) ∧
     (JPD X → (XQ ((QP X).fin (TS.mk 0 QJ Qh)).s.op true (YZ X) != WI X || Jl ((QP X).fin (TS.mk 0 QJ Qh)).s.op (K9 ((QP X).fin (TS.mk 0 QJ Qh)).s.op true (YZ X)) ((QP X).fin (TS.mk 0 QJ Qh)).s.C != Jl ((QP X).fin (TS.mk 0 QJ Qh)).t.op (WI X) ((QP X).fin (TS.mk 0 QJ Qh)).t.C) = false →
       ((QP X).fin (TS.mk 0 QJ Qh)).s.C.length ≤ 1000 ∧ 0 ≤ 800000 ∧ ((WI X != 0) = false → ((QP X).fin (TS.mk 0 QJ Qh)).t.C.length ≤ 8)) :=
    fun _ => ⟨JGy ..,fun _ => JGy ..,fun _ _ => ⟨by omega,by decide,fun _ => R.D8⟩⟩
  refine ⟨⟨Nat.zero_le _,hW,Jox⟩,?_⟩
  repeat' first | exact k | refine ⟨by kernel_rfl,?_⟩ | kernel_rfl | exact trivial | refine ⟨trivial,?_⟩
theorem JmF (X:LL) (hNeeds:∀ pN ∈ (JDv X),pN):Runs (Js (JB Jij) JW3 15) (JEp.args []) (JEp.memo [] [X]) JEp.n (SV.one (SC.bool (SB.v (JdQ X))))
    ([]) :=
  Runs.of1 (ps := (JDv X)) (by kernel_rfl) hNeeds
def JQ2:List Pm → Qr → Option CRes
  | [],[X] => some ⟨SV.one (SC.bool (SB.c true)),
    [],
    [X.length ≤ 1000],[],185165⟩
  | _,_ => none
theorem Jqu:Qk Tryz.prog 15 (JS JEp JQ2) := by
  refine JH (JD JXd 15) fun ps ls r hr hn _ => ?_
  unfold JQ2 at hr
  split at hr
  · cases hr; exact ⟨_,JmF _ (Jj8 (by exact hn)),fun _ => by simp only [SV.den,SC.den,SB.val,Jkh]⟩
  · cases hr
def Jmo:List (Nat × JW) := (15,orS (JS JEp JQ2) (JS JFU JOW)) :: Jij
theorem JiM:Known Tryz.prog (JB Jmo) JW3 := J7 JXd (JJN Jqu JnR)
def JXM:List Pm → Qr → Option CRes
  | [],[] => some ⟨SV.one (SC.bool (SB.c true)),[],[],[],1018⟩
  | _,_ => none
theorem Juj:Qk Tryz.prog 8 (JS jW JXM) := by
  refine JH (JD JJB 8) fun ps ls r hr hn _ => ?_
  unfold JXM at hr
  split at hr
  · cases hr; exact ⟨_,JYi (fun p hp => JVe p hp),fun _ => rfl⟩
  · cases hr
def JtZ:List (Nat × JW) := (8,JS jW JXM) :: Jmo
theorem Jjz:Known Tryz.prog (JB JtZ) JW3 := J7 JiM Juj
def jp:Tpl := ⟨[.one (.wh 0),.one (.wh 1),.one (.int .i64),.one (.int .i64),.one (.int .i64)],[(0,.row true 3 1 2 [.int .i64]),(1,.row true 40 22 3 CKi)],4⟩
section
variable (u w:Int) (L:LL) (v:Int)
def Jhe:Prop:= (QA v 9 == 0) = true
def Xu:Int:= IntKind.i64.wrap (QA u (Int.ofNat (Ji 0 L).length) + 1)
def qw:LL:= [] ++ List.take ((QA u (Int.ofNat (Ji 0 L).length)).toNat - 0) (List.drop 0 (Ji 0 L))
def JhT:Prop:= (QA v 9 == 0) = false
def Jhk:Prop:= (QA v 9 == 1) = true
def JID:LL:= [] ++ List.take ((Xu u L).toNat - 0) (List.drop 0 (Ji 0 L))
def Jh9:Prop:= (QA v 9 == 1) = false
def JgU:Prop:= (QA v 9 == 2) = true
def Ql:Prop:= (QA u (Int.ofNat (Ji 0 L).length)).toNat < (Ji 0 L).length
def JIf:Prop:= 0 ≤ QA u (Int.ofNat (Ji 0 L).length) ∧ Ql u L ∧ Ql u L ∧ Ql u L
def JcE:Prop:= (QA v 9 == 2) = false
def JbX:Prop:= (QA v 9 == 3) = true
def Jca:Prop:= (QA v 9 == 3) = false
def Jbv:Prop:= (QA v 9 == 4) = true
def JbV:Prop:= (QA v 9 == 4) = false
def Jbd:Prop:= (QA v 9 == 5) = true
def JcI:Prop:= (QA v 9 == 5) = false
def Jbu:Prop:= (QA v 9 == 6) = true
def JbY:Prop:= (QA v 9 == 6) = false
def JcF:Prop:= (QA v 9 == 7) = true
def YP:List Int:= (Ji 0 L).getD (QA u (Int.ofNat (Ji 0 L).length)).toNat []
def JCF:LL:= (Ji 0 L).set (QA u (Int.ofNat (Ji 0 L).length)).toNat (kU 22 0 4 [IntKind.i64.wrap ((YP u L).getD 4 0 + 1)] (YP u L))
def JCC:Prop:= (QA u (Int.ofNat (Ji 0 L).length)).toNat < (JCF u L).length
def Jc5:Prop:= (QA v 9 == 7) = false
def JEy:LL:= qw u L ++ [[JFl w 7 14,0,0,0,0,0,0,0,0,0,0,0,0,0,0,0,0,0,0,7,0,0]]
def JKA:LL:= List.take ((Ji 0 L).length - (QA u (Int.ofNat (Ji 0 L).length)).toNat) (List.drop (QA u (Int.ofNat (Ji 0 L).length)).toNat (Ji 0 L))
end
def JDd (u:Int) (v:Int) (w:Int) (L:LL) (R:LL):List Prop := [(!JOP L || decide (Int.ofNat R.length > 12)) = false → Int.ofNat 0 ≤ 0 ∧ L.length ≤ 1000000 ∧ Int.ofNat (Ji 0 L).length ≠ 0 ∧ Int.ofNat 9 ≠ 0 ∧ (Jhe v → 0 ≤ QA u (Int.ofNat (Ji 0 L).length) ∧ 0 ≤ (QA u (Int.ofNat (Ji 0 L).length)).toNat ∧ (QA u (Int.ofNat (Ji 0 L).length)).toNat ≤ (Ji 0 L).length ∧ (QA u (Int.ofNat (Ji 0 L).length)).toNat - 0 ≤ (Ji 0 L).length ∧ (0 + ((QA u (Int.ofNat (Ji 0 L).length)).toNat - 0)) * 176 ≤ 140737488355328 ∧ 0 + ((QA u (Int.ofNat (Ji 0 L).length)).toNat - 0) ≤ 9223372036854775807 ∧ 0 ≤ Xu u L ∧ (Xu u L).toNat ≤ (Ji 0 L).length ∧ (Ji 0 L).length ≤ (Ji 0 L).length ∧ (Xu u L).toNat + ((Ji 0 L).length - (Xu u L).toNat) ≤ (Ji 0 L).length ∧ ((qw u L).length + ((Ji 0 L).length - (Xu u L).toNat)) * 176 ≤ 140737488355328 ∧ (qw u L).length + ((Ji 0 L).length - (Xu u L).toNat) ≤ 9223372036854775807) ∧ (JhT v → (Jhk v → 0 ≤ Xu u L ∧ 0 ≤ (Xu u L).toNat ∧ (Xu u L).toNat ≤ (Ji 0 L).length ∧ (Xu u L).toNat - 0 ≤ (Ji 0 L).length ∧ (0 + ((Xu u L).toNat - 0)) * 176 ≤ 140737488355328 ∧ 0 + ((Xu u L).toNat - 0) ≤ 9223372036854775807 ∧ 0 ≤ QA u (Int.ofNat (Ji 0 L).length) ∧ (QA u (Int.ofNat (Ji 0 L).length)).toNat ≤ (Ji 0 L).length ∧ (Ji 0 L).length ≤ (Ji 0 L).length ∧ (QA u (Int.ofNat (Ji 0 L).length)).toNat + ((Ji 0 L).length - (QA u (Int.ofNat (Ji 0 L).length)).toNat) ≤ (Ji 0 L).length ∧ ((JID u L).length + ((Ji 0 L).length - (QA u (Int.ofNat (Ji 0 L).length)).toNat)) * 176 ≤ 140737488355328 ∧ (JID u L).length + ((Ji 0 L).length - (QA u (Int.ofNat (Ji 0 L).length)).toNat) ≤ 9223372036854775807) ∧ (Jh9 v → (JgU v → 0 ≤ QA u (Int.ofNat (Ji 0 L).length) ∧ Ql u L ∧ Ql u L ∧ Ql u L ∧ JIf u L) ∧ (JcE v → (JbX v → JIf u L) ∧ (Jca v → (Jbv v → Int.ofNat 14 ≠ 0 ∧ JIf u L) ∧ (JbV v → (Jbd v → 0 ≤ QA u (Int.ofNat (Ji 0 L).length) ∧ Ql u L ∧ Ql u L ∧ Ql u L ∧ Ql u L ∧ Int.ofNat 101 ≠ 0 ∧ 0 ≤ QA u (Int.ofNat (Ji 0 L).length) ∧ Ql u L ∧ Ql u L ∧ Ql u L ∧ Ql u L) ∧ (JcI v → (Jbu v → Int.ofNat 3 ≠ 0 ∧ JIf u L) ∧ (JbY v → (JcF v → 0 ≤ QA u (Int.ofNat (Ji 0 L).length) ∧ Ql u L ∧ Ql u L ∧ Ql u L ∧ Ql u L ∧ 0 ≤ QA u (Int.ofNat (Ji 0 L).length) ∧ Ql u L ∧ Ql u L ∧ Ql u L ∧ Ql u L ∧ 0 ≤ QA u (Int.ofNat (Ji 0 L).length) ∧ Ql u L ∧ Ql u L ∧ Ql u L ∧ Ql u L ∧ 0 ≤ QA u (Int.ofNat (Ji 0 L).length) ∧ JCC u L ∧ JCC u L ∧ JCC u L ∧ JCC u L) ∧ (Jc5 v → 0 ≤ QA u (Int.ofNat (Ji 0 L).length) ∧ 0 ≤ (QA u (Int.ofNat (Ji 0 L).length)).toNat ∧ (QA u (Int.ofNat (Ji 0 L).length)).toNat ≤ (Ji 0 L).length ∧
 (QA u (Int.ofNat (Ji 0 L).length)).toNat - 0 ≤ (Ji 0 L).length ∧ (0 + ((QA u (Int.ofNat (Ji 0 L).length)).toNat - 0)) * 176 ≤ 140737488355328 ∧ 0 + ((QA u (Int.ofNat (Ji 0 L).length)).toNat - 0) ≤ 9223372036854775807 ∧ Int.ofNat 8 ≠ 0 ∧ ((qw u L).length + 1) * 176 ≤ 140737488355328 ∧ (qw u L).length + 1 ≤ 9223372036854775807 ∧ 0 ≤ QA u (Int.ofNat (Ji 0 L).length) ∧ (QA u (Int.ofNat (Ji 0 L).length)).toNat ≤ (Ji 0 L).length ∧ (Ji 0 L).length ≤ (Ji 0 L).length ∧ (QA u (Int.ofNat (Ji 0 L).length)).toNat + ((Ji 0 L).length - (QA u (Int.ofNat (Ji 0 L).length)).toNat) ≤ (Ji 0 L).length ∧ ((JEy u w L).length + ((Ji 0 L).length - (QA u (Int.ofNat (Ji 0 L).length)).toNat)) * 176 ≤ 140737488355328 ∧ (JEy u w L).length + ((Ji 0 L).length - (QA u (Int.ofNat (Ji 0 L).length)).toNat) ≤ 9223372036854775807)))))))) ∧ (Jhe v → (qw u L ++ List.take ((Ji 0 L).length - (Xu u L).toNat) (List.drop (Xu u L).toNat (Ji 0 L))).length ≤ 1000 ∧ R.length ≤ 1000) ∧ (JhT v → (Jhk v → (JID u L ++ JKA u L).length ≤ 1000 ∧ R.length ≤ 1000) ∧ (Jh9 v → (JgU v → ((Ji 0 L).set (QA u (Int.ofNat (Ji 0 L).length)).toNat (kU 22 0 16 [IntKind.i64.wrap (0 - (YP u L).getD 16 0)] (YP u L))).length ≤ 1000 ∧ R.length ≤ 1000) ∧ (JcE v → (JbX v → ((Ji 0 L).set (QA u (Int.ofNat (Ji 0 L).length)).toNat (kU 22 0 17 [w] (YP u L))).length ≤ 1000 ∧ R.length ≤ 1000) ∧ (Jca v → (Jbv v → ((Ji 0 L).set (QA u (Int.ofNat (Ji 0 L).length)).toNat (kU 22 0 0 [JFl w 1 14] (YP u L))).length ≤ 1000 ∧ R.length ≤ 1000) ∧ (JbV v → (Jbd v → ((Ji 0 L).set (QA u (Int.ofNat (Ji 0 L).length)).toNat (kU 22 0 5 [IntKind.i64.wrap ((YP u L).getD 5 0 + JFl w (-50) 50)] (YP u L))).length ≤ 1000 ∧ R.length ≤ 1000) ∧ (JcI v → (Jbu v → ((Ji 0 L).set (QA u (Int.ofNat (Ji 0 L).length)).toNat (kU 22 0 8 [IntKind.i64.wrap (17 + QA w 3)] (YP u L))).length ≤ 1000 ∧ R.length ≤ 1000) ∧ (JbY v → (JcF v → ((JCF u L).set (QA u (Int.ofNat (Ji 0 L).length)).toNat (kU 22 0 7 [IntKind.i64.wrap ((YP u L).getD 7 0 + 1)] ((JCF u L).getD (QA u (Int.ofNat (Ji 0 L).length)).toNat []))).length ≤ 1000 ∧ R.length ≤ 1000) ∧ (Jc5 v → (JEy u w L ++ JKA u L).length ≤ 1000 ∧ R.length ≤ 1000))))))))]
theorem Jib {u:Int} {v:Int} {w:Int} {L:LL} {R:LL}:∀ q ∈ (JDd u v w L R),q := by
  unfold JDd
  simp only [awc,awn,and_true]
  intro hl
  simp only [Bool.or_eq_false_iff,Bool.not_eq_false',decide_eq_false_iff_not] at hl
  have hl' := Jq2 (L := L) hl.1
  have hR:R.length ≤ 12 := by have := hl.2; simp at this; omega
  have hx := JpE 0 L
  have hm := JnD u (Int.ofNat (Ji 0 L).length) (by have h := hx.1; show (1:Int) ≤ ((Ji 0 L).length:Int); omega) (by have h := hx.2; show ((Ji 0 L).length:Int) ≤ _; omega)
  have hn:Int.ofNat (Ji 0 L).length ≠ 0 := by have h := hx.1; intro h'; have h'':((Ji 0 L).length:Int) = 0 := h'; omega
  have hk0 := hm.1
  have hk1:QA u (Int.ofNat (Ji 0 L).length) < ((Ji 0 L).length:Int) := hm.2
  have e1:Xu u L = QA u (Int.ofNat (Ji 0 L).length) + 1 := X7 (by omega) (by omega)
  have s8:Ql u L := by unfold Ql; omega
  have s9:JIf u L := ⟨hk0,s8,s8,s8⟩
  have s22:JCC u L := by unfold JCC JCF; rw [List.length_set]; exact s8
  have l2:(qw u L).length ≤ 8 := by unfold qw; simp only [List.length_append,List.length_take,List.length_drop,List.length_nil]; omega
  have l5:(JID u L).length ≤ 8 := by unfold JID; simp only [List.length_append,List.length_take,List.length_drop,List.length_nil]; omega
  have l21:(JCF u L).length ≤ 8 := by unfold JCF; rw [List.length_set]; omega
  have l24:(JEy u w L).length ≤ 9 := by unfold JEy; simp only [List.length_append,List.length_cons,List.length_nil]; omega
  have l25:(JKA u L).length ≤ 8 := by unfold JKA; simp only [List.length_take,List.length_drop]; omega
  have h0:Int.ofNat 0 ≤ 0 := by decide
  rw [e1] at *
  have hk2:(QA u (Int.ofNat (Ji 0 L).length)).toNat + 1 ≤ (Ji 0 L).length := by unfold Ql at s8; omega
  have hk3:(QA u (Int.ofNat (Ji 0 L).length) + 1).toNat = (QA u (Int.ofNat (Ji 0 L).length)).toNat + 1 := by omega
  rw [hk3]
  generalize hK:QA u (Int.ofNat (Ji 0 L).length) = K at *
  repeat' first | exact s8 | exact s9 | exact s22 | exact hk0 | exact h0 | exact hn | refine And.intro ?_ ?_ | decide | intro _ | omega | (simp only [List.length_append,List.length_take,List.length_drop,List.length_set]; omega)
theorem JmA (u v w:Int) (L R:LL) (hNeeds:∀ pN ∈ (JDd u v w L R),pN):Runs (Js (JB JtZ) JW3 5) (jp.args [.i u,.i v,.i w]) (jp.memo [.i u,.i v,.i w] [L,R]) jp.n (SV.one (SC.bool (SB.c true)))
    ([(0,Obj.row true 3 1 (RowC.lst 2 [CK.int IntKind.i64] L)),
    (1,
     Obj.row true 40 22
     (RowC.lst 3
     [CK.int IntKind.i64,CK.int IntKind.i64,CK.int IntKind.i64,CK.int IntKind.i64,CK.int IntKind.i64,CK.int IntKind.i64,CK.int IntKind.i64,CK.int IntKind.i64,CK.int IntKind.i64,
     CK.int IntKind.i64,CK.int IntKind.i64,CK.int IntKind.i64,CK.int IntKind.i64,CK.bool,CK.int IntKind.i64,CK.bool,CK.int IntKind.i64,CK.int IntKind.i64,CK.int IntKind.i64,
     CK.int IntKind.i64,CK.int IntKind.i64,CK.bool]
     R))]) :=
  Runs.of1 (ps := (JDd u v w L R)) (by kernel_rfl) hNeeds
end
end Go.Proofs.YtmbfbhimdkjkoaaGreat
namespace Go.SX
noncomputable section
open Go.RowKit Go.WideElems Go.ChangeShapes
def flatFs (P:Program) (rec':TypeId → Option (List CK)):List Field → Nat → Option (List CK)
  | [],_ => some []
  | f :: r,o => match rec' f.type with
    | some ks => bif Nat.beq f.offset o && Nat.beq ks.length (P.cellsOf f.type) then (flatFs P rec' r (o + ks.length)).map (ks ++ ·) else none
    | none => none
def JIa (P:Program):Nat → TypeId → Option (List CK)
  | 0,_ => none
  | d + 1,t => match P.underlying t with
    | some .bool => some [.bool]
    | some (.int k) => some [.int k]
    | some (.struct fs) => match flatFs P (JIa P d) fs.toList 0 with
      | some ks => bif Nat.beq ks.length (P.cellsOf t) then some ks else none
      | none => none
    | _ => none
def okV:CK → Value → Prop
  | .int k,v => ∃ n,v = .int k n
  | .bool,v => ∃ b,v = .bool b
def okL:List CK → List Value → Prop
  | [],[] => True
  | k :: ks,v :: vs => okV k v ∧ okL ks vs
  | _,_ => False
theorem JYf:∀ {ks js:List CK} {vs ws:List Value},okL ks vs → okL js ws → okL (ks ++ js) (vs ++ ws)
  | [],_,[],_,_,h => h
  | [],_,_ :: _,_,h,_ => h.elim
  | _ :: _,_,[],_,h,_ => h.elim
  | _ :: _,_,_ :: _,_,h,k => ⟨h.1,JYf h.2 k⟩
section
variable {H:Type} {enc:TypeId × Value → H} {P:Program} {w:World} {base:Nat} {spare:Nat → Bool} {held:Bool}
theorem JlX (l:List Value) (o a b:Nat):(l.drop o).take (a + b) = (l.drop o).take a ++ (l.drop (o + a)).take b := by
  rw [List.take_add,List.drop_drop]
theorem JcV {rec':TypeId → Option (List CK)} {n:Nat} {cs:List Value} (hrec:∀ t ks ds x,rec' t = some ks → DataW.trod enc P w base spare held n t ds = some x → okL ks ds) :
    ∀ {fs:List Field} {o:Nat} {ks:List CK},flatFs P rec' fs o = some ks → (∀ f ∈ fs,∃ x,DataW.trod enc P w base spare held n f.type ((cs.drop f.offset).take (P.cellsOf f.type)) = some x) → okL ks ((cs.drop o).take ks.length)
  | [],o,ks,h,_ => by cases h; simp [okL]
  | f :: r,o,ks,h,hx => by
    simp only [flatFs] at h
    split at h
    · rename_i k1 h1
      cases hb:(Nat.beq f.offset o && Nat.beq k1.length (P.cellsOf f.type))
      · rw [hb] at h; cases h
      rw [hb] at h
      simp only [Bool.and_eq_true] at hb
      have e1 := Nat.eq_of_beq_eq_true hb.1
      have e2 := Nat.eq_of_beq_eq_true hb.2
      simp only [cond_true,Option.map_eq_some_iff] at h
      obtain ⟨k2,h2,rfl⟩ := h
      obtain ⟨x,hx1⟩ := hx f (by simp)
      have q1 := hrec _ _ _ _ h1 hx1
      rw [e1,← e2] at q1
      have q2 := JcV hrec h2 (fun g hg => hx g (by simp [hg]))
      rw [List.length_append,JlX]
      exact JYf q1 q2
    · cases h
theorem JK8:∀ {d:Nat} {t:TypeId} {ks:List CK},JIa P d t = some ks → ∀ {n:Nat} {cs:List Value} {x:DataW H × List MemPlace},DataW.trod enc P w base spare held n t cs = some x → okL ks cs
  | 0,_,_,h,_,_,_,_ => by cases h
  | d + 1,t,ks,h,n,cs,x,hx => by
    simp only [JIa] at h
    split at h
    · rename_i hu
      cases h
      obtain ⟨b,rfl,_⟩ := DataW.trod_bool hu hx
      exact ⟨⟨b,rfl⟩,trivial⟩
    · rename_i k hu
      cases h
      obtain ⟨b,rfl,_⟩ := DataW.trod_int hu hx
      exact ⟨⟨b,rfl⟩,trivial⟩
    · rename_i fs hu
      split at h
      · rename_i js hj
        cases hb:Nat.beq js.length (P.cellsOf t)
        · rw [hb] at h; cases h
        rw [hb] at h
        cases h
        have e := Nat.eq_of_beq_eq_true hb
        obtain ⟨xs,m,rfl,_,hlen,hxl,hf⟩ := DataW.trod_struct hu hx
        have := JcV (P := P) (enc := enc) (w := w) (base := base) (spare := spare) (held := held) (n := m) (cs := cs) (fun t ks ds x h1 h2 => JK8 h1 h2) hj (fun f hfm => by
          obtain ⟨i,hi⟩ := List.getElem?_of_mem hfm
          have hi':fs[i]? = some f := by simpa using hi
          have hlt:i < xs.length := by
            rw [hxl]
            exact (Array.getElem?_eq_some_iff.1 hi').1
          exact ⟨xs[i],by rw [hf i f hi',List.getElem?_eq_getElem hlt]⟩)
        simp only [List.drop_zero] at this
        rwa [List.take_of_length_le (by omega)] at this
      · cases h
    · cases h
end
def Jsn:CK → PC
  | .int k => .int k
  | .bool => .bool
def JL3:List CK → List Pm → Prop
  | [],[] => True
  | .int _ :: ks,.i _ :: ps => JL3 ks ps
  | .bool :: ks,.b _ :: ps => JL3 ks ps
  | _,_ => False
theorem JL3.append:∀ {ks js:List CK} {ps qs:List Pm},JL3 ks ps → JL3 js qs → JL3 (ks ++ js) (ps ++ qs)
  | [],_,[],_,_,h => h
  | [],_,_ :: _,_,h,_ => h.elim
  | .int _ :: ks,js,.i _ :: ps,qs,h,k => JL3.append (ks := ks) (js := js) (ps := ps) (qs := qs) h k
  | .bool :: ks,js,.b _ :: ps,qs,h,k => JL3.append (ks := ks) (js := js) (ps := ps) (qs := qs) h k
  | .int _ :: _,_,[],_,h,_ => h.elim
  | .bool :: _,_,[],_,h,_ => h.elim
  | .int _ :: _,_,.b _ :: _,_,h,_ => h.elim
  | .bool :: _,_,.i _ :: _,_,h,_ => h.elim
theorem Jw4 {ps:List Pm} (h:JL3 [] ps):ps = [] := by cases ps with | nil => rfl | cons => exact h.elim
theorem Jw8 {k:IntKind} {ks:List CK} {ps:List Pm} (h:JL3 (.int k :: ks) ps):∃ n q,ps = .i n :: q ∧ JL3 ks q := by
  cases ps with
  | nil => exact h.elim
  | cons p q => cases p with
    | i n => exact ⟨n,q,rfl,h⟩
    | b x => exact h.elim
theorem Je6:∀ {ks:List CK} {vs:List Value},okL ks vs → ∃ ps,JL3 ks ps ∧ ∀ rest,∃ xs,Jb5 (ks.map Jsn) (ps ++ rest) = (xs,rest) ∧ (∀ θ,JK θ xs = vs) ∧ Qw xs = []
  | [],[],_ => ⟨[],trivial,fun rest => ⟨[],rfl,fun _ => rfl,rfl⟩⟩
  | [],_ :: _,h => h.elim
  | _ :: _,[],h => h.elim
  | .int k :: ks,v :: vs,h => by
    obtain ⟨⟨n,rfl⟩,h2⟩ := h
    obtain ⟨ps,h3,h4⟩ := Je6 h2
    refine ⟨.i n :: ps,h3,fun rest => ?_⟩
    obtain ⟨xs,h5,h6,h7⟩ := h4 rest
    refine ⟨.int k (.v n) :: xs,?_,fun θ => ?_,by rw [Jv,h7]; rfl⟩
    · simp only [List.map_cons,Jsn,Jb5,List.cons_append,PC.mk,h5]
    · have := h6 θ
      simp only [JK,List.map_cons] at this ⊢
      rw [this]; rfl
  | .bool :: ks,v :: vs,h => by
    obtain ⟨⟨n,rfl⟩,h2⟩ := h
    obtain ⟨ps,h3,h4⟩ := Je6 h2
    refine ⟨.b n :: ps,h3,fun rest => ?_⟩
    obtain ⟨xs,h5,h6,h7⟩ := h4 rest
    refine ⟨.bool (.v n) :: xs,?_,fun θ => ?_,by rw [Jv,h7]; rfl⟩
    · simp only [List.map_cons,Jsn,Jb5,List.cons_append,PC.mk,h5]
    · have := h6 θ
      simp only [JK,List.map_cons] at this ⊢
      rw [this]; rfl
theorem Jae:∀ {ks:List CK} {vs:List Value},okL ks vs → ∃ xs:List Int,xs.length = ks.length ∧ ∀ (pre:List Int) θ,JK θ (Kz ks (pre ++ xs) pre.length) = vs
  | [],[],_ => ⟨[],rfl,fun _ _ => rfl⟩
  | [],_ :: _,h => h.elim
  | _ :: _,[],h => h.elim
  | .int k :: ks,v :: vs,h => by
    obtain ⟨⟨n,rfl⟩,h2⟩ := h
    obtain ⟨xs,h3,h4⟩ := Jae h2
    refine ⟨n :: xs,by simp [h3],fun pre θ => ?_⟩
    have := h4 (pre ++ [n]) θ
    simp only [List.append_assoc,List.singleton_append,List.length_append,List.length_cons,List.length_nil,Nat.zero_add] at this
    simp only [Kz,JK,List.map_cons] at this ⊢
    rw [this]
    simp [CK.cell,SC.den,SI.val,List.getD]
  | .bool :: ks,v :: vs,h => by
    obtain ⟨⟨b,rfl⟩,h2⟩ := h
    obtain ⟨xs,h3,h4⟩ := Jae h2
    refine ⟨(bif b then 1 else 0) :: xs,by simp [h3],fun pre θ => ?_⟩
    have := h4 (pre ++ [bif b then 1 else 0]) θ
    simp only [List.append_assoc,List.singleton_append,List.length_append,List.length_cons,List.length_nil,Nat.zero_add] at this
    simp only [Kz,JK,List.map_cons] at this ⊢
    rw [this]
    cases b <;> simp [CK.cell,SC.den,SB.val,List.getD]
inductive PS where
  | agg (ks:List CK) | one (k:CK) | row (e:TypeId) (ks:List CK)
def JiG:List PS → Nat → List PV
  | [],_ => []
  | .agg ks :: r,id => .agg (ks.map Jsn) :: JiG r id
  | .one k :: r,id => .one (Jsn k) :: JiG r id
  | .row _ _ :: r,id => .one (.wh id) :: JiG r (id + 1)
def psK:List PS → List CK
  | [] => []
  | .agg ks :: r => ks ++ psK r
  | .one k :: r => k :: psK r
  | .row _ _ :: r => psK r
def psR:List PS → Nat
  | [] => 0
  | .row _ _ :: r => psR r + 1
  | _ :: r => psR r
def Jc6:List PS → Nat → Nat → Qr → Jo
  | [],_,_,_ => []
  | .agg _ :: r,id,t,ls => Jc6 r id t ls
  | .one _ :: r,id,t,ls => Jc6 r id t ls
  | .row e ks :: r,id,t,xs :: ls => (id,.row true e ks.length (.lst t ks xs)) :: Jc6 r (id + 1) (t + 1) ls
  | .row _ _ :: _,_,_,[] => []
def Jma (P:Program):PS → TypeId → Bool
  | .agg ks,t => (match P.underlying t with | some (.struct _) => true | _ => false) && (match JIa P 20 t with | some js => WC ks js | none => false)
  | .one k,t => (match P.underlying t with | some (.int j) => JX7 k (.int j) | some .bool => JX7 k .bool | _ => false)
  | .row e ks,t => (match P.underlying t with | some (.slice u) => Nat.beq e u | _ => false) && ((match JIa P 20 e with | some js => WC ks js | none => false) && (Nat.beq ks.length (P.cellsOf e) && Nat.blt 0 ks.length))
def JwH (P:Program):List PS → List TypeId → Bool
  | [],[] => true
  | s :: r,t :: ts => Jma P s t && JwH P r ts
  | _,_ => false
section
variable {H:Type} {enc:TypeId × Value → H} {P:Program} {w:World}
theorem Jbr {v:Value} (h:∀ cs,v ≠ .agg cs):v.cells.toList = [v] := by cases v <;> first | rfl | exact absurd rfl (h _)
theorem Jra {t e:TypeId} {ks:List CK} {n:Nat} {v:Value} {x:DataW H × List MemPlace} (hu:P.underlying t = some (.slice e)) (hf:JIa P 20 e = some ks) (hc:ks.length = P.cellsOf e) (hpos:0 < ks.length)
    (h:DataW.trod enc P w 0 (fun _ => true) true n t v.cells.toList = some x) (hv:∀ cs,v ≠ .agg cs) :
    ∃ (xs:List (List Int)) (l:Loc),v = .slice l.ad l.len l.cap ∧ ZA ks.length (xs.map (Qz ks)) ∧ ∀ θ:Th,JRk l w xs.length (JK θ (xs.map (Qz ks)).flatten) := by
  rw [Jbr hv] at h
  rcases DataW.trod_slice hu h with ⟨h0,_⟩ | ⟨a,len,cap,elems,rest,m,_,h1,_,_,hle,_,hlen,hel,_⟩
  · simp only [List.cons.injEq,and_true] at h0
    subst h0
    exact ⟨[],Loc.none,rfl,⟨hpos,fun _ h => by cases h⟩,fun θ => ⟨rfl,rfl,Nat.le_refl _,.inl ⟨rfl,rfl,rfl⟩⟩⟩
  · simp only [List.cons.injEq,and_true] at h1
    subst h1
    have each:∀ i,i < len → ∃ zs:List Int,zs.length = ks.length ∧ ∀ (θ:Th) (j:Nat) (u:Value),(JK θ (Qz ks zs))[j]? = some u → w.cell? (a.add (i * ks.length + j)) = some u := by
      intro i hi
      have h2 := hel i hi
      rw [List.getElem?_eq_getElem (by omega)] at h2
      obtain ⟨cs,h3,h4⟩ := Option.bind_eq_some_iff.1 h2
      obtain ⟨_,h5,h6⟩ := World.cells?_some h3
      obtain ⟨zs,h7,h8⟩ := Jae (JK8 hf h4)
      refine ⟨zs,h7,fun θ j u hu => ?_⟩
      have h9 := h8 [] θ
      simp only [List.nil_append,List.length_nil] at h9
      rw [Qz,h9] at hu
      have hj:j < cs.length := (List.getElem?_eq_some_iff.1 hu).1
      have := h6 j (by omega)
      rw [hu,← hc] at this
      rw [← this,Addr.add_add]
    obtain ⟨xs,hx1,hx2⟩:∃ xs:List (List Int),xs.length = len ∧ ∀ i zs,xs[i]? = some zs → zs.length = ks.length ∧ ∀ (θ:Th) (j:Nat) (u:Value),(JK θ (Qz ks zs))[j]? = some u → w.cell? (a.add (i * ks.length + j)) = some u := by
      have:∀ m,m ≤ len → ∃ xs:List (List Int),xs.length = m ∧ ∀ i zs,xs[i]? = some zs → zs.length = ks.length ∧ ∀ (θ:Th) (j:Nat) (u:Value),(JK θ (Qz ks zs))[j]? = some u → w.cell? (a.add (i * ks.length + j)) = some u := by
        intro m
        induction m with
        | zero => exact fun _ => ⟨[],rfl,fun i zs h => by simp at h⟩
        | succ m ih =>
          intro hm
          obtain ⟨xs,h2,h3⟩ := ih (by omega)
          obtain ⟨zs,h4,h5⟩ := each m (by omega)
          refine ⟨xs ++ [zs],by simp [h2],fun i ys hi => ?_⟩
          by_cases him:i < m
          · rw [List.getElem?_append_left (by omega)] at hi
            exact h3 i ys hi
          · have hlt := (List.getElem?_eq_some_iff.1 hi).1
            simp at hlt
            have:i = m := by omega
            subst this
            rw [List.getElem?_append_right (by omega)] at hi
            simp [h2] at hi
            subst hi
            exact ⟨h4,h5⟩
      exact this len (Nat.le_refl _)
    have hrow:ZA ks.length (xs.map (Qz ks)) := ⟨hpos,fun r hr => by
      obtain ⟨zs,_,rfl⟩ := List.mem_map.1 hr
      exact ⟨by rw [Qz,ZZ],We _ _ _⟩⟩
    have flat:∀ (θ:Th) (ys:List (List Int)) (b:Nat),(∀ i zs,ys[i]? = some zs → ∀ (j:Nat) (u:Value),(JK θ (Qz ks zs))[j]? = some u → w.cell? (a.add ((b + i) * ks.length + j)) = some u) → ∀ (j:Nat) (u:Value),(JK θ (ys.map (Qz ks)).flatten)[j]? = some u → w.cell? (a.add (b * ks.length + j)) = some u := by
      intro θ ys
      induction ys with
      | nil => intro b _ j u h; simp [JK] at h
      | cons z ys ih =>
        intro b hz j u hj
        simp only [List.map_cons,List.flatten_cons,JK,List.map_append] at hj
        have hdl:(List.map (SC.den θ) (Qz ks z)).length = ks.length := by rw [List.length_map,Qz,ZZ]
        by_cases hlt:j < ks.length
        · rw [List.getElem?_append_left (by omega)] at hj
          exact hz 0 z rfl j u hj
        · rw [List.getElem?_append_right (by omega),hdl] at hj
          have := ih (b + 1) (fun i zs hi j u hj => by
            have := hz (i + 1) zs (by simpa using hi) j u hj
            rwa [show b + (i + 1) = b + 1 + i from by omega] at this) (j - ks.length) u hj
          rw [← this]
          congr 2
          rw [Nat.add_mul,Nat.one_mul]; omega
    by_cases hl0:len = 0
    · subst hl0
      have:xs = [] := List.length_eq_zero_iff.1 hx1
      subst this
      exact ⟨[],⟨.none,.none,some a,0,cap,#[]⟩,rfl,hrow,fun θ => ⟨rfl,rfl,Nat.zero_le _,.inl ⟨rfl,rfl,rfl⟩⟩⟩
    · refine ⟨xs,⟨.none,some a.block,some a,len,cap,#[]⟩,rfl,hrow,fun θ => ⟨rfl,hx1.symm,by rw [hx1]; exact hle,.inr ⟨a,rfl,rfl,?_,fun j u hj => ?_⟩⟩⟩
      · intro h0
        have := congrArg List.length h0
        obtain ⟨z,zs,rfl⟩:∃ z zs,xs = z :: zs := by
          cases xs with
          | nil => exact absurd hx1 (fun h => hl0 h.symm)
          | cons z zs => exact ⟨z,zs,rfl⟩
        simp only [JK,List.map_cons,List.flatten_cons,List.map_append,List.length_append,List.length_map,Qz,ZZ,List.length_nil] at this
        omega
      · have := flat θ xs 0 (fun i zs hi j u hj => by
          have := (hx2 i zs hi).2 θ j u hj
          simpa using this) j u hj
        simpa using this
theorem JbZ {b0:Nat}:∀ {pss:List PS} {ts:List TypeId} {vs:List Value} {ds:List (DataW H)} {p:List MemPlace},JwH P pss ts = true → DataW.TrodAll enc P w 0 (fun _ => true) true ts vs ds p →
    (∀ (j:Nat) t v,ts[j]? = some t → vs[j]? = some v → Value.okWide P w .any b0 t v) →
    ∃ (ps:List Pm) (ls:Qr) (locs:List Loc),JL3 (psK pss) ps ∧ ls.length = psR pss ∧ locs.length = psR pss ∧
      ∀ (id:Nat) (θ:Th),(∀ i l,locs[i]? = some l → θ (id + i) = l) → (∀ rest,∃ A,JQk (JiG pss id) (ps ++ rest) = (A,rest) ∧ A.map (SV.den θ) = vs ∧ (∀ i ∈ Qg A,i < id + psR pss)) ∧
        ∀ t i o,JC (Jc6 pss id t ls) i = some o → QD θ w i o ∧ (θ i).blk = none ∧ id ≤ i ∧ i < id + psR pss ∧ K6 o = []
  | [],[],vs,ds,p,_,h,_ => by
    obtain ⟨rfl,_,_⟩ := trodAll_nil h
    exact ⟨[],[],[],trivial,rfl,rfl,fun id θ _ => ⟨fun rest => ⟨[],rfl,rfl,fun _ h => by cases h⟩,fun t i o h => by cases h⟩⟩
  | [],_ :: _,_,_,_,h,_,_ => by cases h
  | _ :: _,[],_,_,_,h,_,_ => by cases h
  | s :: r,t :: ts,vs,ds,p,hok,h,hw => by
    obtain ⟨v,vs',d,ds',p1,p2,rfl,rfl,rfl,⟨n,h1⟩,h2⟩ := trodAll_cons h
    simp only [JwH,Bool.and_eq_true] at hok
    obtain ⟨ps,ls,locs,q1,q2,q3,q4⟩ := JbZ hok.2 h2 (fun j t v hj hv => hw (j + 1) t v (by simpa using hj) (by simpa using hv))
    have hv := hw 0 t v rfl rfl
    have hok1 := hok.1
    cases s with
    | agg ks =>
      simp only [Jma,Bool.and_eq_true] at hok1
      obtain ⟨k1,k2⟩ := hok1
      have hst:∃ fs,P.underlying t = some (.struct fs) := by
        split at k1
        · exact ⟨_,by assumption⟩
        · cases k1
      obtain ⟨fs,hst⟩ := hst
      have hfl:JIa P 20 t = some ks := by
        split at k2
        · rename_i js hj; rw [hj,KH k2]
        · cases k2
      unfold Value.okWide at hv
      rw [hst] at hv
      obtain ⟨cs,rfl,_⟩ := hv
      obtain ⟨qs,m1,m2⟩ := Je6 (JK8 hfl h1)
      refine ⟨qs ++ ps,ls,locs,JL3.append m1 q1,q2,q3,fun id θ hθ => ?_⟩
      obtain ⟨z1,z2⟩ := q4 id θ hθ
      refine ⟨fun rest => ?_,fun t i o ho => z2 t i o ho⟩
      obtain ⟨xs,e1,e2,e3⟩ := m2 (ps ++ rest)
      obtain ⟨A,e4,e5,e6⟩ := z1 rest
      refine ⟨.agg xs :: A,by simp only [JiG,JQk,PV.mk,List.append_assoc,e1,e4],?_,fun i hi => ?_⟩
      · simp only [List.map_cons,e5,SV.den,e2 θ]
        simp [Value.cells]
      · simp only [Qg,Ze,e3,List.nil_append] at hi
        exact e6 i hi
    | one k =>
      simp only [Jma] at hok1
      have hone:(∀ cs,v ≠ .agg cs) ∧ JIa P 20 t = some [k] := by
        unfold Value.okWide Cell.okWide Cell.ok at hv
        split at hok1
        · rename_i j hu
          rw [hu] at hv
          refine ⟨fun cs hc => ?_,?_⟩
          · subst hc; exact hv.elim
          · simp only [JIa,hu]; rw [JQU hok1]
        · rename_i hu
          rw [hu] at hv
          refine ⟨fun cs hc => ?_,?_⟩
          · subst hc; exact hv.elim
          · simp only [JIa,hu]; rw [JQU hok1]
        · cases hok1
      obtain ⟨ho1,hfl⟩ := hone
      rw [Jbr ho1] at h1
      obtain ⟨qs,m1,m2⟩ := Je6 (JK8 hfl h1)
      refine ⟨qs ++ ps,ls,locs,JL3.append (ks := [k]) m1 q1,q2,q3,fun id θ hθ => ?_⟩
      obtain ⟨z1,z2⟩ := q4 id θ hθ
      refine ⟨fun rest => ?_,fun t i o ho => z2 t i o ho⟩
      obtain ⟨xs,e1,e2,e3⟩ := m2 (ps ++ rest)
      obtain ⟨A,e4,e5,e6⟩ := z1 rest
      have e7 := e2 θ
      have hxl:∃ c,xs = [c] := by
        have := congrArg List.length e7
        simp [JK] at this
        match xs,this with
        | [c],_ => exact ⟨c,rfl⟩
      obtain ⟨c,rfl⟩ := hxl
      simp only [List.map_cons,List.map_nil,Jb5,Prod.mk.injEq,List.cons.injEq,and_true] at e1
      refine ⟨.one c :: A,?_,?_,fun i hi => ?_⟩
      · simp only [JiG,JQk,PV.mk,List.append_assoc,e1.1,e1.2,e4]
      · simp only [JK,List.map_cons,List.map_nil,List.cons.injEq,and_true] at e7
        simp only [List.map_cons,e5,SV.den,e7]
      · simp only [Qg,Ze,List.mem_append] at hi
        rcases hi with hi | hi
        · rw [Jv] at e3
          simp [List.append_eq_nil_iff] at e3
          rw [e3.1] at hi; cases hi
        · exact e6 i hi
    | row e ks =>
      simp only [Jma,Bool.and_eq_true] at hok1
      obtain ⟨k1,k2,k3,k4⟩ := hok1
      have hst:P.underlying t = some (.slice e) := by
        split at k1
        · rename_i u hu; rw [hu,Nat.eq_of_beq_eq_true k1]
        · cases k1
      have hfl:JIa P 20 e = some ks := by
        split at k2
        · rename_i js hj; rw [hj,KH k2]
        · cases k2
      have hna:∀ cs,v ≠ .agg cs := fun cs hc => by
        unfold Value.okWide Cell.okWide Cell.ok at hv
        rw [hst] at hv
        subst hc; exact hv.elim
      obtain ⟨xs,l,m1,m2,m3⟩ := Jra hst hfl (Nat.eq_of_beq_eq_true k3) (by rwa [Nat.blt_eq] at k4) h1 hna
      refine ⟨ps,xs :: ls,l :: locs,q1,by simp [psR,q2],by simp [psR,q3],fun id θ hθ => ?_⟩
      have hl:θ id = l := hθ 0 l rfl
      obtain ⟨z1,z2⟩ := q4 (id + 1) θ (fun i l hi => by
        have := hθ (i + 1) l (by simpa using hi)
        rwa [show id + (i + 1) = id + 1 + i from by omega] at this)
      refine ⟨fun rest => ?_,fun t i o ho => ?_⟩
      · obtain ⟨A,e4,e5,e6⟩ := z1 rest
        refine ⟨.one (.wh id) :: A,by simp only [JiG,JQk,PV.mk,PC.mk,e4],?_,fun i hi => ?_⟩
        · simp only [List.map_cons,e5,SV.den,SC.den,hl,m1]
        · simp only [Qg,Ze,Wx,List.singleton_append,List.mem_cons] at hi
          simp only [psR]
          rcases hi with rfl | hi
          · omega
          · have := e6 i hi; omega
      · simp only [Jc6,JT] at ho
        cases hb:Nat.beq id i
        · rw [hb] at ho
          obtain ⟨y1,y2,y3,y4,y5⟩ := z2 (t + 1) i o ho
          simp only [psR]
          exact ⟨y1,y2,by omega,by omega,y5⟩
        · rw [hb] at ho
          cases ho
          have := Nat.eq_of_beq_eq_true hb; subst this
          simp only [psR]
          refine ⟨⟨m2,?_⟩,by rw [hl]; exact (m3 θ).1,Nat.le_refl _,by omega,rfl⟩
          rw [hl]
          simpa [RowC.rows] using m3 θ
theorem Jbl (hl:laidOutB P = true) {W W':World} (hb:Below W.heap.size W W'):∀ {ts:List TypeId} {vs:List Value} {ds:List (DataW H)} {ps:List MemPlace},
    (ts.all fun t => P.readableRec t && decide (t < P.types.size)) = true → DataW.TrodAll enc P W 0 (fun _ => true) true ts vs ds ps → (∀ x ∈ ps,x.block < W.heap.size) → DataW.TrodAll enc P W' 0 (fun b => decide (b < W.heap.size)) true ts vs ds ps
  | [],vs,ds,ps,_,h,_ => by
    obtain ⟨rfl,rfl,rfl⟩ := trodAll_nil h
    rfl
  | t :: ts,vs,ds,ps,hr,h,hp => by
    obtain ⟨v,vs',d,ds',p1,p2,rfl,rfl,rfl,⟨n,h1⟩,h2⟩ := trodAll_cons h
    simp only [List.all_cons,Bool.and_eq_true,decide_eq_true_eq] at hr
    exact ⟨p1,p2,⟨n,DataW.trod_stays (kids_book hl hr.1.1) (book_sized hr.1.1) (fun h => by cases h) ⟨hr.1.2,book_self t⟩ h1 (fun x hx => hb.same (hp x (by simp [hx]))) (fun x hx => by simpa using hp x (by simp [hx]))⟩,
      Jbl hl hb (by simpa using hr.2) h2 (fun x hx => hp x (by simp [hx])),rfl⟩
theorem Below.kept {W W':World} (hb:Below W.heap.size W W') (may:MemPlace → Prop):W.keptBut W' may := by
  refine ⟨hb.os,hb.output,fun i hi => ?_⟩
  rw [hb.block i hi]
  cases h:W.heap[i]? with
  | none => rfl
  | some o => cases o <;> simp
theorem JrM {f:Func} {s:ChangeSpec} {W W':World} {args:Array Value} {bt:TypeId} {ds:List (DataW H)} {before p q:List MemPlace} {gs:List (DataW H)} (hvars:s.vars = []) (hbt:P.underlying bt = some .bool) (hres:f.resultTypes = #[bt])
    (hfn:s.fn H (ds ++ []) = { results := [.lit (.bool true)],args := ds }) (hl:laidOutB P = true) (hr:(f.params.toList.all fun t => P.readableRec t && decide (t < P.types.size)) = true)
    (hW:DataW.Whole enc P f.params.toList s.vars false W args.toList ds gs before) (hA:DataW.TrodAll enc P W 0 (fun _ => true) true f.params.toList args.toList ds p) (hV:DataW.TrodVars enc P W (fun _ => true) s.vars gs q) (hpq:before = p ++ q)
    (hb:Below W.heap.size W W'):s.post enc P f false true false false W args (.bool true) W' := by
  rw [hvars] at hV
  obtain ⟨rfl,rfl⟩ := trodVars_none hV
  refine ⟨ds,[],before,[],p,[],hW,?_,?_,?_,Below.kept hb _,fun h => by cases h⟩
  · rw [hfn,hres]
    exact trodAll_mk1 (shut_bool hbt true)
  · rw [hfn]
    exact Jbl hl hb hr hA (fun x hx => hW.lt x (by rw [hpq]; simp [hx]))
  · rw [hfn,hvars]
    rfl
end
theorem JqA {P:Program} {f:FuncId} {g:JW} (hg:Qk P f g) {tpl:Tpl} {ps:List Pm} {ls:Qr} {v:SV} {m:Jo} (h:Runs g (tpl.args ps) (tpl.memo ps ls) tpl.n v m) (hv:∀ θ,v.den θ = .bool true)
    {pss:List PS} {P':Program} {w:World} {vs:List Value} {θ:Th} (hA:(tpl.args ps).map (SV.den θ) = vs) (hi:∀ i ∈ Qg (tpl.args ps),i < tpl.n)
    (hM:∀ i o,JC (tpl.memo ps ls) i = some o → QD θ w i o ∧ (θ i).blk = none ∧ i < tpl.n ∧ K6 o = []) (hf:f < 1000000 := by decide) :
    Calls P f vs.toArray w fun e w' => e = .returned (.bool true) ∧ Below w.heap.size w w' := by
  have := Jjl hg h (fun i o ho => ⟨(hM i o ho).2.2.1,fun j hj => by rw [(hM i o ho).2.2.2] at hj; cases hj⟩) hi (θ := θ) (w := w) ⟨fun i o ho => (hM i o ho).1,fun i i' o o' b ho _ _ hb => by rw [(hM i o ho).2.1] at hb; cases hb⟩ hf
  rw [hA] at this
  refine this.mono fun e w' ⟨θ',h1,h2,_⟩ => ⟨by rw [h1,hv],h2.os,h2.tape,h2.output,h2.size,fun b hb => h2.heap b hb fun i o ho he => ?_⟩
  rw [(hM i o ho).2.1] at he; cases he
end
end Go.SX
namespace Go.Proofs.YtmbfbhimdkjkoaaGreat.cutterSpoilt
noncomputable section
open Go.SX Go.RowKit Go.ChangeShapes Go.WideShapes Go.ChangeAt
theorem own:ownKnob Tryz.prog.godebug = none := by kernel_rfl
theorem JwB:laidOutB Tryz.prog = true := by kernel_rfl
set_option maxRecDepth 100000 in
theorem Jwk (os:Os) (started:os.Started) (H:Type) (enc:TypeId × Value → H) :
    ReturnsInHanded {} Tryz.checked os 5 .any (Rows.cutterSpoiltSpec.pre6 enc Tryz.prog Tryz.f5 Rows.cutterSpoiltRow.domain false) (Rows.cutterSpoiltSpec.post enc Tryz.prog Tryz.f5 false true false false) := by
  refine returnsInHanded_of_change (C := Tryz.checked) own started (by kernel_rfl) Tryz.func5
    (ChangeSpec.witness6 (enc := enc) (C := Tryz.checked) false ⟨#[],#[.slice none 0 0,.slice none 0 0,.int .i64 0,.int .i64 0,.int .i64 0],[]⟩ 8 (by kernel_rfl) (by kernel_rfl) (by kernel_rfl) (by kernel_rfl)) ?_
  intro W base args ds gs before hval0 hW hcnd _
  have hval:∀ (j:Nat) t v,Tryz.f5.params[j]? = some t → args[j]? = some v → Value.okWide Tryz.prog W .any base t v := hval0
  have hW' := hW
  obtain ⟨p,q,hA0,hV,hpq,_,_⟩ := hW
  have hA:DataW.TrodAll enc Tryz.prog W 0 (fun _ => true) true Tryz.f5.params.toList args.toList ds p := hA0
  have hA1 := hA
  rw [Tryz.params5] at hA1 hval
  obtain ⟨ps,ls,locs,z1,z2,z3,z4⟩ := JbZ (b0 := base) (pss := [.row 3 [.int .i64],.row 40 [.int .i64,.int .i64,.int .i64,.int .i64,.int .i64,.int .i64,.int .i64,.int .i64,.int .i64,.int .i64,.int .i64,.int .i64,.int .i64,.bool,.int .i64,.bool,.int .i64,.int .i64,.int .i64,.int .i64,.int .i64,.bool],.one (.int .i64),.one (.int .i64),.one (.int .i64)]) (by kernel_rfl) hA1 (fun j t v h1 h2 => hval j t v (by simpa using h1) (by simpa using h2))
  obtain ⟨y1,y2⟩ := z4 0 (fun i => locs.getD i Loc.none) (fun i l h => by simp [List.getD,h])
  obtain ⟨A,a1,a2,a3⟩ := y1 []
  rw [List.append_nil] at a1
  have t0:JL3 [.int .i64,.int .i64,.int .i64] ps := z1
  clear z1
  obtain ⟨x0,r0,rfl,t1⟩ := Jw8 t0
  obtain ⟨x1,r1,rfl,t2⟩ := Jw8 t1
  obtain ⟨x2,r2,rfl,t3⟩ := Jw8 t2
  obtain rfl := Jw4 t3
  obtain ⟨L0,L1,rfl⟩:∃ L0 L1,ls = [L0,L1] := by
    match ls,z2 with
    | [L0,L1],_ => exact ⟨_,_,rfl⟩
  obtain ⟨_,_,d0,_,_,_,_,rfl,_,_,hB0⟩ := trodAll_cons hA1
  obtain ⟨_,_,d1,_,_,_,_,rfl,_,_,hB1⟩ := trodAll_cons hB0
  obtain ⟨_,_,d2,_,_,_,_,rfl,_,_,hB2⟩ := trodAll_cons hB1
  obtain ⟨_,_,d3,_,_,_,_,rfl,_,_,hB3⟩ := trodAll_cons hB2
  obtain ⟨_,_,d4,_,_,_,_,rfl,_,_,hB4⟩ := trodAll_cons hB3
  obtain ⟨_,rfl,_⟩ := trodAll_nil hB4
  have eA:jp.args [.i x0,.i x1,.i x2] = A := by
    have:jp.args [.i x0,.i x1,.i x2] = (JQk (JiG [.row 3 [.int .i64],.row 40 [.int .i64,.int .i64,.int .i64,.int .i64,.int .i64,.int .i64,.int .i64,.int .i64,.int .i64,.int .i64,.int .i64,.int .i64,.int .i64,.bool,.int .i64,.bool,.int .i64,.int .i64,.int .i64,.int .i64,.int .i64,.bool],.one (.int .i64),.one (.int .i64),.one (.int .i64)] 0) [.i x0,.i x1,.i x2]).1 := by kernel_rfl
    rw [this,a1]
  have hr:psR [.row 3 [.int .i64],.row 40 [.int .i64,.int .i64,.int .i64,.int .i64,.int .i64,.int .i64,.int .i64,.int .i64,.int .i64,.int .i64,.int .i64,.int .i64,.int .i64,.bool,.int .i64,.bool,.int .i64,.int .i64,.int .i64,.int .i64,.int .i64,.bool],.one (.int .i64),.one (.int .i64),.one (.int .i64)] = 2 := by kernel_rfl
  rw [hr] at a3 y2
  have hn:jp.n = 4 := by kernel_rfl
  have := JqA (JD Jjz 5) (JmA _ _ _ _ _ (fun q hq => Jib q hq)) (fun _ => rfl) (P' := Tryz.prog) (w := W) (vs := args.toList) (pss := []) (θ := fun i => locs.getD i Loc.none)
    (by rw [eA]; exact a2) (by rw [eA,hn]; intro i hi; have := a3 i hi; omega) (fun i o ho => by
      have e:jp.memo [.i x0,.i x1,.i x2] [L0,L1] = Jc6 [.row 3 [.int .i64],.row 40 [.int .i64,.int .i64,.int .i64,.int .i64,.int .i64,.int .i64,.int .i64,.int .i64,.int .i64,.int .i64,.int .i64,.int .i64,.int .i64,.bool,.int .i64,.bool,.int .i64,.int .i64,.int .i64,.int .i64,.int .i64,.bool],.one (.int .i64),.one (.int .i64),.one (.int .i64)] 0 2 [L0,L1] := by kernel_rfl
      rw [e] at ho
      obtain ⟨w1,w2,_,w4,w5⟩ := y2 2 i o ho
      exact ⟨w1,w2,by rw [hn]; omega,w5⟩)
  rw [Array.toArray_toList] at this
  refine this.mono fun e W' ⟨he,hb⟩ => ?_
  subst he
  exact ⟨_,rfl,JrM (bt := 4) rfl Tryz.underlying4 (by kernel_rfl) rfl JwB (by kernel_rfl) hW' hA hV hpq hb⟩
theorem holds:Rows.CutterSpoiltSaid :=
  OpenClaim.holds_of_wide 5 Tryz.f5 rfl rfl rfl rfl rfl rfl rfl ⟨rfl,rfl,rfl,rfl,rfl⟩ rfl rfl rfl rfl rfl (by kernel_rfl) Tryz.func5 (by kernel_rfl)
    (of_decide_eq_true (by kernel_rfl)) (by unfold Func.isWrapper; first | (rw [if_pos (by decide +kernel)]; kernel_rfl) | (rw [if_neg (by decide +kernel)]; exact ⟨rfl,rfl⟩))
    (fun os started H enc _ => Jwk os started H enc)
#print axioms holds
end
end Go.Proofs.YtmbfbhimdkjkoaaGreat.cutterSpoilt
