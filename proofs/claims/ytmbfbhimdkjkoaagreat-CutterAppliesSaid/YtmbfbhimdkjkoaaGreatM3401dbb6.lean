/-
  Texts of one claim, laid together. Conditions: none.
-/
import Derived.Test.YtmbfbhimdkjkoaaGreatM1aa475e9
set_option linter.all false
set_option maxRecDepth 1000000
namespace Go.Proofs.YtmbfbhimdkjkoaaGreat
noncomputable section
open Go.SX Go.RowKit
theorem Jbc {n:Int} (h0:0 ≤ n) (h1:n < 9223372036854775808):Jl 0 n = X5 n := by
  obtain ⟨a,b,c,d⟩ := Je9 h0 h1
  obtain ⟨x,y,z,w⟩ := Jtw (a := 0) (b := n) ⟨by omega,by omega⟩ ⟨h0,by omega⟩
  rw [Int.zero_mul,Int.zero_add] at y z
  exact JhS x a y z b c
theorem JyX {x y:Int} (hx:u64 x) (hy:u64 y) (h:y ≤ x):JJm x y 0 = x - y ∧ JEc x y 0 = 0 := by
  obtain ⟨i,rfl⟩ := Int.eq_ofNat_of_zero_le hx.1
  obtain ⟨j,rfl⟩ := Int.eq_ofNat_of_zero_le hy.1
  unfold JJm JEc
  have e:(((i:Int).toNat + 18446744073709551616 - (j:Int).toNat - (0:Int).toNat) % 18446744073709551616:Nat) = i - j := by
    simp only [Int.toNat_natCast]
    have:(0:Int).toNat = 0 := rfl
    omega
  have e2:¬ ((i:Int).toNat < (j:Int).toNat + (0:Int).toNat) := by
    simp only [Int.toNat_natCast]
    have:(0:Int).toNat = 0 := rfl
    omega
  rw [e,if_neg e2]
  constructor
  · omega
  · rfl
theorem Jos {n m:Int} (h0:0 ≤ n) (h:Xa n) (hm:m = 0 ∨ m = 1 ∨ m = 2):JNe n m = true ∧ JET n m = if (m = 1 ∧ X5 n * X5 n ≠ n) ∨ (m = 2 ∧ X5 n * (X5 n + 1) < n) then X5 n + 1 else X5 n := by
  obtain ⟨a,b,c,d⟩ := Je9 h0 h.2
  have ef := Jbc h0 h.2
  have hc:(decide (n < 0) || !(m == 0 || m == 1 || m == 2)) = false := by
    rw [decide_eq_false (by omega)]
    rcases hm with rfl | rfl | rfl <;> rfl
  have en:IntKind.u64.wrap n = n := W2 h0 (by omega)
  have u0:u64 (X5 n) := ⟨a,by omega⟩
  have p0 := Kh 3037000499 3037000499 (x := X5 n) (y := X5 n) ⟨a,d⟩ ⟨a,d⟩ (by omega)
  have eh:QL (X5 n) (X5 n) = 0 := by rw [kq _ _ u0 u0]; omega
  have el:Qh (X5 n) (X5 n) = X5 n * X5 n := by rw [qd]; omega
  obtain ⟨s1,s2⟩ := JyX (x := n) (y := X5 n * X5 n) ⟨h0,by omega⟩ ⟨by omega,by omega⟩ b
  have s3:JJm 0 0 0 = 0 := rfl
  have e1:JIt 0 n m = if (m = 1 ∧ X5 n * X5 n ≠ n) ∨ (m = 2 ∧ X5 n * (X5 n + 1) < n) then X5 n + 1 else X5 n := by
    unfold JIt JW4
    rw [ef,eh,el,s1,s2,s3,W2 (x := X5 n + 1) (by omega) (by omega)]
    have e:X5 n * (X5 n + 1) = X5 n * X5 n + X5 n := by rw [Int.mul_add,Int.mul_one]
    rw [e]
    rcases hm with rfl | rfl | rfl
    · rfl
    · by_cases g:X5 n * X5 n = n
      · simp [g]
      · have:X5 n * X5 n < n := by omega
        simp [g,this]
    · by_cases g:X5 n * X5 n + X5 n < n
      · have:X5 n < n - X5 n * X5 n := by omega
        simp [g,this]
      · have:¬ X5 n < n - X5 n * X5 n := by omega
        simp [g,this]
  have hb:(if (m = 1 ∧ X5 n * X5 n ≠ n) ∨ (m = 2 ∧ X5 n * (X5 n + 1) < n) then X5 n + 1 else X5 n) < 9223372036854775808 ∧ 0 ≤ (if (m = 1 ∧ X5 n * X5 n ≠ n) ∨ (m = 2 ∧ X5 n * (X5 n + 1) < n) then X5 n + 1 else X5 n) := by split <;> omega
  unfold JET JNe JUs JV7
  rw [hc,cond_false,cond_false,en,e1,decide_eq_true hb.1,cond_true,X6 (by omega) hb.1]
  exact ⟨rfl,rfl⟩
theorem JoV {n m:Int} (h0:0 ≤ n) (h:Xa n) (hm:m = 0 ∨ m = 1 ∨ m = 2):JET n m = qA n 1 m ∧ JNe n m = JI3 n 1 m := by
  obtain ⟨a1,a2⟩ := Jos h0 h hm
  obtain ⟨b1,b2⟩ := Jqi h0 h hm
  exact ⟨by rw [a2,b2],by rw [a1,b1]⟩
def tw (p n:Int):Int := fr 64 (4 * (p * p) / n) 64
def ovq (p n:Int) (neg:Bool):Int :=
  if tw p n % 2 = 1 ∧ (neg = false ∨ tw p n * tw p n * n ≠ 4 * (p * p)) then tw p n / 2 + 1 else tw p n / 2
theorem Jrv {p n:Int} (hp:0 ≤ p ∧ p ≤ 4611686018427387904) (hn:1 ≤ n ∧ n ≤ 4611686018427387904):0 ≤ tw p n ∧ tw p n * tw p n * n ≤ 4 * (p * p) ∧ 4 * (p * p) < (tw p n + 1) * (tw p n + 1) * n ∧ tw p n ≤ 9223372036854775808 := by
  have hq := Kh 4611686018427387904 4611686018427387904 (x := p) (y := p) hp hp (by omega)
  have hd:0 ≤ 4 * (p * p) / n := Int.ediv_nonneg (by omega) (by omega)
  have hd2 := Int.ediv_le_self n (show 0 ≤ 4 * (p * p) by omega)
  have e:(2:Int) ^ 64 * 2 ^ 64 = 340282366920938463463374607431768211456 := rfl
  obtain ⟨x,y,z,w⟩ := JdH (T := 64) (x := 4 * (p * p) / n) hd (by omega)
  have h1 := (Int.le_ediv_iff_mul_le (show 0 < n by omega)).1 y
  have h2:4 * (p * p) < (tw p n + 1) * (tw p n + 1) * n := by
    rcases Int.lt_or_le (4 * (p * p)) ((tw p n + 1) * (tw p n + 1) * n) with g | g
    · exact g
    · have := (Int.le_ediv_iff_mul_le (show 0 < n by omega)).2 g
      have z':4 * (p * p) / n < (tw p n + 1) * (tw p n + 1) := z
      omega
  refine ⟨x,h1,h2,?_⟩
  rcases Int.lt_or_le (tw p n) 9223372036854775809 with g | g
  · omega
  · exfalso
    have g2 := Int.mul_le_mul g g (by omega) x
    have y':tw p n * tw p n ≤ 4 * (p * p) / n := y
    omega
theorem JoX {a b n:Int} (ha:Xa a) (hb:Xa b) (la:J6 a ≤ 2147483648) (lb:J6 b ≤ 2147483648) (hn:1 ≤ n ∧ n ≤ 4611686018427387904) :
    Xl a b n 2 = (if Qk a b < 0 then -ovq (J6 a * J6 b) n true else ovq (J6 a * J6 b) n false) ∧ JVG a b n 2 = true := by
  have sa := Qt ha
  have sb := Qt hb
  obtain ⟨p0,p1⟩ := Kh 2147483648 2147483648 (x := J6 a) (y := J6 b) ⟨sa.1,la⟩ ⟨sb.1,lb⟩ (by omega)
  have hc:(decide (J6 a > 2147483648) || decide (J6 b > 2147483648) || decide (n < 1) || decide (n > 4611686018427387904) || !((2:Int) == 0 || (2:Int) == 1 || (2:Int) == 2)) = false := by
    rw [decide_eq_false (by omega),decide_eq_false (by omega),decide_eq_false (by omega),decide_eq_false (by omega)]; rfl
  have ew:IntKind.u64.wrap n = n := W2 (by omega) (by omega)
  have e0:Jp a b = 2 * (J6 a * J6 b) := by
    unfold Jp
    rw [W2 (x := J6 a * J6 b) (by omega) (by omega),W2 (by omega) (by omega)]
  generalize hP:J6 a * J6 b = P at *
  have us:u64 (Jp a b) := by rw [e0]; exact ⟨by omega,by omega⟩
  have hh := JgD us us
  have hl := JeV (Jp a b) (Jp a b)
  have ehl:QL (Jp a b) (Jp a b) * 18446744073709551616 + Qh (Jp a b) (Jp a b) = 4 * (P * P) := by
    rw [kq _ _ us us,qd,e0]
    have:2 * P * (2 * P) = 4 * (P * P) := by grind
    rw [this]; omega
  obtain ⟨q1,q2,q3,q4⟩ := JhV hh hl (c := n) (by omega) (by omega)
  rw [ehl] at q3 q4
  have eT:Yi a b n = tw P n := by
    unfold Yi JCf
    rw [ew]
    show fr 64 _ 64 = _
    rw [q3]; rfl
  obtain ⟨t0,t1,t2,t3⟩ := Jrv (p := P) (n := n) ⟨p0,by omega⟩ hn
  have uT:u64 (tw P n) := ⟨t0,by omega⟩
  have dm := Int.mul_ediv_add_emod (4 * (P * P)) n
  have m3 := Int.emod_nonneg (4 * (P * P)) (show n ≠ 0 by omega)
  have e4:JFA a b n = decide (tw P n * tw P n * n ≠ 4 * (P * P)) := by
    unfold JFA JCf
    rw [ew,eT,q4,kq _ _ uT uT,qd]
    have hT:(tw P n * tw P n / 18446744073709551616 == ZI 0 (QL (Jp a b) (Jp a b)) n && tw P n * tw P n % 18446744073709551616 == ZI (ZF 0 (QL (Jp a b) (Jp a b)) n) (Qh (Jp a b) (Jp a b)) n) = decide (tw P n * tw P n = 4 * (P * P) / n) := by
      rw [← q3]
      generalize tw P n * tw P n = z at *
      generalize ZI 0 (QL (Jp a b) (Jp a b)) n = u at *
      generalize ZI (ZF 0 (QL (Jp a b) (Jp a b)) n) (Qh (Jp a b) (Jp a b)) n = v at *
      rw [Bool.eq_iff_iff]
      simp only [Bool.and_eq_true,beq_iff_eq,decide_eq_true_eq]
      omega
    rw [hT]
    have hle:tw P n * tw P n ≤ 4 * (P * P) / n := (Int.le_ediv_iff_mul_le (show 0 < n by omega)).2 t1
    have hcm:n * (4 * (P * P) / n) = 4 * (P * P) / n * n := Int.mul_comm _ _
    rw [hcm] at dm
    rw [Bool.eq_iff_iff]
    simp only [Bool.or_eq_true,Bool.not_eq_true',decide_eq_true_eq,decide_eq_false_iff_not]
    constructor
    · rintro (g | g)
      · have := Int.mul_le_mul_of_nonneg_right hle (show 0 ≤ n by omega)
        omega
      · have := Int.mul_le_mul_of_nonneg_right (show tw P n * tw P n + 1 ≤ 4 * (P * P) / n by omega) (show 0 ≤ n by omega)
        rw [Int.add_mul] at this
        omega
    · intro g
      by_cases g2:tw P n * tw P n = 4 * (P * P) / n
      · left
        rw [g2] at g
        omega
      · exact .inr g2
  have e3:JGD a b n = decide (tw P n % 2 = 1) := by
    unfold JGD
    rw [eT,Int.tmod_eq_emod_of_nonneg t0]
    rfl
  have ehalf:IntKind.u64.wrap ((tw P n).tdiv 2) = tw P n / 2 := by
    rw [Int.tdiv_eq_ediv_of_nonneg t0,W2 (by omega) (by omega)]
  unfold Xl JVG
  rw [hc,cond_false,cond_false,eT,ehalf,e3,e4,W2 (x := tw P n / 2 + 1) (by omega) (by omega)]
  have e5:JIx a b = decide (Qk a b < 0) := rfl
  rw [e5]
  have key:∀ ng:Bool,(bif JBN 2 (bif decide (tw P n % 2 = 1) then bif decide (tw P n * tw P n * n ≠ 4 * (P * P)) then 1 else 0 else -1) (decide (tw P n * tw P n * n ≠ 4 * (P * P)) || decide (tw P n % 2 = 1)) ng then tw P n / 2 + 1 else tw P n / 2) = ovq P n ng := by
    intro ng
    unfold ovq JBN
    by_cases g1:tw P n % 2 = 1
    · by_cases g2:tw P n * tw P n * n = 4 * (P * P)
      · cases ng <;> simp [g1,g2]
      · cases ng <;> simp [g1,g2]
    · simp [g1]
  have hq:∀ ng,0 ≤ ovq P n ng ∧ ovq P n ng ≤ 4611686018427387905 := fun ng => by
    unfold ovq
    split <;> omega
  rw [key]
  by_cases hs:Qk a b < 0
  · rw [decide_eq_true hs,if_pos hs]
    unfold YY JCz
    have := hq true
    rw [decide_eq_true (show ovq P n true ≤ 9223372036854775808 by omega)]
    simp only [Bool.and_self,cond_true,Bool.true_or,and_true]
    by_cases hz:ovq P n true = 0
    · rw [hz]; rfl
    · rw [JAt]
      have:(0 - ovq P n true) % 18446744073709551616 = 18446744073709551616 - ovq P n true := by omega
      rw [this]
      unfold IntKind.wrap
      simp only [IntKind.bits,IntKind.signed]
      simp
      omega
  · rw [decide_eq_false hs,if_neg hs]
    unfold YY JCz
    have := hq false
    rw [decide_eq_true (show ovq P n false < 9223372036854775808 by omega)]
    simp only [Bool.false_and,cond_false,Bool.not_false,Bool.and_self,cond_true,Bool.false_or,and_true]
    rw [X6 (by omega) (by omega)]
theorem Jp1 {a b n:Int} (ha:Xa a) (hb:Xa b) (la:J6 a ≤ 2147483648) (lb:J6 b ≤ 2147483648) (hn:1 ≤ n ∧ n ≤ 4611686018427387904) :
    j8 a b n 2 = (if Qk a b < 0 then -ovq (J6 a * J6 b) n true else ovq (J6 a * J6 b) n false) ∧ JUy a b n 2 = true := by
  obtain ⟨A1,A2,A3,A4,A5,A6⟩ := Ji8 ha hb la lb
  have hc:(decide (J6 a > 2147483648) || decide (J6 b > 2147483648) || decide (n < 1) || decide (n > 4611686018427387904) || !((2:Int) == 0 || (2:Int) == 1 || (2:Int) == 2)) = false := by
    rw [decide_eq_false (by omega),decide_eq_false (by omega),decide_eq_false (by omega),decide_eq_false (by omega)]; rfl
  have ew:IntKind.u64.wrap n = n := W2 (by omega) (by omega)
  obtain ⟨D1,D2,D3,D4⟩ := JEo (n := n) ⟨by omega,by omega⟩
  have hX:QM (Jb (JB (J6 a)) (JB (J6 b))) = Jb (Jb (JB (J6 a)) (JB (J6 b))) (Jb (JB (J6 a)) (JB (J6 b))) := rfl
  obtain ⟨X1,X2,X3,X4⟩ := WB A1 A1
  rw [← hX] at X1 X2 X3 X4
  rw [A3] at X3
  generalize hP:J6 a * J6 b = P at *
  have hpp := Kh 4611686018427387904 4611686018427387904 (x := P) (y := P) ⟨A5,A6⟩ ⟨A5,A6⟩ (by omega)
  obtain ⟨t0,t1,t2,t3⟩ := Jrv (p := P) (n := n) ⟨A5,A6⟩ hn
  have n0:0 < n := by omega
  have es:Qx a b n = fr 63 (P * P / n) 63 := by
    unfold Qx
    rw [ew,D3,X3]
  have hv:0 ≤ P * P / n := Int.ediv_nonneg hpp.1 (by omega)
  have hv1:P * P / n < 2 ^ 63 * 2 ^ 63 := by
    have := Int.ediv_le_self n hpp.1
    have e:(2:Int) ^ 63 * 2 ^ 63 = 85070591730234615865843651857942052864 := rfl
    omega
  obtain ⟨r0,r1,r2,r3⟩ := JdH hv hv1
  rw [← es] at r0 r1 r2 r3
  have e63:(2:Int) ^ 63 = 9223372036854775808 := rfl
  have hk1:(tw P n / 2) * (tw P n / 2) * n ≤ P * P := by
    have h1 := Kh (tw P n) (tw P n) (x := 2 * (tw P n / 2)) (y := 2 * (tw P n / 2)) ⟨by omega,by omega⟩ ⟨by omega,by omega⟩ t0
    have h2 := Int.mul_le_mul_of_nonneg_right h1.2 (show 0 ≤ n by omega)
    have h3:2 * (tw P n / 2) * (2 * (tw P n / 2)) * n = 4 * ((tw P n / 2) * (tw P n / 2) * n) := by grind
    omega
  have hk2:P * P < (tw P n / 2 + 1) * (tw P n / 2 + 1) * n := by
    have h1 := Kh (2 * (tw P n / 2 + 1)) (2 * (tw P n / 2 + 1)) (x := tw P n + 1) (y := tw P n + 1) ⟨by omega,by omega⟩ ⟨by omega,by omega⟩ (by omega)
    have h2 := Int.mul_le_mul_of_nonneg_right h1.2 (show 0 ≤ n by omega)
    have h3:2 * (tw P n / 2 + 1) * (2 * (tw P n / 2 + 1)) * n = 4 * ((tw P n / 2 + 1) * (tw P n / 2 + 1) * n) := by grind
    omega
  have hk3:P * P / n < (tw P n / 2 + 1) * (tw P n / 2 + 1) := by
    rcases Int.lt_or_le (P * P / n) ((tw P n / 2 + 1) * (tw P n / 2 + 1)) with g | g
    · exact g
    · have := (Int.le_ediv_iff_mul_le n0).1 g
      omega
  have eq:Qx a b n = tw P n / 2 := JhS r0 (by omega) r1 r2 ((Int.le_ediv_iff_mul_le n0).2 hk1) hk3
  have e2q:IntKind.u64.wrap (IntKind.u64.wrap (2 * Qx a b n) + 1) = 2 * (tw P n / 2) + 1 := by
    rw [eq,W2 (x := 2 * (tw P n / 2)) (by omega) (by omega),W2 (by omega) (by omega)]
  obtain ⟨q1,q2,q3,q4,q5,q6⟩ := JFW (n := 2 * (tw P n / 2) + 1) ⟨by omega,by omega⟩
  obtain ⟨F1,F2,F3,F4⟩ := JEo (n := 4) ⟨by omega,by omega⟩
  obtain ⟨g1,g2,g3,g4⟩ := WB F1 X1
  obtain ⟨k1,k2,k3,k4⟩ := WB q3 D1
  have eh:JF4 (Jb (JB 4) (QM (Jb (JB (J6 a)) (JB (J6 b))))) (Jb (QM (JB (2 * (tw P n / 2) + 1))) (JB n)) = KC (4 * (P * P)) ((2 * (tw P n / 2) + 1) * (2 * (tw P n / 2) + 1) * n) := by
    rw [JOa g1 k1 g2 k2,g3,k3,F3,X3,q5,D3]
  unfold j8 JUy
  rw [hc,cond_false,cond_false,ew,e2q,eh,eq]
  generalize hE:(JF4 (Jb (QM (JB (tw P n / 2))) (JB n)) (QM (Jb (JB (J6 a)) (JB (J6 b)))) == 0) = exact'
  have key:∀ ng:Bool,Xe ng (tw P n / 2) exact' (KC (4 * (P * P)) ((2 * (tw P n / 2) + 1) * (2 * (tw P n / 2) + 1) * n)) 2 = ovq P n ng := by
    intro ng
    unfold Xe ovq
    rw [W2 (x := tw P n / 2 + 1) (by omega) (by omega)]
    by_cases g1:tw P n % 2 = 1
    · have e:2 * (tw P n / 2) + 1 = tw P n := by omega
      rw [e]
      by_cases g2:tw P n * tw P n * n = 4 * (P * P)
      · rw [g2,JqG]
        cases ng <;> simp [g1]
      · rw [JgH (by omega)]
        cases ng <;> simp [g1,g2]
    · have e:2 * (tw P n / 2) + 1 = tw P n + 1 := by omega
      rw [e,JdX t2]
      cases ng <;> simp [g1]
  have hq:∀ ng,0 ≤ ovq P n ng ∧ ovq P n ng ≤ 4611686018427387905 := fun ng => by
    unfold ovq
    split <;> omega
  have hs5:decide (tw P n / 2 > 9223372036854775808) = false := decide_eq_false (by omega)
  unfold ja jZ
  rw [key,hs5,cond_false,cond_false]
  by_cases hs:Qk a b < 0
  · rw [decide_eq_true hs,if_pos hs,cond_true,cond_true]
    have := hq true
    rw [decide_eq_false (show ¬ ovq P n true > 9223372036854775808 by omega),cond_false]
    refine ⟨?_,rfl⟩
    by_cases hz:ovq P n true = 0
    · rw [hz]; rfl
    · rw [show (ovq P n true == 0) = false by simpa using hz,cond_false,W2 (x := ovq P n true - 1) (by omega) (by omega),X6 (x := ovq P n true - 1) (by omega) (by omega),X6 (x := 0 - (ovq P n true - 1)) (by omega) (by omega),X6 (by omega) (by omega)]
      omega
  · rw [decide_eq_false hs,if_neg hs,cond_false,cond_false]
    have := hq false
    rw [decide_eq_false (show ¬ ovq P n false > 9223372036854775807 by omega),cond_false,X6 (by omega) (by omega)]
    exact ⟨rfl,rfl⟩
theorem Jqn {a b n:Int} (ha:Xa a) (hb:Xa b) (la:J6 a ≤ 2147483648) (lb:J6 b ≤ 2147483648) (hn:1 ≤ n ∧ n ≤ 4611686018427387904):Xl a b n 2 = j8 a b n 2 := by
  rw [(JoX ha hb la lb hn).1,(Jp1 ha hb la lb hn).1]
def JJX:Tpl := ⟨[.agg [.int .i64,.int .i64],.agg [.int .i64,.int .i64]],[],0⟩
theorem Jox (a b c d:Int):Runs (Jm (JC Jeh) KK 128) (JJX.args [.i a,.i b,.i c,.i d]) (JJX.memo [.i a,.i b,.i c,.i d] []) JJX.n (SV.agg [Ci (JG a c),Ci (JG b d)]) ([]) :=
  Runs.of1 (ps := []) (by kernel_rfl) (by simp)
def JW2:List Pm → Qs → Option CRes
  | [.i a,.i b,.i c,.i d],[] => some ⟨SV.agg [Ci (JG a c),Ci (JG b d)],
 [],[],[],26⟩
  | _,_ => none
theorem JvT:Ql Tryz.prog 128 (JU JJX JW2) := by
  refine JI (JE JTT 128) fun ps ls r hr hn _ => ?_
  unfold JW2 at hr
  split at hr
  · cases hr; exact ⟨_,Jox _ _ _ _,fun _ => rfl⟩
  · cases hr
def JkO:List (Nat × JY) := (128,orS (JU JJX JW2) (JU JCL JL5)) :: Jeh
theorem JVg:Known Tryz.prog (JC JkO) KK := J7 JTT (JZa JvT JhR)
def JCY:Tpl := ⟨[.agg [.int .i64,.int .i64],.agg [.int .i64,.int .i64]],[],0⟩
theorem Jie (a b c d:Int):Runs (Jm (JC JkO) KK 99) (JCY.args [.i a,.i b,.i c,.i d]) (JCY.memo [.i a,.i b,.i c,.i d] []) JCY.n (SV.agg [Ci (J1 a c),Ci (J1 b d)]) ([]) :=
  Runs.of1 (ps := []) (by kernel_rfl) (by simp)
def JMh:List Pm → Qs → Option CRes
  | [.i a,.i b,.i c,.i d],[] => some ⟨SV.agg [Ci (J1 a c),Ci (J1 b d)],
 [],[],[],26⟩
  | _,_ => none
theorem Jot:Ql Tryz.prog 99 (JU JCY JMh) := by
  refine JI (JE JVg 99) fun ps ls r hr hn _ => ?_
  unfold JMh at hr
  split at hr
  · cases hr; exact ⟨_,Jie _ _ _ _,fun _ => rfl⟩
  · cases hr
def JZm:List (Nat × JY) := (99,orS (JU JCY JMh) (JU JCE JKN)) :: JkO
theorem JO5:Known Tryz.prog (JC JZm) KK := J7 JVg (JZa Jot Jh9)
def JOP:Tpl := ⟨[.one (.int .i64),.one (.int .i64)],[],0⟩
theorem JsU (n m:Int):Runs (Jm (JC JZm) KK 142) (JOP.args [.i n,.i m]) (JOP.memo [.i n,.i m] []) JOP.n (SV.one (Cb (Jd n m))) ([]) :=
  Runs.of1 (ps := []) (by kernel_rfl) (by simp)
def JeP:List Pm → Qs → Option CRes
  | [.i n,.i m],[] => some ⟨SV.one (Cb (Jd n m)),
 [],[],[],11⟩
  | _,_ => none
theorem JxA:Ql Tryz.prog 142 (JU JOP JeP) := by
  refine JI (JE JO5 142) fun ps ls r hr hn _ => ?_
  unfold JeP at hr
  split at hr
  · cases hr; exact ⟨_,JsU _ _,fun _ => rfl⟩
  · cases hr
def JrU:List (Nat × JY) := (142,JU JOP JeP) :: JZm
theorem Jbm:Known Tryz.prog (JC JrU) KK := J7 JO5 JxA
def kV:Tpl := ⟨[.agg [.int .i64,.int .i64]],[],0⟩
def QR (a b:Int):Bool := Jd a 1048576 && Jd b 1048576
theorem Jdh (a b:Int):Runs (Jm (JC JrU) KK 117) (kV.args [.i a,.i b]) (kV.memo [.i a,.i b] []) kV.n (SV.one (Cb (QR a b))) ([]) :=
  Runs.of1 (ps := []) (by kernel_rfl) (by simp)
def JKA:List Pm → Qs → Option CRes
  | [.i a,.i b],[] => some ⟨SV.one (Cb (QR a b)),
 [],[],[],36⟩
  | _,_ => none
theorem JmT:Ql Tryz.prog 117 (JU kV JKA) := by
  refine JI (JE Jbm 117) fun ps ls r hr hn _ => ?_
  unfold JKA at hr
  split at hr
  · cases hr; exact ⟨_,Jdh _ _,fun _ => rfl⟩
  · cases hr
def JPy:List (Nat × JY) := (117,JU kV JKA) :: JrU
theorem JLi:Known Tryz.prog (JC JPy) KK := J7 Jbm JmT
def j7:Tpl := ⟨[.agg [.int .i64,.int .i64]],[],0⟩
def YW (a b:Int):Bool := decide (a ≥ -4194304) && decide (a ≤ 4194304) && (decide (b ≥ -4194304) && decide (b ≤ 4194304))
theorem JbQ (a b:Int):Runs (Jm (JC JPy) KK 141) (j7.args [.i a,.i b]) (j7.memo [.i a,.i b] []) j7.n (SV.one (Cb (YW a b))) ([]) :=
  Runs.of1 (ps := []) (by kernel_rfl) (by simp)
def JI9:List Pm → Qs → Option CRes
  | [.i a,.i b],[] => some ⟨SV.one (Cb (YW a b)),
 [],[],[],36⟩
  | _,_ => none
theorem Jh5:Ql Tryz.prog 141 (JU j7 JI9) := by
  refine JI (JE JLi 141) fun ps ls r hr hn _ => ?_
  unfold JI9 at hr
  split at hr
  · cases hr; exact ⟨_,JbQ _ _,fun _ => rfl⟩
  · cases hr
def JMZ:List (Nat × JY) := (141,JU j7 JI9) :: JPy
theorem JIz:Known Tryz.prog (JC JMZ) KK := J7 JLi Jh5
def zg:Tpl := ⟨[.agg [.int .i64,.int .i64],.agg [.int .i64,.int .i64],.one (.int .i64)],[],0⟩
def JHI (a b c d s:Int):Bool := decide (JF a b c d > 0) && decide (s > 0)
def JCH (a b c d s:Int):Int := bif JF a b c d == 0 && decide (J8 a b c d > 0) then 0 else bif bif JHI a b c d s then JHI a b c d s else decide (JF a b c d < 0) && decide (s < 0) then 2 else 1
theorem Jev (a b c d s:Int):Runs (Jm (JC JMZ) KK 89) (zg.args [.i a,.i b,.i c,.i d,.i s]) (zg.memo [.i a,.i b,.i c,.i d,.i s] []) zg.n (SV.one (Ci (JCH a b c d s))) ([]) :=
  Runs.of1 (ps := []) (by kernel_rfl) (by simp)
def JKI:List Pm → Qs → Option CRes
  | [.i a,.i b,.i c,.i d,.i s],[] => some ⟨SV.one (Ci (JCH a b c d s)),
 [],[],[],82⟩
  | _,_ => none
theorem Jmi:Ql Tryz.prog 89 (JU zg JKI) := by
  refine JI (JE JIz 89) fun ps ls r hr hn _ => ?_
  unfold JKI at hr
  split at hr
  · cases hr; exact ⟨_,Jev _ _ _ _ _,fun _ => rfl⟩
  · cases hr
def JQY:List (Nat × JY) := (89,JU zg JKI) :: JMZ
theorem JLR:Known Tryz.prog (JC JQY) KK := J7 JIz Jmi
theorem JiB (p0 p1 t0 t1 r:Int):(t0 == 0 && t1 == 0 || !YW t0 t1 || !QR p0 p1 || !Jd r 32768) = (t0 == 0 && t1 == 0 || !Jd t0 4194304 || !Jd t1 4194304 || !Jd p0 1048576 || !Jd p1 1048576 || !Jd r 32768) := by
  have e1:YW t0 t1 = (Jd t0 4194304 && Jd t1 4194304) := rfl
  have e2:QR p0 p1 = (Jd p0 1048576 && Jd p1 1048576) := rfl
  rw [e1,e2]
  generalize (t0 == 0 && t1 == 0) = a
  generalize Jd t0 4194304 = b
  generalize Jd t1 4194304 = c
  generalize Jd p0 1048576 = d
  generalize Jd p1 1048576 = e
  generalize Jd r 32768 = f
  revert a b c d e f
  decide
def zM:Tpl := ⟨[.agg [.int .i64,.int .i64],.agg [.int .i64,.int .i64],.one (.int .i64)],[],0⟩
section
variable (p0 p1 t0 t1 r:Int)
def Zl:Int:= bif t0 == 0 && t1 == 0 || !YW t0 t1 || !QR p0 p1 || !Jd r 32768 then 0 else IntKind.i64.wrap (p0 + j8 (IntKind.i64.wrap (0 - t1)) r (J8 t0 t1 t0 t1) 2)
def Zp:Int:= bif t0 == 0 && t1 == 0 || !YW t0 t1 || !QR p0 p1 || !Jd r 32768 then 0 else IntKind.i64.wrap (p1 + j8 t0 r (J8 t0 t1 t0 t1) 2)
def JKu:Bool:= !(t0 == 0 && t1 == 0 || !YW t0 t1 || !QR p0 p1 || !Jd r 32768)
def JWQ:Prop:= -9223372036854775808 ≤ J8 t0 t1 t0 t1 ∧ J8 t0 t1 t0 t1 < 9223372036854775808
def jr:List Prop:= [(t0 == 0 && t1 == 0 || !YW t0 t1 || !QR p0 p1 || !Jd r 32768) = false → (-9223372036854775808 ≤ IntKind.i64.wrap (0 - t1) ∧ IntKind.i64.wrap (0 - t1) < 9223372036854775808) ∧ (-9223372036854775808 ≤ r ∧ r < 9223372036854775808) ∧ JWQ t0 t1 ∧ (-9223372036854775808 ≤ t0 ∧ t0 < 9223372036854775808) ∧ (-9223372036854775808 ≤ r ∧ r < 9223372036854775808) ∧ JWQ t0 t1]
end
theorem JgL {p0:Int} {p1:Int} {t0:Int} {t1:Int} {r:Int}:∀ q ∈ (jr p0 p1 t0 t1 r),q := by
  unfold jr
  simp only [awc,awn,and_true]
  intro h
  rw [JiB] at h
  obtain ⟨h0,h1,h2,h3,h4,h5⟩ := JmO h
  exact ⟨Jk _,⟨by omega,by omega⟩,Jk _,⟨by omega,by omega⟩,⟨by omega,by omega⟩,Jk _⟩
theorem Jfa (p0 p1 t0 t1 r:Int) (hNeeds:∀ pN ∈ (jr p0 p1 t0 t1 r),pN):Runs (Jm (JC JQY) KK 116) (zM.args [.i p0,.i p1,.i t0,.i t1,.i r]) (zM.memo [.i p0,.i p1,.i t0,.i t1,.i r] []) zM.n (SV.tup [(true,[Ci (Zl p0 p1 t0 t1 r),Ci (Zp p0 p1 t0 t1 r)]),(false,[Cb (JKu p0 p1 t0 t1 r)])]) ([]) :=
  Runs.of1 (ps := (jr p0 p1 t0 t1 r)) (by kernel_rfl) hNeeds
def JIg:List Pm → Qs → Option CRes
  | [.i p0,.i p1,.i t0,.i t1,.i r],[] => some ⟨SV.tup [(true,[Ci (Zl p0 p1 t0 t1 r),Ci (Zp p0 p1 t0 t1 r)]),(false,[Cb (JKu p0 p1 t0 t1 r)])],
 [],[],[],2024⟩
  | _,_ => none
theorem Jlo:Ql Tryz.prog 116 (JU zM JIg) := by
  refine JI (JE JLR 116) fun ps ls r hr hn _ => ?_
  unfold JIg at hr
  split at hr
  · cases hr; exact ⟨_,Jfa _ _ _ _ _ (fun p hp => JgL p hp),fun _ => rfl⟩
  · cases hr
def JQm:List (Nat × JY) := (116,JU zM JIg) :: JQY
theorem JLN:Known Tryz.prog (JC JQm) KK := J7 JLR Jlo
def qr:Tpl := ⟨[.agg [.int .i64,.int .i64]],[],0⟩
theorem Jfg (a b:Int):Runs (Jm (JC JQm) KK 114) (qr.args [.i a,.i b]) (qr.memo [.i a,.i b] []) qr.n (SV.one (Ci (J8 a b a b))) ([]) :=
  Runs.of1 (ps := []) (by kernel_rfl) (by simp)
def JIo:List Pm → Qs → Option CRes
  | [.i a,.i b],[] => some ⟨SV.one (Ci (J8 a b a b)),
 [],[],[],30⟩
  | _,_ => none
theorem Jm3:Ql Tryz.prog 114 (JU qr JIo) := by
  refine JI (JE JLN 114) fun ps ls r hr hn _ => ?_
  unfold JIo at hr
  split at hr
  · cases hr; exact ⟨_,Jfg _ _,fun _ => rfl⟩
  · cases hr
def JQB:List (Nat × JY) := (114,JU qr JIo) :: JQm
theorem JLc:Known Tryz.prog (JC JQB) KK := J7 JLN Jm3
def qR:Tpl := ⟨[.agg [.int .i64,.int .i64,.int .i64,.int .i64,.int .i64,.int .i64,.int .i64,.bool],.one (.int .i64)],[],0⟩
def K5 (e6 r:Int):Bool := e6 == 1 && decide (r ≥ 0) || e6 == -1 && decide (r < 0)
theorem Jfm (e0 e1 e2 e3 e4 e5 e6:Int) (e7:Bool) (r:Int):Runs (Jm (JC JQB) KK 113) (qR.args [.i e0,.i e1,.i e2,.i e3,.i e4,.i e5,.i e6,.b e7,.i r]) (qR.memo [.i e0,.i e1,.i e2,.i e3,.i e4,.i e5,.i e6,.b e7,.i r] []) qR.n (SV.one (Cb (K5 e6 r))) ([]) :=
  Runs.of1 (ps := []) (by kernel_rfl) (by simp)
def JIj:List Pm → Qs → Option CRes
  | [.i e0,.i e1,.i e2,.i e3,.i e4,.i e5,.i e6,.b e7,.i r],[] => some ⟨SV.one (Cb (K5 e6 r)),
 [],[],[],28⟩
  | _,_ => none
theorem JlN:Ql Tryz.prog 113 (JU qR JIj) := by
  refine JI (JE JLc 113) fun ps ls r hr hn _ => ?_
  unfold JIj at hr
  split at hr
  · cases hr; exact ⟨_,Jfm _ _ _ _ _ _ _ _ _,fun _ => rfl⟩
  · cases hr
def JQt:List (Nat × JY) := (113,JU qR JIj) :: JQB
theorem JLt:Known Tryz.prog (JC JQt) KK := J7 JLc JlN
def JD8:Tpl := ⟨[.agg [.int .i64,.int .i64,.int .i64,.int .i64,.int .i64,.int .i64,.int .i64,.bool],.one (.bool)],[],0⟩
def JH (e0 e2 e4:Int) (w:Bool):Int := bif w then J1 e2 e4 else J1 e0 e4
theorem Jih (e0 e1 e2 e3 e4 e5 e6:Int) (e7 w:Bool):Runs (Jm (JC JQt) KK 115) (JD8.args [.i e0,.i e1,.i e2,.i e3,.i e4,.i e5,.i e6,.b e7,.b w]) (JD8.memo [.i e0,.i e1,.i e2,.i e3,.i e4,.i e5,.i e6,.b e7,.b w] []) JD8.n (SV.agg [Ci (JH e0 e2 e4 w),Ci (JH e1 e3 e5 w)]) ([]) :=
  Runs.of1 (ps := []) (by kernel_rfl) (by simp)
def JM6:List Pm → Qs → Option CRes
  | [.i e0,.i e1,.i e2,.i e3,.i e4,.i e5,.i e6,.b e7,.b w],[] => some ⟨SV.agg [Ci (JH e0 e2 e4 w),Ci (JH e1 e3 e5 w)],
 [],[],[],85⟩
  | _,_ => none
theorem JqN:Ql Tryz.prog 115 (JU JD8 JM6) := by
  refine JI (JE JLt 115) fun ps ls r hr hn _ => ?_
  unfold JM6 at hr
  split at hr
  · cases hr; exact ⟨_,Jih _ _ _ _ _ _ _ _ _,fun _ => rfl⟩
  · cases hr
def JWk:List (Nat × JY) := (115,JU JD8 JM6) :: JQt
theorem JOU:Known Tryz.prog (JC JWk) KK := J7 JLt JqN
def JFc:Tpl := ⟨[.agg [.int .i64,.int .i64,.int .i64,.int .i64,.int .i64,.int .i64,.int .i64,.bool],.one (.bool)],[],0⟩
def Qp (e0 e1 e2 e3 e5 e6:Int) (w:Bool):Int := bif e6 == 0 then J1 e2 e0 else IntKind.i64.wrap (IntKind.i64.wrap (0 - JH e1 e3 e5 w) * e6)
def Qo (e0 e1 e2 e3 e4 e6:Int) (w:Bool):Int := bif e6 == 0 then J1 e3 e1 else IntKind.i64.wrap (JH e0 e2 e4 w * e6)
theorem JmE (e0 e1 e2 e3 e4 e5 e6:Int) (e7 w:Bool):Runs (Jm (JC JWk) KK 90) (JFc.args [.i e0,.i e1,.i e2,.i e3,.i e4,.i e5,.i e6,.b e7,.b w]) (JFc.memo [.i e0,.i e1,.i e2,.i e3,.i e4,.i e5,.i e6,.b e7,.b w] []) JFc.n (SV.agg [Ci (Qp e0 e1 e2 e3 e5 e6 w),Ci (Qo e0 e1 e2 e3 e4 e6 w)]) ([]) :=
  Runs.of1 (ps := []) (by kernel_rfl) (by simp)
def JRV:List Pm → Qs → Option CRes
  | [.i e0,.i e1,.i e2,.i e3,.i e4,.i e5,.i e6,.b e7,.b w],[] => some ⟨SV.agg [Ci (Qp e0 e1 e2 e3 e5 e6 w),Ci (Qo e0 e1 e2 e3 e4 e6 w)],
 [],[],[],163⟩
  | _,_ => none
theorem JrA:Ql Tryz.prog 90 (JU JFc JRV) := by
  refine JI (JE JOU 90) fun ps ls r hr hn _ => ?_
  unfold JRV at hr
  split at hr
  · cases hr; exact ⟨_,JmE _ _ _ _ _ _ _ _ _,fun _ => rfl⟩
  · cases hr
def Je1:List (Nat × JY) := (90,JU JFc JRV) :: JWk
theorem JTY:Known Tryz.prog (JC Je1) KK := J7 JOU JrA
def JCr:Tpl := ⟨[.agg [.int .i64,.int .i64,.int .i64,.int .i64,.int .i64,.int .i64,.int .i64,.bool],.agg [.int .i64,.int .i64],.one (.int .i64)],[],0⟩
section
variable (e0 e1 e2 e3 e4 e5 e6 y0 y1 r:Int)
def JSE:Int:= JHK (JF (J1 e2 e0) (J1 e3 e1) (J1 y0 e0) (J1 y1 e1)) (JF (J1 e2 e0) (J1 e3 e1) (J1 y0 e0) (J1 y1 e1)) (IntKind.i64.wrap (r * r)) (J8 (J1 e2 e0) (J1 e3 e1) (J1 e2 e0) (J1 e3 e1))
def ji:Int:= bif K5 e6 r then J8 (J1 y0 e4) (J1 y1 e5) (J1 y0 e4) (J1 y1 e5) else J8 (JH e0 e2 e4 true) (JH e1 e3 e5 true) (JH e0 e2 e4 true) (JH e1 e3 e5 true)
def Yr:Int:= IntKind.i64.wrap (IntKind.i64.wrap ((bif K5 e6 r then J8 (JH e0 e2 e4 true) (JH e1 e3 e5 true) (JH e0 e2 e4 true) (JH e1 e3 e5 true) else J8 (J1 y0 e4) (J1 y1 e5) (J1 y0 e4) (J1 y1 e5)) - ji e0 e1 e2 e3 e4 e5 e6 y0 y1 r) - IntKind.i64.wrap (r * r))
def Jd1:Int:= JHK (Yr e0 e1 e2 e3 e4 e5 e6 y0 y1 r) (Yr e0 e1 e2 e3 e4 e5 e6 y0 y1 r) (IntKind.i64.wrap (IntKind.i64.wrap (4 * r) * r)) (ji e0 e1 e2 e3 e4 e5 e6 y0 y1 r)
def XC:Bool:= bif e6 == 0 then (decide (r ≥ 0) && decide (JF (J1 e2 e0) (J1 e3 e1) (J1 y0 e0) (J1 y1 e1) ≥ 0) || decide (r < 0) && decide (JF (J1 e2 e0) (J1 e3 e1) (J1 y0 e0) (J1 y1 e1) ≤ 0)) && decide (JSE e0 e1 e2 e3 y0 y1 r ≥ 0) else decide (Yr e0 e1 e2 e3 e4 e5 e6 y0 y1 r ≥ 0) && decide (Jd1 e0 e1 e2 e3 e4 e5 e6 y0 y1 r ≥ 0)
def JKb:Prop:= (decide (r ≥ 0) && decide (JF (J1 e2 e0) (J1 e3 e1) (J1 y0 e0) (J1 y1 e1) ≥ 0) || decide (r < 0) && decide (JF (J1 e2 e0) (J1 e3 e1) (J1 y0 e0) (J1 y1 e1) ≤ 0)) = true
def JKw:Prop:= decide (Yr e0 e1 e2 e3 e4 e5 e6 y0 y1 r ≥ 0) = true
def Jbz:Int:= IntKind.i64.wrap (IntKind.i64.wrap (4 * r) * r)
def JAk:List Prop:= [(e6 == 0) = true → (JKb e0 e1 e2 e3 y0 y1 r → -9223372036854775808 ≤ JF (J1 e2 e0) (J1 e3 e1) (J1 y0 e0) (J1 y1 e1) ∧ JF (J1 e2 e0) (J1 e3 e1) (J1 y0 e0) (J1 y1 e1) < 9223372036854775808) ∧ (JKb e0 e1 e2 e3 y0 y1 r → -9223372036854775808 ≤ JF (J1 e2 e0) (J1 e3 e1) (J1 y0 e0) (J1 y1 e1) ∧ JF (J1 e2 e0) (J1 e3 e1) (J1 y0 e0) (J1 y1 e1) < 9223372036854775808) ∧ (JKb e0 e1 e2 e3 y0 y1 r → -9223372036854775808 ≤ IntKind.i64.wrap (r * r) ∧ IntKind.i64.wrap (r * r) < 9223372036854775808) ∧ (JKb e0 e1 e2 e3 y0 y1 r → -9223372036854775808 ≤ J8 (J1 e2 e0) (J1 e3 e1) (J1 e2 e0) (J1 e3 e1) ∧ J8 (J1 e2 e0) (J1 e3 e1) (J1 e2 e0) (J1 e3 e1) < 9223372036854775808),(e6 == 0) = false → (JKw e0 e1 e2 e3 e4 e5 e6 y0 y1 r → -9223372036854775808 ≤ Yr e0 e1 e2 e3 e4 e5 e6 y0 y1 r ∧ Yr e0 e1 e2 e3 e4 e5 e6 y0 y1 r < 9223372036854775808) ∧ (JKw e0 e1 e2 e3 e4 e5 e6 y0 y1 r → -9223372036854775808 ≤ Yr e0 e1 e2 e3 e4 e5 e6 y0 y1 r ∧ Yr e0 e1 e2 e3 e4 e5 e6 y0 y1 r < 9223372036854775808) ∧ (JKw e0 e1 e2 e3 e4 e5 e6 y0 y1 r → -9223372036854775808 ≤ Jbz r ∧ Jbz r < 9223372036854775808) ∧ (JKw e0 e1 e2 e3 e4 e5 e6 y0 y1 r → -9223372036854775808 ≤ ji e0 e1 e2 e3 e4 e5 e6 y0 y1 r ∧ ji e0 e1 e2 e3 e4 e5 e6 y0 y1 r < 9223372036854775808)]
end
theorem Jij {e0:Int} {e1:Int} {e2:Int} {e3:Int} {e4:Int} {e5:Int} {e6:Int} {y0:Int} {y1:Int} {r:Int}:∀ q ∈ (JAk e0 e1 e2 e3 e4 e5 e6 y0 y1 r),q := by
  unfold JAk
  simp only [awc,awn,and_true]
  have s1:Xa (ji e0 e1 e2 e3 e4 e5 e6 y0 y1 r) := by
    unfold ji
    cases K5 e6 r <;> exact Jk _
  exact ⟨fun _ => ⟨fun _ => Jk _,fun _ => Jk _,fun _ => Jk _,fun _ => Jk _⟩,fun _ => ⟨fun _ => Jk _,fun _ => Jk _,fun _ => Jk _,fun _ => s1⟩⟩
theorem Ji4 (e0 e1 e2 e3 e4 e5 e6:Int) (e7:Bool) (y0 y1 r:Int) (hNeeds:∀ pN ∈ (JAk e0 e1 e2 e3 e4 e5 e6 y0 y1 r),pN):Runs (Jm (JC Je1) KK 120) (JCr.args [.i e0,.i e1,.i e2,.i e3,.i e4,.i e5,.i e6,.b e7,.i y0,.i y1,.i r]) (JCr.memo [.i e0,.i e1,.i e2,.i e3,.i e4,.i e5,.i e6,.b e7,.i y0,.i y1,.i r] []) JCr.n (SV.one (Cb (XC e0 e1 e2 e3 e4 e5 e6 y0 y1 r))) ([]) :=
  Runs.of1 (ps := (JAk e0 e1 e2 e3 e4 e5 e6 y0 y1 r)) (by kernel_rfl) hNeeds
def JMF:List Pm → Qs → Option CRes
  | [.i e0,.i e1,.i e2,.i e3,.i e4,.i e5,.i e6,.b e7,.i y0,.i y1,.i r],[] => some ⟨SV.one (Cb (XC e0 e1 e2 e3 e4 e5 e6 y0 y1 r)),
 [],[],[],1194⟩
  | _,_ => none
theorem Jpu:Ql Tryz.prog 120 (JU JCr JMF) := by
  refine JI (JE JTY 120) fun ps ls r hr hn _ => ?_
  unfold JMF at hr
  split at hr
  · cases hr; exact ⟨_,Ji4 _ _ _ _ _ _ _ _ _ _ _ (fun p hp => Jij p hp),fun _ => rfl⟩
  · cases hr
def JaT:List (Nat × JY) := (120,JU JCr JMF) :: Je1
theorem JPN:Known Tryz.prog (JC JaT) KK := J7 JTY Jpu
def JFF:Tpl := ⟨[.agg [.int .i64,.int .i64,.int .i64,.int .i64,.int .i64,.int .i64,.int .i64,.bool],.one (.int .i64)],[],0⟩
section
variable (e0 e1 e2 e3 e4 e5 e6 r:Int)
def Zd:Int:=
 IntKind.i64.wrap ((if IntKind.i64.wrap (0 - r) > r then IntKind.i64.wrap (0 - r) else r) + 8)
def JXS:Int:= bif !QR (Zl e0 e1 (Qp e0 e1 e2 e3 e5 e6 false) (Qo e0 e1 e2 e3 e4 e6 false) r) (Zp e0 e1 (Qp e0 e1 e2 e3 e5 e6 false) (Qo e0 e1 e2 e3 e4 e6 false) r) || !QR (Zl e2 e3 (Qp e0 e1 e2 e3 e5 e6 true) (Qo e0 e1 e2 e3 e4 e6 true) r) (Zp e2 e3 (Qp e0 e1 e2 e3 e5 e6 true) (Qo e0 e1 e2 e3 e4 e6 true) r) then 0 else Zl e0 e1 (Qp e0 e1 e2 e3 e5 e6 false) (Qo e0 e1 e2 e3 e4 e6 false) r
def Kg:Int:= bif e6 != 0 && K5 e6 r then bif decide (J8 (JH e0 e2 e4 false) (JH e1 e3 e5 false) (JH e0 e2 e4 false) (JH e1 e3 e5 false) < IntKind.i64.wrap (Zd r * Zd r)) || decide (J8 (JH e0 e2 e4 true) (JH e1 e3 e5 true) (JH e0 e2 e4 true) (JH e1 e3 e5 true) < IntKind.i64.wrap (Zd r * Zd r)) then 0 else JXS e0 e1 e2 e3 e4 e5 e6 r else JXS e0 e1 e2 e3 e4 e5 e6 r
def Ja7:Int:= bif !QR (Zl e0 e1 (Qp e0 e1 e2 e3 e5 e6 false) (Qo e0 e1 e2 e3 e4 e6 false) r) (Zp e0 e1 (Qp e0 e1 e2 e3 e5 e6 false) (Qo e0 e1 e2 e3 e4 e6 false) r) || !QR (Zl e2 e3 (Qp e0 e1 e2 e3 e5 e6 true) (Qo e0 e1 e2 e3 e4 e6 true) r) (Zp e2 e3 (Qp e0 e1 e2 e3 e5 e6 true) (Qo e0 e1 e2 e3 e4 e6 true) r) then 0 else Zp e0 e1 (Qp e0 e1 e2 e3 e5 e6 false) (Qo e0 e1 e2 e3 e4 e6 false) r
def Kd:Int:= bif e6 != 0 && K5 e6 r then bif decide (J8 (JH e0 e2 e4 false) (JH e1 e3 e5 false) (JH e0 e2 e4 false) (JH e1 e3 e5 false) < IntKind.i64.wrap (Zd r * Zd r)) || decide (J8 (JH e0 e2 e4 true) (JH e1 e3 e5 true) (JH e0 e2 e4 true) (JH e1 e3 e5 true) < IntKind.i64.wrap (Zd r * Zd r)) then 0 else Ja7 e0 e1 e2 e3 e4 e5 e6 r else Ja7 e0 e1 e2 e3 e4 e5 e6 r
def JVn:Int:= bif !QR (Zl e0 e1 (Qp e0 e1 e2 e3 e5 e6 false) (Qo e0 e1 e2 e3 e4 e6 false) r) (Zp e0 e1 (Qp e0 e1 e2 e3 e5 e6 false) (Qo e0 e1 e2 e3 e4 e6 false) r) || !QR (Zl e2 e3 (Qp e0 e1 e2 e3 e5 e6 true) (Qo e0 e1 e2 e3 e4 e6 true) r) (Zp e2 e3 (Qp e0 e1 e2 e3 e5 e6 true) (Qo e0 e1 e2 e3 e4 e6 true) r) then 0 else Zl e2 e3 (Qp e0 e1 e2 e3 e5 e6 true) (Qo e0 e1 e2 e3 e4 e6 true) r
def Xm:Int:= bif e6 != 0 && K5 e6 r then bif decide (J8 (JH e0 e2 e4 false) (JH e1 e3 e5 false) (JH e0 e2 e4 false) (JH e1 e3 e5 false) < IntKind.i64.wrap (Zd r * Zd r)) || decide (J8 (JH e0 e2 e4 true) (JH e1 e3 e5 true) (JH e0 e2 e4 true) (JH e1 e3 e5 true) < IntKind.i64.wrap (Zd r * Zd r)) then 0 else JVn e0 e1 e2 e3 e4 e5 e6 r else JVn e0 e1 e2 e3 e4 e5 e6 r
def JWE:Int:= bif !QR (Zl e0 e1 (Qp e0 e1 e2 e3 e5 e6 false) (Qo e0 e1 e2 e3 e4 e6 false) r) (Zp e0 e1 (Qp e0 e1 e2 e3 e5 e6 false) (Qo e0 e1 e2 e3 e4 e6 false) r) || !QR (Zl e2 e3 (Qp e0 e1 e2 e3 e5 e6 true) (Qo e0 e1 e2 e3 e4 e6 true) r) (Zp e2 e3 (Qp e0 e1 e2 e3 e5 e6 true) (Qo e0 e1 e2 e3 e4 e6 true) r) then 0 else Zp e2 e3 (Qp e0 e1 e2 e3 e5 e6 true) (Qo e0 e1 e2 e3 e4 e6 true) r
def Xk:Int:= bif e6 != 0 && K5 e6 r then bif decide (J8 (JH e0 e2 e4 false) (JH e1 e3 e5 false) (JH e0 e2 e4 false) (JH e1 e3 e5 false) < IntKind.i64.wrap (Zd r * Zd r)) || decide (J8 (JH e0 e2 e4 true) (JH e1 e3 e5 true) (JH e0 e2 e4 true) (JH e1 e3 e5 true) < IntKind.i64.wrap (Zd r * Zd r)) then 0 else JWE e0 e1 e2 e3 e4 e5 e6 r else JWE e0 e1 e2 e3 e4 e5 e6 r
def Jat:Int:= bif !QR (Zl e0 e1 (Qp e0 e1 e2 e3 e5 e6 false) (Qo e0 e1 e2 e3 e4 e6 false) r) (Zp e0 e1 (Qp e0 e1 e2 e3 e5 e6 false) (Qo e0 e1 e2 e3 e4 e6 false) r) || !QR (Zl e2 e3 (Qp e0 e1 e2 e3 e5 e6 true) (Qo e0 e1 e2 e3 e4 e6 true) r) (Zp e2 e3 (Qp e0 e1 e2 e3 e5 e6 true) (Qo e0 e1 e2 e3 e4 e6 true) r) then 3 else 0
def Qd:Int:= bif e6 != 0 && K5 e6 r then bif decide (J8 (JH e0 e2 e4 false) (JH e1 e3 e5 false) (JH e0 e2 e4 false) (JH e1 e3 e5 false) < IntKind.i64.wrap (Zd r * Zd r)) || decide (J8 (JH e0 e2 e4 true) (JH e1 e3 e5 true) (JH e0 e2 e4 true) (JH e1 e3 e5 true) < IntKind.i64.wrap (Zd r * Zd r)) then 16 else Jat e0 e1 e2 e3 e4 e5 e6 r else Jat e0 e1 e2 e3 e4 e5 e6 r
end
theorem JjD (e0 e1 e2 e3 e4 e5 e6:Int) (e7:Bool) (r:Int):Runs (Jm (JC JaT) KK 83) (JFF.args [.i e0,.i e1,.i e2,.i e3,.i e4,.i e5,.i e6,.b e7,.i r]) (JFF.memo [.i e0,.i e1,.i e2,.i e3,.i e4,.i e5,.i e6,.b e7,.i r] []) JFF.n (SV.tup [(true,[Ci (Kg e0 e1 e2 e3 e4 e5 e6 r),Ci (Kd e0 e1 e2 e3 e4 e5 e6 r)]),(true,[Ci (Xm e0 e1 e2 e3 e4 e5 e6 r),Ci (Xk e0 e1 e2 e3 e4 e5 e6 r)]),(false,[Ci (Qd e0 e1 e2 e3 e4 e5 e6 r)])]) ([]) :=
  Runs.of1 (ps := []) (by kernel_rfl) (by simp)
def JT0:List Pm → Qs → Option CRes
  | [.i e0,.i e1,.i e2,.i e3,.i e4,.i e5,.i e6,.b e7,.i r],[] => some ⟨SV.tup [(true,[Ci (Kg e0 e1 e2 e3 e4 e5 e6 r),Ci (Kd e0 e1 e2 e3 e4 e5 e6 r)]),(true,[Ci (Xm e0 e1 e2 e3 e4 e5 e6 r),Ci (Xk e0 e1 e2 e3 e4 e5 e6 r)]),(false,[Ci (Qd e0 e1 e2 e3 e4 e5 e6 r)])],
 [],[],[],9344⟩
  | _,_ => none
theorem JtQ:Ql Tryz.prog 83 (JU JFF JT0) := by
  refine JI (JE JPN 83) fun ps ls r hr hn _ => ?_
  unfold JT0 at hr
  split at hr
  · cases hr; exact ⟨_,JjD _ _ _ _ _ _ _ _ _,fun _ => rfl⟩
  · cases hr
def JeX:List (Nat × JY) := (83,JU JFF JT0) :: JaT
theorem JUJ:Known Tryz.prog (JC JeX) KK := J7 JPN JtQ
def JFv:Tpl := ⟨[.agg [.int .i64,.int .i64],.agg [.int .i64,.int .i64],.one (.int .i64),.one (.int .i64)],[],0⟩
section
variable (a b c d i s:Int)
def Zx:Int:= bif decide (J8 a b c d > 0) then bif decide (IntKind.i64.wrap (JF a b c d * i) ≤ 0) then IntKind.i64.wrap (0 - IntKind.i64.wrap (a + c)) else IntKind.i64.wrap (a + c) else IntKind.i64.wrap (i * IntKind.i64.wrap (d - b))
def Zy:Int:= bif decide (J8 a b c d > 0) then bif decide (IntKind.i64.wrap (JF a b c d * i) ≤ 0) then IntKind.i64.wrap (0 - IntKind.i64.wrap (b + d)) else IntKind.i64.wrap (b + d) else IntKind.i64.wrap (IntKind.i64.wrap (0 - i) * IntKind.i64.wrap (c - a))
def JKn:Int:= bif Zx a b c d i == 0 && Zy a b c d i == 0 then Zx a b c d i else j8 (Zx a b c d i) s (J8 (Zx a b c d i) (Zy a b c d i) (Zx a b c d i) (Zy a b c d i)) 2
def JKt:Int:= bif Zx a b c d i == 0 && Zy a b c d i == 0 then Zy a b c d i else j8 (Zy a b c d i) s (J8 (Zx a b c d i) (Zy a b c d i) (Zx a b c d i) (Zy a b c d i)) 2
def Ji1:Prop:= -9223372036854775808 ≤ J8 (Zx a b c d i) (Zy a b c d i) (Zx a b c d i) (Zy a b c d i) ∧ J8 (Zx a b c d i) (Zy a b c d i) (Zx a b c d i) (Zy a b c d i) < 9223372036854775808
def JDv:List Prop:= [(Zx a b c d i == 0 && Zy a b c d i == 0) = false → (-9223372036854775808 ≤ Zx a b c d i ∧ Zx a b c d i < 9223372036854775808) ∧ (-9223372036854775808 ≤ s ∧ s < 9223372036854775808) ∧ Ji1 a b c d i ∧ (-9223372036854775808 ≤ Zy a b c d i ∧ Zy a b c d i < 9223372036854775808) ∧ (-9223372036854775808 ≤ s ∧ s < 9223372036854775808) ∧ Ji1 a b c d i]
end
theorem JmL {a:Int} {b:Int} {c:Int} {d:Int} {i:Int} {s:Int} (hW:∀ q ∈ ([Xa s]:List Prop),q):∀ q ∈ (JDv a b c d i s),q := by
  simp only [awc,awn,and_true] at hW
  unfold JDv
  simp only [awc,awn,and_true]
  have s1:Xa (Zx a b c d i) := by
    unfold Zx
    cases decide (J8 a b c d > 0) <;> cases decide (IntKind.i64.wrap (JF a b c d * i) ≤ 0) <;> exact Jk _
  have s2:Xa (Zy a b c d i) := by
    unfold Zy
    cases decide (J8 a b c d > 0) <;> cases decide (IntKind.i64.wrap (JF a b c d * i) ≤ 0) <;> exact Jk _
  exact fun _ => ⟨s1,hW,Jk _,s2,hW,Jk _⟩
theorem Jlc (a b c d i s:Int) (hNeeds:∀ pN ∈ (JDv a b c d i s),pN):Runs (Jm (JC JeX) KK 148) (JFv.args [.i a,.i b,.i c,.i d,.i i,.i s]) (JFv.memo [.i a,.i b,.i c,.i d,.i i,.i s] []) JFv.n (SV.agg [Ci (JKn a b c d i s),Ci (JKt a b c d i s)]) ([]) :=
  Runs.of1 (ps := (JDv a b c d i s)) (by kernel_rfl) hNeeds
def JRD:List Pm → Qs → Option CRes
  | [.i a,.i b,.i c,.i d,.i i,.i s],[] => some ⟨SV.agg [Ci (JKn a b c d i s),Ci (JKt a b c d i s)],
 [],[Xa s],[],2078⟩
  | _,_ => none
theorem Jtb:Ql Tryz.prog 148 (JU JFv JRD) := by
  refine JI (JE JUJ 148) fun ps ls r hr hn _ => ?_
  unfold JRD at hr
  split at hr
  · cases hr; exact ⟨_,Jlc _ _ _ _ _ _ (JmL (by exact hn)),fun _ => rfl⟩
  · cases hr
def Je6:List (Nat × JY) := (148,JU JFv JRD) :: JeX
theorem JUN:Known Tryz.prog (JC Je6) KK := J7 JUJ Jtb
def Wq:Tpl := ⟨[.one (.int .i64),.one (.int .i64)],[],0⟩
def JD2 (a n:Int):Int := bif decide (a.tmod n < 0) then IntKind.i64.wrap (IntKind.i64.wrap (a.tdiv n) - 1) else IntKind.i64.wrap (a.tdiv n)
def Wl (n:Int):List Prop := [n ≠ 0,n ≠ 0]
theorem JbT {n:Int} (hW:∀ q ∈ ([n ≠ 0]:List Prop),q):∀ q ∈ (Wl n),q := by
  simp only [awc,awn,and_true] at hW
  unfold Wl
  simp only [awc,awn,and_true]
  exact ⟨hW,hW⟩
theorem JbI (a n:Int) (hNeeds:∀ pN ∈ (Wl n),pN):Runs (Jm (JC Je6) KK 167) (Wq.args [.i a,.i n]) (Wq.memo [.i a,.i n] []) Wq.n (SV.one (Ci (JD2 a n))) ([]) :=
  Runs.of1 (ps := (Wl n)) (by kernel_rfl) hNeeds
def JIE:List Pm → Qs → Option CRes
  | [.i a,.i n],[] => some ⟨SV.one (Ci (JD2 a n)),
 [],[n ≠ 0],[],15⟩
  | _,_ => none
theorem Jgh:Ql Tryz.prog 167 (JU Wq JIE) := by
  refine JI (JE JUN 167) fun ps ls r hr hn _ => ?_
  unfold JIE at hr
  split at hr
  · cases hr; exact ⟨_,JbI _ _ (JbT (by exact hn)),fun _ => rfl⟩
  · cases hr
def JMM:List (Nat × JY) := (167,JU Wq JIE) :: Je6
theorem JJ7:Known Tryz.prog (JC JMM) KK := J7 JUN Jgh
def JIw:Tpl := ⟨[.agg [.int .i64,.int .i64],.agg [.int .i64,.int .i64]],[],0⟩
def JJK (a b c d:Int):Bool := !Jd (IntKind.i64.wrap (c - a)) 1 || !Jd (IntKind.i64.wrap (d - b)) 1
theorem JpD (a b c d:Int):Runs (Jm (JC JMM) KK 147) (JIw.args [.i a,.i b,.i c,.i d]) (JIw.memo [.i a,.i b,.i c,.i d] []) JIw.n (SV.one (Cb (JJK a b c d))) ([]) :=
  Runs.of1 (ps := []) (by kernel_rfl) (by simp)
def JWm:List Pm → Qs → Option CRes
  | [.i a,.i b,.i c,.i d],[] => some ⟨SV.one (Cb (JJK a b c d)),
 [],[],[],48⟩
  | _,_ => none
theorem JvE:Ql Tryz.prog 147 (JU JIw JWm) := by
  refine JI (JE JJ7 147) fun ps ls r hr hn _ => ?_
  unfold JWm at hr
  split at hr
  · cases hr; exact ⟨_,JpD _ _ _ _,fun _ => rfl⟩
  · cases hr
def Jjc:List (Nat × JY) := (147,JU JIw JWm) :: JMM
theorem JYu:Known Tryz.prog (JC Jjc) KK := J7 JJ7 JvE
def kE:Tpl := ⟨[.agg [.int .i64,.int .i64],.agg [.int .i64,.int .i64]],[],0⟩
theorem Jds (a b c d:Int):Runs (Jm (JC Jjc) KK 122) (kE.args [.i a,.i b,.i c,.i d]) (kE.memo [.i a,.i b,.i c,.i d] []) kE.n (SV.one (Cb (XF a b c d))) ([]) :=
  Runs.of1 (ps := []) (by kernel_rfl) (by simp)
def JJO:List Pm → Qs → Option CRes
  | [.i a,.i b,.i c,.i d],[] => some ⟨SV.one (Cb (XF a b c d)),
 [],[],[],62⟩
  | _,_ => none
theorem Jje:Ql Tryz.prog 122 (JU kE JJO) := by
  refine JI (JE JYu 122) fun ps ls r hr hn _ => ?_
  unfold JJO at hr
  split at hr
  · cases hr; exact ⟨_,Jds _ _ _ _,fun _ => rfl⟩
  · cases hr
def JQU:List (Nat × JY) := (122,JU kE JJO) :: Jjc
theorem JLo:Known Tryz.prog (JC JQU) KK := J7 JYu Jje
def JFS:Tpl := ⟨[.agg [.int .i64,.int .i64],.agg [.int .i64,.int .i64],.one (.int .i64)],[],0⟩
def KR (a b c d e:Int):Int := bif decide (IntKind.i64.wrap (JF a b c d * e) > 0) || IntKind.i64.wrap (JF a b c d * e) == 0 && decide (J8 a b c d > 0) then 0 else 1
theorem Jmu (a b c d e:Int):Runs (Jm (JC JQU) KK 144) (JFS.args [.i a,.i b,.i c,.i d,.i e]) (JFS.memo [.i a,.i b,.i c,.i d,.i e] []) JFS.n (SV.one (Ci (KR a b c d e))) ([]) :=
  Runs.of1 (ps := []) (by kernel_rfl) (by simp)
def JS5:List Pm → Qs → Option CRes
  | [.i a,.i b,.i c,.i d,.i e],[] => some ⟨SV.one (Ci (KR a b c d e)),
 [],[],[],71⟩
  | _,_ => none
theorem JrD:Ql Tryz.prog 144 (JU JFS JS5) := by
  refine JI (JE JLo 144) fun ps ls r hr hn _ => ?_
  unfold JS5 at hr
  split at hr
  · cases hr; exact ⟨_,Jmu _ _ _ _ _,fun _ => rfl⟩
  · cases hr
def Jfu:List (Nat × JY) := (144,JU JFS JS5) :: JQU
theorem JTL:Known Tryz.prog (JC Jfu) KK := J7 JLo JrD
def qO:Tpl := ⟨[.agg [.int .i64,.int .i64],.agg [.int .i64,.int .i64],.agg [.int .i64,.int .i64],.one (.int .i64),.one (.bool)],[],0⟩
def QO (a0 a1 b0 b1 p0 p1 d:Int) (f:Bool):Bool := f || bif KR a0 a1 p0 p1 d != KR a0 a1 b0 b1 d then decide (KR a0 a1 p0 p1 d < KR a0 a1 b0 b1 d) else decide (IntKind.i64.wrap (JF p0 p1 b0 b1 * d) ≥ 0)
theorem Jfs (a0 a1 b0 b1 p0 p1 d:Int) (f:Bool):Runs (Jm (JC Jfu) KK 119) (qO.args [.i a0,.i a1,.i b0,.i b1,.i p0,.i p1,.i d,.b f]) (qO.memo [.i a0,.i a1,.i b0,.i b1,.i p0,.i p1,.i d,.b f] []) qO.n (SV.one (Cb (QO a0 a1 b0 b1 p0 p1 d f))) ([]) :=
  Runs.of1 (ps := []) (by kernel_rfl) (by simp)
def JJH:List Pm → Qs → Option CRes
  | [.i a0,.i a1,.i b0,.i b1,.i p0,.i p1,.i d,.b f],[] => some ⟨SV.one (Cb (QO a0 a1 b0 b1 p0 p1 d f)),
 [],[],[],202⟩
  | _,_ => none
theorem JjU:Ql Tryz.prog 119 (JU qO JJH) := by
  refine JI (JE JTL 119) fun ps ls r hr hn _ => ?_
  unfold JJH at hr
  split at hr
  · cases hr; exact ⟨_,Jfs _ _ _ _ _ _ _ _,fun _ => rfl⟩
  · cases hr
def JQK:List (Nat × JY) := (119,JU qO JJH) :: Jfu
theorem JLm:Known Tryz.prog (JC JQK) KK := J7 JTL JjU
def jC:Tpl := ⟨[.agg [.int .i64,.int .i64],.agg [.int .i64,.int .i64],.one (.int .i64),.one (.int .i64)],[],0⟩
def ZP (l0 h0 k n:Int):Int := IntKind.i64.wrap (l0 + JD2 (IntKind.i64.wrap (IntKind.i64.wrap (IntKind.i64.wrap (2 * IntKind.i64.wrap (h0 - l0)) * k) + n)) (IntKind.i64.wrap (2 * n)))
def Wx (n:Int):List Prop := [IntKind.i64.wrap (2 * n) ≠ 0,IntKind.i64.wrap (2 * n) ≠ 0]
theorem JbL {n:Int} (hW:∀ q ∈ ([IntKind.i64.wrap (2 * n) ≠ 0]:List Prop),q):∀ q ∈ (Wx n),q := by
  simp only [awc,awn,and_true] at hW
  unfold Wx
  simp only [awc,awn,and_true]
  exact ⟨hW,hW⟩
theorem JbW (l0 l1 h0 h1 k n:Int) (hNeeds:∀ pN ∈ (Wx n),pN):Runs (Jm (JC JQK) KK 145) (jC.args [.i l0,.i l1,.i h0,.i h1,.i k,.i n]) (jC.memo [.i l0,.i l1,.i h0,.i h1,.i k,.i n] []) jC.n (SV.agg [Ci (ZP l0 h0 k n),Ci (ZP l1 h1 k n)]) ([]) :=
  Runs.of1 (ps := (Wx n)) (by kernel_rfl) hNeeds
def JH0:List Pm → Qs → Option CRes
  | [.i l0,.i l1,.i h0,.i h1,.i k,.i n],[] => some ⟨SV.agg [Ci (ZP l0 h0 k n),Ci (ZP l1 h1 k n)],
 [],[IntKind.i64.wrap (2 * n) ≠ 0],[],78⟩
  | _,_ => none
theorem JiA:Ql Tryz.prog 145 (JU jC JH0) := by
  refine JI (JE JLm 145) fun ps ls r hr hn _ => ?_
  unfold JH0 at hr
  split at hr
  · cases hr; exact ⟨_,JbW _ _ _ _ _ _ (JbL (by exact hn)),fun _ => rfl⟩
  · cases hr
def Kx:List (Nat × JY) := (145,JU jC JH0) :: JQK
theorem JJq:Known Tryz.prog (JC Kx) KK := J7 JLm JiA
def fdP (l0 l1 h0 h1 n e0 e1 e2 e3 e4 e5 e6 r k:Int):Bool := XC e0 e1 e2 e3 e4 e5 e6 (ZP l0 h0 k n) (ZP l1 h1 k n) r
def fdM (l0 l1 h0 h1 e0 e1 e2 e3 e4 e5 e6:Int) (e7:Bool):Jn := [Jve 28 29,Jv6 24 25 h0 h1,Jv6 20 21 l0 l1,Jqm 0 1 e0 e1 e2 e3 e4 e5 e6 e7]
def fdF (l0 l1 h0 h1 n e0 e1 e2 e3 e4 e5 e6:Int) (e7:Bool) (r:Int):Fam (Int × Int) Int where
  k := 60
  E s := [(13,ent 1000000000 (.one (I s.2))),(12,ent 1000000001 (.one (I s.1))),(11,ent 56 (.one (I n))),(10,ent 31 (.one (.ptr 28 0))),(8,ent 27 (.one (.ptr 24 0))),(7,ent 23 (.one (.ptr 20 0))),(5,ent 9 (.one (.ptr 0 0))),(4,ent 8 (.one (I r)))]
  M _ := fdM l0 l1 h0 h1 e0 e1 e2 e3 e4 e5 e6 e7
  out b := .leaf (.exit 0) [(13,ent 61 (.one (I b))),(11,ent 56 (.one (I n))),(10,ent 31 (.one (.ptr 28 0))),(8,ent 27 (.one (.ptr 24 0))),(7,ent 23 (.one (.ptr 20 0)))] (fdM l0 l1 h0 h1 e0 e1 e2 e3 e4 e5 e6 e7)
  fin s := bsF (fdP l0 l1 h0 h1 n e0 e1 e2 e3 e4 e5 e6 r) s
  next s _ := bsN (fdP l0 l1 h0 h1 n e0 e1 e2 e3 e4 e5 e6 r) s
  J s := 0 ≤ s.1 ∧ s.1 ≤ s.2 ∧ s.2 ≤ n ∧ n ≤ 1000000000000
  μ s := (s.2 - s.1).toNat
section
variable (l0 l1 h0 h1 n e0 e1 e2 e3 e4 e5 e6:Int) (e7:Bool) (r:Int) (s:Int × Int)
def JrE:Prop:= decide (IntKind.i64.wrap (s.snd - s.fst) > 1) = true
def JuO:Int:= ((fdF l0 l1 h0 h1 n e0 e1 e2 e3 e4 e5 e6 e7 r).next s 0).fst
def Jt0:Int:= ((fdF l0 l1 h0 h1 n e0 e1 e2 e3 e4 e5 e6 e7 r).next s 0).snd
def JwD:Int:= (fdF l0 l1 h0 h1 n e0 e1 e2 e3 e4 e5 e6 e7 r).fin s
def JYA:Int:= IntKind.i64.wrap ((IntKind.i64.wrap (s.fst + s.snd)).tdiv 2)
def Jax:List Prop:= [JrE s → IntKind.i64.wrap (2 * n) ≠ 0,JrE s → (0 ≤ JuO l0 l1 h0 h1 n e0 e1 e2 e3 e4 e5 e6 e7 r s ∧ JuO l0 l1 h0 h1 n e0 e1 e2 e3 e4 e5 e6 e7 r s ≤ Jt0 l0 l1 h0 h1 n e0 e1 e2 e3 e4 e5 e6 e7 r s ∧ Jt0 l0 l1 h0 h1 n e0 e1 e2 e3 e4 e5 e6 e7 r s ≤ n ∧ n ≤ 1000000000000) ∧ (fdF l0 l1 h0 h1 n e0 e1 e2 e3 e4 e5 e6 e7 r).μ ((fdF l0 l1 h0 h1 n e0 e1 e2 e3 e4 e5 e6 e7 r).next s 0) < (fdF l0 l1 h0 h1 n e0 e1 e2 e3 e4 e5 e6 e7 r).μ s ∧ (fdF l0 l1 h0 h1 n e0 e1 e2 e3 e4 e5 e6 e7 r).fin ((fdF l0 l1 h0 h1 n e0 e1 e2 e3 e4 e5 e6 e7 r).next s 0) = JwD l0 l1 h0 h1 n e0 e1 e2 e3 e4 e5 e6 e7 r s ∧ (Jt0 l0 l1 h0 h1 n e0 e1 e2 e3 e4 e5 e6 e7 r s = bif XC e0 e1 e2 e3 e4 e5 e6 (ZP l0 h0 (JYA s) n) (ZP l1 h1 (JYA s) n) r then JYA s else s.snd) ∧ JuO l0 l1 h0 h1 n e0 e1 e2 e3 e4 e5 e6 e7 r s = bif XC e0 e1 e2 e3 e4 e5 e6 (ZP l0 h0 (JYA s) n) (ZP l1 h1 (JYA s) n) r then s.fst else JYA s,decide (IntKind.i64.wrap (s.snd - s.fst) > 1) = false → JwD l0 l1 h0 h1 n e0 e1 e2 e3 e4 e5 e6 e7 r s = s.snd]
end
theorem JsD (l0 l1 h0 h1 n e0 e1 e2 e3 e4 e5 e6:Int) (e7:Bool) (r:Int) (s:Int × Int) (hNeeds:∀ pN ∈ (Jax l0 l1 h0 h1 n e0 e1 e2 e3 e4 e5 e6 e7 r s),pN):Q4 (Xd (fdF l0 l1 h0 h1 n e0 e1 e2 e3 e4 e5 e6 e7 r) (QX Tryz.prog (JC Kx) KK 121 0) 60 s) :=
  Q4.of (ps := (Jax l0 l1 h0 h1 n e0 e1 e2 e3 e4 e5 e6 e7 r s)) (by kernel_rfl) (by kernel_rfl) hNeeds
theorem JqM (l0 l1 h0 h1 n e0 e1 e2 e3 e4 e5 e6:Int) (e7:Bool) (r:Int):Qw (fdF l0 l1 h0 h1 n e0 e1 e2 e3 e4 e5 e6 e7 r) (QX Tryz.prog (JC Kx) KK 121 0) 60 := by
  intro s hJ
  obtain ⟨h0',h1',h2,h3⟩:0 ≤ s.1 ∧ s.1 ≤ s.2 ∧ s.2 ≤ n ∧ n ≤ 1000000000000 := hJ
  obtain ⟨w1,w2,w3⟩ := JuT h0' h1' (by omega)
  have hk:JYA s = (s.1 + s.2).tdiv 2 := w2
  refine JsD l0 l1 h0 h1 n e0 e1 e2 e3 e4 e5 e6 e7 r s ?_
  unfold Jax
  rw [hk]
  unfold JrE
  rw [w1]
  intro p hp
  simp only [List.mem_cons,List.not_mem_nil,or_false] at hp
  rcases hp with rfl | rfl | rfl
  · intro h
    have h:s.2 - s.1 > 1 := by simpa using h
    rw [X6 (by omega) (by omega)]
    omega
  · intro h
    have h:s.2 - s.1 > 1 := by simpa using h
    obtain ⟨b1,b2,b3,b4,b5⟩ := JrS (P := fdP l0 l1 h0 h1 n e0 e1 e2 e3 e4 e5 e6 r) h0' h
    exact ⟨⟨b1,b2,Int.le_trans b3 h2,h3⟩,b4,b5,rfl,rfl⟩
  · intro h
    have h:¬ s.2 - s.1 > 1 := by simpa using h
    show bsF _ (s.1,s.2) = s.2
    exact JoL h
def fdL:QE := fun env mem m => match Wi env 13,Wi env 11,JIN mem 20,JIN mem 24,Jcx mem 0,Wi env 4 with
  | some b,some n,some [l0,l1],some [h0,h1],some ([e0,e1,e2,e3,e4,e5,e6],e7),some r => jk (fdF l0 l1 h0 h1 n e0 e1 e2 e3 e4 e5 e6 e7 r) 60 (fun _ _ => some (bs0 b)) env mem m
  | _,_,_,_,_,_ => none
def Juy:FuncId → Nat → Option QE := JA9 KK 121 4 fdL
theorem JcN:Known Tryz.prog (JC Kx) Juy := by
  refine Qe 0 JJq (by kernel_rfl) (Qv fun env mem m x h => ?_)
  unfold fdL at h
  have hlen:(QW Tryz.prog 121).length = 2 := by kernel_rfl
  split at h
  · exact ⟨_,XG (Qc Zz JJq (by omega)) (JqM _ _ _ _ _ _ _ _ _ _ _ _ _ _),h⟩
  · cases h
section
variable (P:Int → Int → Bool) (d z:Int) (full:Bool) (s:CvS)
def Jhx:Int:= bif full && Int.ofNat s.i == 0 then IntKind.i64.wrap (0 - s.a0) else JKn s.a0 s.a1 s.b0 s.b1 d z
def Jil:Int:= bif full && Int.ofNat s.i == 0 then IntKind.i64.wrap (0 - s.a1) else JKt s.a0 s.a1 s.b0 s.b1 d z
def rcN:CvS:= ⟨s.i + 1,bif P (Jhx d z full s) (Jil d z full s) then s.a0 else Jhx d z full s,bif P (Jhx d z full s) (Jil d z full s) then s.a1 else Jil d z full s, bif P (Jhx d z full s) (Jil d z full s) then Jhx d z full s else s.b0,bif P (Jhx d z full s) (Jil d z full s) then Jil d z full s else s.b1⟩
end
def rcv (P:Int → Int → Bool) (d z:Int) (full:Bool):Nat → CvS → Int × Int
  | 0,s => (s.b0,s.b1)
  | f + 1,s => bif JJK s.a0 s.a1 s.b0 s.b1 || full && Int.ofNat s.i == 0 then rcv P d z full f (rcN P d z full s) else (s.b0,s.b1)
def faP (f4 f5 e0 e1 e2 e3 e4 e5 e6 r u w:Int):Bool := XC e0 e1 e2 e3 e4 e5 e6 (JG f4 u) (JG f5 w) r
def faM (f0 f1 f2 f3 f4 f5 f6:Int) (f7:Bool) (e0 e1 e2 e3 e4 e5 e6:Int) (e7:Bool):Jn := [Jve 28 29,Jqm 10 11 f0 f1 f2 f3 f4 f5 f6 f7,Jqm 0 1 e0 e1 e2 e3 e4 e5 e6 e7]
def faF (z:Int) (f0 f1 f2 f3 f4 f5 f6:Int) (f7:Bool) (e0 e1 e2 e3 e4 e5 e6:Int) (e7:Bool) (r:Int):Fam CvS (Int × Int) where
  k := 60
  E s := [(19,ent 1000000000 (.one (I (Int.ofNat s.i)))),(18,ent 1046 (.one (.ptr 1043 0))),(17,ent 1042 (.one (.ptr 1039 0))),(15,ent 978 (.one (I z))),(10,ent 31 (.one (.ptr 28 0))),(6,ent 19 (.one (.ptr 10 0))),(5,ent 9 (.one (.ptr 0 0))),(4,ent 8 (.one (I r)))]
  M s := Jp5 1043 1000000001 1000000002 s.b0 s.b1 :: Jp5 1039 1000000003 1000000004 s.a0 s.a1 :: faM f0 f1 f2 f3 f4 f5 f6 f7 e0 e1 e2 e3 e4 e5 e6 e7
  out t := .leaf (.exit 2) [(18,ent 1046 (.one (.ptr 1043 0))),(10,ent 31 (.one (.ptr 28 0))),(6,ent 19 (.one (.ptr 10 0)))] (Jp5 1043 1055 1056 t.1 t.2 :: faM f0 f1 f2 f3 f4 f5 f6 f7 e0 e1 e2 e3 e4 e5 e6 e7)
  fin s := rcv (faP f4 f5 e0 e1 e2 e3 e4 e5 e6 r) f6 z f7 (24 - s.i) s
  next s _ := rcN (faP f4 f5 e0 e1 e2 e3 e4 e5 e6 r) f6 z f7 s
  J s := s.i ≤ 24 ∧ Xa z
  μ s := 24 - s.i
section
variable (z f0 f1 f2 f3 f4 f5 f6:Int) (f7:Bool) (e0 e1 e2 e3 e4 e5 e6:Int) (e7:Bool) (r:Int) (s:CvS)
def JrN:Prop:= (decide (Int.ofNat s.i < 24) && (JJK s.a0 s.a1 s.b0 s.b1 || f7 && Int.ofNat s.i == 0)) = true
def Jwd:Prop:= -9223372036854775808 ≤ z ∧ z < 9223372036854775808
def Jbw:Int:= bif f7 && Int.ofNat s.i == 0 then IntKind.i64.wrap (0 - s.a0) else JKn s.a0 s.a1 s.b0 s.b1 f6 z
def JcD:Int:= bif f7 && Int.ofNat s.i == 0 then IntKind.i64.wrap (0 - s.a1) else JKt s.a0 s.a1 s.b0 s.b1 f6 z
def JYh:List Prop:= [JrN f7 s → Jwd z,JrN f7 s → (((faF z f0 f1 f2 f3 f4 f5 f6 f7 e0 e1 e2 e3 e4 e5 e6 e7 r).next s 0).i ≤ 24 ∧ Jwd z) ∧ (faF z f0 f1 f2 f3 f4 f5 f6 f7 e0 e1 e2 e3 e4 e5 e6 e7 r).μ ((faF z f0 f1 f2 f3 f4 f5 f6 f7 e0 e1 e2 e3 e4 e5 e6 e7 r).next s 0) < (faF z f0 f1 f2 f3 f4 f5 f6 f7 e0 e1 e2 e3 e4 e5 e6 e7 r).μ s ∧ (faF z f0 f1 f2 f3 f4 f5 f6 f7 e0 e1 e2 e3 e4 e5 e6 e7 r).fin ((faF z f0 f1 f2 f3 f4 f5 f6 f7 e0 e1 e2 e3 e4 e5 e6 e7 r).next s 0) = (faF z f0 f1 f2 f3 f4 f5 f6 f7 e0 e1 e2 e3 e4 e5 e6 e7 r).fin s ∧ Int.ofNat ((faF z f0 f1 f2 f3 f4 f5 f6 f7 e0 e1 e2 e3 e4 e5 e6 e7 r).next s 0).i = IntKind.i64.wrap (Int.ofNat s.i + 1) ∧ (((faF z f0 f1 f2 f3 f4 f5 f6 f7 e0 e1 e2 e3 e4 e5 e6 e7 r).next s 0).b0 = bif XC e0 e1 e2 e3 e4 e5 e6 (IntKind.i64.wrap (f4 + Jbw z f6 f7 s)) (IntKind.i64.wrap (f5 + JcD z f6 f7 s)) r then Jbw z f6 f7 s else s.b0) ∧ (((faF z f0 f1 f2 f3 f4 f5 f6 f7 e0 e1 e2 e3 e4 e5 e6 e7 r).next s 0).b1 = bif XC e0 e1 e2 e3 e4 e5 e6 (IntKind.i64.wrap (f4 + Jbw z f6 f7 s)) (IntKind.i64.wrap (f5 + JcD z f6 f7 s)) r then JcD z f6 f7 s else s.b1) ∧ (((faF z f0 f1 f2 f3 f4 f5 f6 f7 e0 e1 e2 e3 e4 e5 e6 e7 r).next s 0).a0 = bif XC e0 e1 e2 e3 e4 e5 e6 (IntKind.i64.wrap (f4 + Jbw z f6 f7 s)) (IntKind.i64.wrap (f5 + JcD z f6 f7 s)) r then s.a0 else Jbw z f6 f7 s) ∧ ((faF z f0 f1 f2 f3 f4 f5 f6 f7 e0 e1 e2 e3 e4 e5 e6 e7 r).next s 0).a1 = bif XC e0 e1 e2 e3 e4 e5 e6 (IntKind.i64.wrap (f4 + Jbw z f6 f7 s)) (IntKind.i64.wrap (f5 + JcD z f6 f7 s)) r then s.a1 else JcD z f6 f7 s,(decide (Int.ofNat s.i < 24) && (JJK s.a0 s.a1 s.b0 s.b1 || f7 && Int.ofNat s.i == 0)) = false → ((faF z f0 f1 f2 f3 f4 f5 f6 f7 e0 e1 e2 e3 e4 e5 e6 e7 r).fin s).fst = s.b0 ∧ ((faF z f0 f1 f2 f3 f4 f5 f6 f7 e0 e1 e2 e3 e4 e5 e6 e7 r).fin s).snd = s.b1]
end
theorem Juh (z f0 f1 f2 f3 f4 f5 f6:Int) (f7:Bool) (e0 e1 e2 e3 e4 e5 e6:Int) (e7:Bool) (r:Int) (s:CvS) (hNeeds:∀ pN ∈ (JYh z f0 f1 f2 f3 f4 f5 f6 f7 e0 e1 e2 e3 e4 e5 e6 e7 r s),pN):Q4 (Xd (faF z f0 f1 f2 f3 f4 f5 f6 f7 e0 e1 e2 e3 e4 e5 e6 e7 r) (QX Tryz.prog (JC Kx) Juy 121 1) 1054 s) :=
  Q4.of (ps := (JYh z f0 f1 f2 f3 f4 f5 f6 f7 e0 e1 e2 e3 e4 e5 e6 e7 r s)) (by kernel_rfl) (by kernel_rfl) hNeeds
theorem Jit (P:Int → Int → Bool) (d z:Int) (full:Bool) (s:CvS) (h:s.i < 24):rcv P d z full (24 - s.i) s = bif JJK s.a0 s.a1 s.b0 s.b1 || full && Int.ofNat s.i == 0 then rcv P d z full (24 - (s.i + 1)) (rcN P d z full s) else (s.b0,s.b1) := by
  have e:24 - s.i = (24 - (s.i + 1)) + 1 := by omega
  rw [e]; rfl
theorem Jqp (z f0 f1 f2 f3 f4 f5 f6:Int) (f7:Bool) (e0 e1 e2 e3 e4 e5 e6:Int) (e7:Bool) (r:Int):Qw (faF z f0 f1 f2 f3 f4 f5 f6 f7 e0 e1 e2 e3 e4 e5 e6 e7 r) (QX Tryz.prog (JC Kx) Juy 121 1) 1054 := by
  intro s hJ
  obtain ⟨hi,hz⟩:s.i ≤ 24 ∧ Xa z := hJ
  refine Juh z f0 f1 f2 f3 f4 f5 f6 f7 e0 e1 e2 e3 e4 e5 e6 e7 r s ?_
  unfold JYh
  intro p hp
  simp only [List.mem_cons,List.not_mem_nil,or_false] at hp
  have hw:IntKind.i64.wrap (Int.ofNat s.i + 1) = Int.ofNat (s.i + 1) := by
    rw [X6 (by simp; omega) (by simp; omega)]; rfl
  rcases hp with rfl | rfl | rfl
  · exact fun _ => hz
  · intro h0
    unfold JrN at h0
    simp only [Bool.and_eq_true,decide_eq_true_eq] at h0
    obtain ⟨h1,h2⟩ := h0
    have hi':s.i < 24 := by simp at h1; omega
    have E1 := Jit (faP f4 f5 e0 e1 e2 e3 e4 e5 e6 r) f6 z f7 s hi'
    rw [h2,cond_true] at E1
    refine ⟨⟨by show s.i + 1 ≤ 24; omega,hz⟩,?_,E1.symm,hw.symm,rfl,rfl,rfl,rfl⟩
    show 24 - (s.i + 1) < 24 - s.i; omega
  · intro h
    have E2:(faF z f0 f1 f2 f3 f4 f5 f6 f7 e0 e1 e2 e3 e4 e5 e6 e7 r).fin s = (s.b0,s.b1) := by
      show rcv _ _ _ _ (24 - s.i) s = _
      by_cases hi':s.i < 24
      · have hd:decide (Int.ofNat s.i < 24) = true := by simp; omega
        rw [hd,Bool.true_and] at h
        rw [Jit _ _ _ _ _ hi',h]; rfl
      · have:24 - s.i = 0 := by omega
        rw [this]; rfl
    rw [E2]
    exact ⟨rfl,rfl⟩
def faL:QE := fun env mem m => match Wi env 15,JIN mem 1043,JIN mem 1039,Jcx mem 10,Jcx mem 0,Wi env 4 with
  | some z,some [b0,b1],some [a0,a1],some ([f0,f1,f2,f3,f4,f5,f6],f7),some ([e0,e1,e2,e3,e4,e5,e6],e7),some r => jk (faF z f0 f1 f2 f3 f4 f5 f6 f7 e0 e1 e2 e3 e4 e5 e6 e7 r) 1054 (fun _ _ => some (cv0 a0 a1 b0 b1)) env mem m
  | _,_,_,_,_,_ => none
def XQ:FuncId → Nat → Option QE := JA9 Juy 121 16 faL
theorem Jbq:Known Tryz.prog (JC Kx) XQ := by
  refine Qe 1 JcN (by kernel_rfl) (Qv fun env mem m x h => ?_)
  unfold faL at h
  have hlen:(QW Tryz.prog 121).length = 2 := by kernel_rfl
  split at h
  · exact ⟨_,XG (Qc Zz JcN (by omega)) (Jqp _ _ _ _ _ _ _ _ _ _ _ _ _ _ _ _ _ _),h⟩
  · cases h
def YV (l0 l1 h0 h1:Int):Int :=
  if 0 - (h1 - l1) > (if h1 - l1 > (if 0 - (h0 - l0) > h0 - l0 then 0 - (h0 - l0) else h0 - l0) then h1 - l1 else (if 0 - (h0 - l0) > h0 - l0 then 0 - (h0 - l0) else h0 - l0)) then 0 - (h1 - l1) else (if h1 - l1 > (if 0 - (h0 - l0) > h0 - l0 then 0 - (h0 - l0) else h0 - l0) then h1 - l1 else (if 0 - (h0 - l0) > h0 - l0 then 0 - (h0 - l0) else h0 - l0))
theorem Jnj {l0 l1 h0 h1:Int} (b0:bd 1048576 l0) (b1:bd 1048576 l1) (b2:bd 1048576 h0) (b3:bd 1048576 h1):QD l0 l1 h0 h1 = YV l0 l1 h0 h1 ∧ 0 ≤ YV l0 l1 h0 h1 ∧ YV l0 l1 h0 h1 ≤ 2097152 ∧ bd (YV l0 l1 h0 h1) (h0 - l0) ∧ bd (YV l0 l1 h0 h1) (h1 - l1) := by
  have d0:J1 h0 l0 = h0 - l0 := XY (by omega) (by omega)
  have d1:J1 h1 l1 = h1 - l1 := XY (by omega) (by omega)
  unfold QD JDr JE5 YV
  rw [d0,d1,X6 (x := 0 - (h0 - l0)) (by omega) (by omega),X6 (x := 0 - (h1 - l1)) (by omega) (by omega)]
  refine ⟨rfl,?_⟩
  repeat' split
  all_goals omega
def JGC:Tpl := ⟨[.agg [.int .i64,.int .i64,.int .i64,.int .i64,.int .i64,.int .i64,.int .i64,.bool],.agg [.int .i64,.int .i64,.int .i64,.int .i64,.int .i64,.int .i64,.int .i64,.bool],.agg [.int .i64,.int .i64],.agg [.int .i64,.int .i64],.one (.int .i64)],[],0⟩
section
variable (e0 e1 e2 e3 e4 e5 e6:Int) (e7:Bool) (f0 f1 f2 f3 f4 f5 f6:Int) (f7:Bool) (l0 l1 h0 h1 r:Int)
def JPQ:Int:=
 if IntKind.i64.wrap (l0 - h0) > IntKind.i64.wrap (h0 - l0) then IntKind.i64.wrap (l0 - h0) else IntKind.i64.wrap (h0 - l0)
def JOY:Int:=
 if IntKind.i64.wrap (h1 - l1) > JPQ l0 h0 then IntKind.i64.wrap (h1 - l1) else JPQ l0 h0
def ZA:Int:=
 if IntKind.i64.wrap (l1 - h1) > JOY l0 l1 h0 h1 then IntKind.i64.wrap (l1 - h1) else JOY l0 l1 h0 h1
def JNj:Int:= bif f6 == 0 then bif ZA l0 l1 h0 h1 == 0 then h0 else ZP l0 h0 ((fdF l0 l1 h0 h1 (ZA l0 l1 h0 h1) e0 e1 e2 e3 e4 e5 e6 e7 r).fin (bs0 (ZA l0 l1 h0 h1))) (ZA l0 l1 h0 h1) else IntKind.i64.wrap (f4 + ((faF (IntKind.i64.wrap (qA (J8 (JH f0 f2 f4 false) (JH f1 f3 f5 false) (JH f0 f2 f4 false) (JH f1 f3 f5 false)) 1 2 - IntKind.i64.wrap (f6 * r))) f0 f1 f2 f3 f4 f5 f6 f7 e0 e1 e2 e3 e4 e5 e6 e7 r).fin (cv0 (J1 l0 f4) (J1 l1 f5) (J1 h0 f4) (J1 h1 f5))).fst)
def JOR:Int:= bif f6 == 0 then bif ZA l0 l1 h0 h1 == 0 then h1 else ZP l1 h1 ((fdF l0 l1 h0 h1 (ZA l0 l1 h0 h1) e0 e1 e2 e3 e4 e5 e6 e7 r).fin (bs0 (ZA l0 l1 h0 h1))) (ZA l0 l1 h0 h1) else IntKind.i64.wrap (f5 + ((faF (IntKind.i64.wrap (qA (J8 (JH f0 f2 f4 false) (JH f1 f3 f5 false) (JH f0 f2 f4 false) (JH f1 f3 f5 false)) 1 2 - IntKind.i64.wrap (f6 * r))) f0 f1 f2 f3 f4 f5 f6 f7 e0 e1 e2 e3 e4 e5 e6 e7 r).fin (cv0 (J1 l0 f4) (J1 l1 f5) (J1 h0 f4) (J1 h1 f5))).snd)
def JiO:Int:= IntKind.i64.wrap (qA (J8 (JH f0 f2 f4 false) (JH f1 f3 f5 false) (JH f0 f2 f4 false) (JH f1 f3 f5 false)) 1 2 - IntKind.i64.wrap (f6 * r))
def JDt:List Prop:= [(f6 == 0) = true → (0 ≤ (bs0 (ZA l0 l1 h0 h1)).fst ∧ (bs0 (ZA l0 l1 h0 h1)).fst ≤ (bs0 (ZA l0 l1 h0 h1)).snd ∧ (bs0 (ZA l0 l1 h0 h1)).snd ≤ ZA l0 l1 h0 h1 ∧ ZA l0 l1 h0 h1 ≤ 1000000000000) ∧ (bs0 (ZA l0 l1 h0 h1)).snd = ZA l0 l1 h0 h1 ∧ (bs0 (ZA l0 l1 h0 h1)).fst = 0 ∧ ((ZA l0 l1 h0 h1 == 0) = false → IntKind.i64.wrap (2 * ZA l0 l1 h0 h1) ≠ 0),(f6 == 0) = false → (-9223372036854775808 ≤ J8 (JH f0 f2 f4 false) (JH f1 f3 f5 false) (JH f0 f2 f4 false) (JH f1 f3 f5 false) ∧ J8 (JH f0 f2 f4 false) (JH f1 f3 f5 false) (JH f0 f2 f4 false) (JH f1 f3 f5 false) < 9223372036854775808) ∧ ((cv0 (J1 l0 f4) (J1 l1 f5) (J1 h0 f4) (J1 h1 f5)).i ≤ 24 ∧ -9223372036854775808 ≤ JiO f0 f1 f2 f3 f4 f5 f6 r ∧ JiO f0 f1 f2 f3 f4 f5 f6 r < 9223372036854775808) ∧ Int.ofNat (cv0 (J1 l0 f4) (J1 l1 f5) (J1 h0 f4) (J1 h1 f5)).i = 0 ∧ (cv0 (J1 l0 f4) (J1 l1 f5) (J1 h0 f4) (J1 h1 f5)).b0 = J1 h0 f4 ∧ (cv0 (J1 l0 f4) (J1 l1 f5) (J1 h0 f4) (J1 h1 f5)).b1 = J1 h1 f5 ∧ (cv0 (J1 l0 f4) (J1 l1 f5) (J1 h0 f4) (J1 h1 f5)).a0 = J1 l0 f4 ∧ (cv0 (J1 l0 f4) (J1 l1 f5) (J1 h0 f4) (J1 h1 f5)).a1 = J1 l1 f5]
end
theorem Jjw {f0:Int} {f1:Int} {f2:Int} {f3:Int} {f4:Int} {f5:Int} {f6:Int} {l0:Int} {l1:Int} {h0:Int} {h1:Int} {r:Int} (hW:∀ q ∈ ([bd 1048576 l0,bd 1048576 l1,bd 1048576 h0,bd 1048576 h1]:List Prop),q):∀ q ∈ (JDt f0 f1 f2 f3 f4 f5 f6 l0 l1 h0 h1 r),q := by
  simp only [awc,awn,and_true] at hW
  unfold JDt
  simp only [awc,awn,and_true]
  obtain ⟨b0,b1,b2,b3⟩ := hW
  have en:ZA l0 l1 h0 h1 = YV l0 l1 h0 h1 := by
    unfold ZA JOY JPQ YV
    rw [X6 (x := l0 - h0) (by omega) (by omega),X6 (x := h0 - l0) (by omega) (by omega),X6 (x := h1 - l1) (by omega) (by omega),X6 (x := l1 - h1) (by omega) (by omega),show l0 - h0 = 0 - (h0 - l0) by omega,show l1 - h1 = 0 - (h1 - l1) by omega]
  obtain ⟨_,n0,n1,_,_⟩ := Jnj b0 b1 b2 b3
  rw [← en] at n0 n1
  refine ⟨fun _ => ⟨⟨Int.le_refl 0,n0,Int.le_refl _,by omega⟩,rfl,rfl,fun h => ?_⟩,fun _ => ⟨Jk _,⟨Nat.zero_le _,Jk _⟩,rfl,rfl,rfl,rfl,rfl⟩⟩
  rw [X6 (by omega) (by omega)]
  have:ZA l0 l1 h0 h1 ≠ 0 := by simpa using h
  omega
theorem Jjh (e0 e1 e2 e3 e4 e5 e6:Int) (e7:Bool) (f0 f1 f2 f3 f4 f5 f6:Int) (f7:Bool) (l0 l1 h0 h1 r:Int) (hNeeds:∀ pN ∈ (JDt f0 f1 f2 f3 f4 f5 f6 l0 l1 h0 h1 r),pN):Runs (Jm (JC Kx) XQ 121) (JGC.args [.i e0,.i e1,.i e2,.i e3,.i e4,.i e5,.i e6,.b e7,.i f0,.i f1,.i f2,.i f3,.i f4,.i f5,.i f6,.b f7,.i l0,.i l1,.i h0,.i h1,.i r]) (JGC.memo [.i e0,.i e1,.i e2,.i e3,.i e4,.i e5,.i e6,.b e7,.i f0,.i f1,.i f2,.i f3,.i f4,.i f5,.i f6,.b f7,.i l0,.i l1,.i h0,.i h1,.i r] []) JGC.n (SV.agg [Ci (JNj e0 e1 e2 e3 e4 e5 e6 e7 f0 f1 f2 f3 f4 f5 f6 f7 l0 l1 h0 h1 r),Ci (JOR e0 e1 e2 e3 e4 e5 e6 e7 f0 f1 f2 f3 f4 f5 f6 f7 l0 l1 h0 h1 r)]) ([]) :=
  Runs.of1 (ps := (JDt f0 f1 f2 f3 f4 f5 f6 l0 l1 h0 h1 r)) (by kernel_rfl) hNeeds
def JQR:List Pm → Qs → Option CRes
  | [.i e0,.i e1,.i e2,.i e3,.i e4,.i e5,.i e6,.b e7,.i f0,.i f1,.i f2,.i f3,.i f4,.i f5,.i f6,.b f7,.i l0,.i l1,.i h0,.i h1,.i r],[] => some ⟨SV.agg [Ci (JNj e0 e1 e2 e3 e4 e5 e6 e7 f0 f1 f2 f3 f4 f5 f6 f7 l0 l1 h0 h1 r),Ci (JOR e0 e1 e2 e3 e4 e5 e6 e7 f0 f1 f2 f3 f4 f5 f6 f7 l0 l1 h0 h1 r)],
 [],[bd 1048576 l0,bd 1048576 l1,bd 1048576 h0,bd 1048576 h1],[],1149⟩
  | _,_ => none
theorem JtG:Ql Tryz.prog 121 (JU JGC JQR) := by
  refine JI (JE Jbq 121) fun ps ls r hr hn _ => ?_
  unfold JQR at hr
  split at hr
  · cases hr; exact ⟨_,Jjh _ _ _ _ _ _ _ _ _ _ _ _ _ _ _ _ _ _ _ _ _ (Jjw (by exact hn)),fun _ => rfl⟩
  · cases hr
def JdY:List (Nat × JY) := (121,JU JGC JQR) :: Kx
theorem JTC:Known Tryz.prog (JC JdY) XQ := J7 Jbq JtG
theorem JOV (A B C D X:Int) (hX:X = A ∨ X = B ∨ X = C ∨ X = D):bd 1048576 (bif !QR A B || !QR C D then 0 else X) := by
  have hw:∀ a b,QR a b = (Jd a 1048576 && Jd b 1048576) := fun _ _ => rfl
  have z:bd 1048576 0 := by decide
  rw [hw,hw]
  cases hA:Jd A 1048576
  · exact z
  cases hB:Jd B 1048576
  · exact z
  cases hC:Jd C 1048576
  · exact z
  cases hD:Jd D 1048576
  · exact z
  have q:∀ {x},Jd x 1048576 = true → bd 1048576 x := fun h => (j3 (by omega) (by omega)).1 h
  rcases hX with rfl | rfl | rfl | rfl
  · exact q hA
  · exact q hB
  · exact q hC
  · exact q hD
theorem JtN (e0 e1 e2 e3 e4 e5 e6 r:Int):bd 1048576 (Kg e0 e1 e2 e3 e4 e5 e6 r) ∧ bd 1048576 (Kd e0 e1 e2 e3 e4 e5 e6 r) ∧ bd 1048576 (Xm e0 e1 e2 e3 e4 e5 e6 r) ∧ bd 1048576 (Xk e0 e1 e2 e3 e4 e5 e6 r) := by
  have z:bd 1048576 0 := by decide
  have key:∀ (p q:Bool) (x:Int),bd 1048576 x → bd 1048576 (bif p then bif q then 0 else x else x) := fun p q x h => by
    cases p <;> cases q <;> first | exact h | exact z
  refine ⟨key _ _ _ ?_,key _ _ _ ?_,key _ _ _ ?_,key _ _ _ ?_⟩
  · exact JOV _ _ _ _ _ (.inl rfl)
  · exact JOV _ _ _ _ _ (.inr (.inl rfl))
  · exact JOV _ _ _ _ _ (.inr (.inr (.inl rfl)))
  · exact JOV _ _ _ _ _ (.inr (.inr (.inr rfl)))
def JEy:Tpl := ⟨[.agg [.int .i64,.int .i64,.int .i64,.int .i64,.int .i64,.int .i64,.int .i64,.bool],.agg [.int .i64,.int .i64,.int .i64,.int .i64,.int .i64,.int .i64,.int .i64,.bool],.one (.int .i64)],[],0⟩
section
variable (e0 e1 e2 e3 e4 e5 e6:Int) (e7:Bool) (f0 f1 f2 f3 f4 f5 f6:Int) (f7:Bool) (r:Int)
def KE:Int:= JNj e0 e1 e2 e3 e4 e5 e6 e7 f0 f1 f2 f3 f4 f5 f6 f7 (Kg f0 f1 f2 f3 f4 f5 f6 r) (Kd f0 f1 f2 f3 f4 f5 f6 r) (Xm f0 f1 f2 f3 f4 f5 f6 r) (Xk f0 f1 f2 f3 f4 f5 f6 r) r
def K9:Int:= JOR e0 e1 e2 e3 e4 e5 e6 e7 f0 f1 f2 f3 f4 f5 f6 f7 (Kg f0 f1 f2 f3 f4 f5 f6 r) (Kd f0 f1 f2 f3 f4 f5 f6 r) (Xm f0 f1 f2 f3 f4 f5 f6 r) (Xk f0 f1 f2 f3 f4 f5 f6 r) r
def JPU:Int:= J8 (J1 (KE e0 e1 e2 e3 e4 e5 e6 e7 f0 f1 f2 f3 f4 f5 f6 f7 r) (Kg e0 e1 e2 e3 e4 e5 e6 r)) (J1 (K9 e0 e1 e2 e3 e4 e5 e6 e7 f0 f1 f2 f3 f4 f5 f6 f7 r) (Kd e0 e1 e2 e3 e4 e5 e6 r)) (J1 e2 e0) (J1 e3 e1)
def Wn:Int:= bif Qd e0 e1 e2 e3 e4 e5 e6 r != 0 then 0 else bif Qd f0 f1 f2 f3 f4 f5 f6 r != 0 then 0 else bif !XC e0 e1 e2 e3 e4 e5 e6 (Xm f0 f1 f2 f3 f4 f5 f6 r) (Xk f0 f1 f2 f3 f4 f5 f6 r) r then 0 else bif !QR (KE e0 e1 e2 e3 e4 e5 e6 e7 f0 f1 f2 f3 f4 f5 f6 f7 r) (K9 e0 e1 e2 e3 e4 e5 e6 e7 f0 f1 f2 f3 f4 f5 f6 f7 r) then 0 else bif e6 == 0 then bif decide (JPU e0 e1 e2 e3 e4 e5 e6 e7 f0 f1 f2 f3 f4 f5 f6 f7 r ≤ 0) then 0 else KE e0 e1 e2 e3 e4 e5 e6 e7 f0 f1 f2 f3 f4 f5 f6 f7 r else bif !QO (JH e0 e2 e4 false) (JH e1 e3 e5 false) (JH e0 e2 e4 true) (JH e1 e3 e5 true) (J1 (KE e0 e1 e2 e3 e4 e5 e6 e7 f0 f1 f2 f3 f4 f5 f6 f7 r) e4) (J1 (K9 e0 e1 e2 e3 e4 e5 e6 e7 f0 f1 f2 f3 f4 f5 f6 f7 r) e5) e6 e7 || XF (JH e0 e2 e4 false) (JH e1 e3 e5 false) (J1 (KE e0 e1 e2 e3 e4 e5 e6 e7 f0 f1 f2 f3 f4 f5 f6 f7 r) e4) (J1 (K9 e0 e1 e2 e3 e4 e5 e6 e7 f0 f1 f2 f3 f4 f5 f6 f7 r) e5) then 0 else KE e0 e1 e2 e3 e4 e5 e6 e7 f0 f1 f2 f3 f4 f5 f6 f7 r
def j9:Int:= bif Qd e0 e1 e2 e3 e4 e5 e6 r != 0 then 0 else bif Qd f0 f1 f2 f3 f4 f5 f6 r != 0 then 0 else bif !XC e0 e1 e2 e3 e4 e5 e6 (Xm f0 f1 f2 f3 f4 f5 f6 r) (Xk f0 f1 f2 f3 f4 f5 f6 r) r then 0 else bif !QR (KE e0 e1 e2 e3 e4 e5 e6 e7 f0 f1 f2 f3 f4 f5 f6 f7 r) (K9 e0 e1 e2 e3 e4 e5 e6 e7 f0 f1 f2 f3 f4 f5 f6 f7 r) then 0 else bif e6 == 0 then bif decide (JPU e0 e1 e2 e3 e4 e5 e6 e7 f0 f1 f2 f3 f4 f5 f6 f7 r ≤ 0) then 0 else K9 e0 e1 e2 e3 e4 e5 e6 e7 f0 f1 f2 f3 f4 f5 f6 f7 r else bif !QO (JH e0 e2 e4 false) (JH e1 e3 e5 false) (JH e0 e2 e4 true) (JH e1 e3 e5 true) (J1 (KE e0 e1 e2 e3 e4 e5 e6 e7 f0 f1 f2 f3 f4 f5 f6 f7 r) e4) (J1 (K9 e0 e1 e2 e3 e4 e5 e6 e7 f0 f1 f2 f3 f4 f5 f6 f7 r) e5) e6 e7 || XF (JH e0 e2 e4 false) (JH e1 e3 e5 false) (J1 (KE e0 e1 e2 e3 e4 e5 e6 e7 f0 f1 f2 f3 f4 f5 f6 f7 r) e4) (J1 (K9 e0 e1 e2 e3 e4 e5 e6 e7 f0 f1 f2 f3 f4 f5 f6 f7 r) e5) then 0 else K9 e0 e1 e2 e3 e4 e5 e6 e7 f0 f1 f2 f3 f4 f5 f6 f7 r
def JEP:Int:= bif Qd e0 e1 e2 e3 e4 e5 e6 r != 0 then Qd e0 e1 e2 e3 e4 e5 e6 r else bif Qd f0 f1 f2 f3 f4 f5 f6 r != 0 then Qd f0 f1 f2 f3 f4 f5 f6 r else bif !XC e0 e1 e2 e3 e4 e5 e6 (Xm f0 f1 f2 f3 f4 f5 f6 r) (Xk f0 f1 f2 f3 f4 f5 f6 r) r then 16 else bif !QR (KE e0 e1 e2 e3 e4 e5 e6 e7 f0 f1 f2 f3 f4 f5 f6 f7 r) (K9 e0 e1 e2 e3 e4 e5 e6 e7 f0 f1 f2 f3 f4 f5 f6 f7 r) then 3 else bif e6 == 0 then bif decide (JPU e0 e1 e2 e3 e4 e5 e6 e7 f0 f1 f2 f3 f4 f5 f6 f7 r ≤ 0) then 16 else 0 else bif !QO (JH e0 e2 e4 false) (JH e1 e3 e5 false) (JH e0 e2 e4 true) (JH e1 e3 e5 true) (J1 (KE e0 e1 e2 e3 e4 e5 e6 e7 f0 f1 f2 f3 f4 f5 f6 f7 r) e4) (J1 (K9 e0 e1 e2 e3 e4 e5 e6 e7 f0 f1 f2 f3 f4 f5 f6 f7 r) e5) e6 e7 || XF (JH e0 e2 e4 false) (JH e1 e3 e5 false) (J1 (KE e0 e1 e2 e3 e4 e5 e6 e7 f0 f1 f2 f3 f4 f5 f6 f7 r) e4) (J1 (K9 e0 e1 e2 e3 e4 e5 e6 e7 f0 f1 f2 f3 f4 f5 f6 f7 r) e5) then 16 else 0
def JE7:List Prop:= [(Qd e0 e1 e2 e3 e4 e5 e6 r != 0) = false → (Qd f0 f1 f2 f3 f4 f5 f6 r != 0) = false → (!XC e0 e1 e2 e3 e4 e5 e6 (Xm f0 f1 f2 f3 f4 f5 f6 r) (Xk f0 f1 f2 f3 f4 f5 f6 r) r) = false → (-1048576 ≤ Kg f0 f1 f2 f3 f4 f5 f6 r ∧ Kg f0 f1 f2 f3 f4 f5 f6 r ≤ 1048576) ∧ (-1048576 ≤ Kd f0 f1 f2 f3 f4 f5 f6 r ∧ Kd f0 f1 f2 f3 f4 f5 f6 r ≤ 1048576) ∧ (-1048576 ≤ Xm f0 f1 f2 f3 f4 f5 f6 r ∧ Xm f0 f1 f2 f3 f4 f5 f6 r ≤ 1048576) ∧ -1048576 ≤ Xk f0 f1 f2 f3 f4 f5 f6 r ∧ Xk f0 f1 f2 f3 f4 f5 f6 r ≤ 1048576]
end
theorem Jjy {e0:Int} {e1:Int} {e2:Int} {e3:Int} {e4:Int} {e5:Int} {e6:Int} {f0:Int} {f1:Int} {f2:Int} {f3:Int} {f4:Int} {f5:Int} {f6:Int} {r:Int}:∀ q ∈ (JE7 e0 e1 e2 e3 e4 e5 e6 f0 f1 f2 f3 f4 f5 f6 r),q := by
  unfold JE7
  simp only [awc,awn,and_true]
  intro _ _ _
  exact JtN _ _ _ _ _ _ _ _
theorem Jlk (e0 e1 e2 e3 e4 e5 e6:Int) (e7:Bool) (f0 f1 f2 f3 f4 f5 f6:Int) (f7:Bool) (r:Int) (hNeeds:∀ pN ∈ (JE7 e0 e1 e2 e3 e4 e5 e6 f0 f1 f2 f3 f4 f5 f6 r),pN):Runs (Jm (JC JdY) XQ 91) (JEy.args [.i e0,.i e1,.i e2,.i e3,.i e4,.i e5,.i e6,.b e7,.i f0,.i f1,.i f2,.i f3,.i f4,.i f5,.i f6,.b f7,.i r]) (JEy.memo [.i e0,.i e1,.i e2,.i e3,.i e4,.i e5,.i e6,.b e7,.i f0,.i f1,.i f2,.i f3,.i f4,.i f5,.i f6,.b f7,.i r] []) JEy.n (SV.tup [(true,[Ci (Wn e0 e1 e2 e3 e4 e5 e6 e7 f0 f1 f2 f3 f4 f5 f6 f7 r),Ci (j9 e0 e1 e2 e3 e4 e5 e6 e7 f0 f1 f2 f3 f4 f5 f6 f7 r)]),(false,[Ci (JEP e0 e1 e2 e3 e4 e5 e6 e7 f0 f1 f2 f3 f4 f5 f6 f7 r)])]) ([]) :=
  Runs.of1 (ps := (JE7 e0 e1 e2 e3 e4 e5 e6 f0 f1 f2 f3 f4 f5 f6 r)) (by kernel_rfl) hNeeds
def JR1:List Pm → Qs → Option CRes
  | [.i e0,.i e1,.i e2,.i e3,.i e4,.i e5,.i e6,.b e7,.i f0,.i f1,.i f2,.i f3,.i f4,.i f5,.i f6,.b f7,.i r],[] => some ⟨SV.tup [(true,[Ci (Wn e0 e1 e2 e3 e4 e5 e6 e7 f0 f1 f2 f3 f4 f5 f6 f7 r),Ci (j9 e0 e1 e2 e3 e4 e5 e6 e7 f0 f1 f2 f3 f4 f5 f6 f7 r)]),(false,[Ci (JEP e0 e1 e2 e3 e4 e5 e6 e7 f0 f1 f2 f3 f4 f5 f6 f7 r)])],
 [],[],[],21877⟩
  | _,_ => none
theorem Jt9:Ql Tryz.prog 91 (JU JEy JR1) := by
  refine JI (JE JTC 91) fun ps ls r hr hn _ => ?_
  unfold JR1 at hr
  split at hr
  · cases hr; exact ⟨_,Jlk _ _ _ _ _ _ _ _ _ _ _ _ _ _ _ _ _ (fun p hp => Jjy p hp),fun _ => rfl⟩
  · cases hr
def Jf4:List (Nat × JY) := (91,JU JEy JR1) :: JdY
theorem JTX:Known Tryz.prog (JC Jf4) XQ := J7 JTC Jt9
def JIa:Tpl := ⟨[.one (.int .i64)],[],0⟩
theorem JoN (k:Int):Runs (Jm (JC Jf4) XQ 30) (JIa.args [.i k]) (JIa.memo [.i k] []) JIa.n (SV.one (Cb (J3 k))) ([]) :=
  Runs.of1 (ps := []) (by kernel_rfl) (by simp)
def JYY:List Pm → Qs → Option CRes
  | [.i k],[] => some ⟨SV.one (Cb (J3 k)),
 [],[],[],8⟩
  | _,_ => none
theorem JvK:Ql Tryz.prog 30 (JU JIa JYY) := by
  refine JI (JE JTX 30) fun ps ls r hr hn _ => ?_
  unfold JYY at hr
  split at hr
  · cases hr; exact ⟨_,JoN _,fun _ => rfl⟩
  · cases hr
def Jlw:List (Nat × JY) := (30,JU JIa JYY) :: Jf4
theorem JXx:Known Tryz.prog (JC Jlw) XQ := J7 JTX JvK
def JKB:Tpl := ⟨[.one (.int .i64),.one (.int .i64)],[],0⟩
theorem Jpq (n m:Int):Runs (Jm (JC Jlw) XQ 55) (JKB.args [.i n,.i m]) (JKB.memo [.i n,.i m] []) JKB.n (SV.one (Cb (Jd n m))) ([]) :=
  Runs.of1 (ps := []) (by kernel_rfl) (by simp)
def JY2:List Pm → Qs → Option CRes
  | [.i n,.i m],[] => some ⟨SV.one (Cb (Jd n m)),
 [],[],[],11⟩
  | _,_ => none
theorem JvS:Ql Tryz.prog 55 (JU JKB JY2) := by
  refine JI (JE JXx 55) fun ps ls r hr hn _ => ?_
  unfold JY2 at hr
  split at hr
  · cases hr; exact ⟨_,Jpq _ _,fun _ => rfl⟩
  · cases hr
def Jlb:List (Nat × JY) := (55,JU JKB JY2) :: Jlw
theorem JZ3:Known Tryz.prog (JC Jlb) XQ := J7 JXx JvS
def Ws:Tpl := ⟨[.agg [.int .i64,.int .i64,.int .i64]],[],0⟩
def Ky (a b c:Int):Bool := Jd a 1048576 && Jd b 1048576 && Jd c 1048576
theorem Jbe (a b c:Int):Runs (Jm (JC Jlb) XQ 41) (Ws.args [.i a,.i b,.i c]) (Ws.memo [.i a,.i b,.i c] []) Ws.n (SV.one (Cb (Ky a b c))) ([]) :=
  Runs.of1 (ps := []) (by kernel_rfl) (by simp)
def JHa:List Pm → Qs → Option CRes
  | [.i a,.i b,.i c],[] => some ⟨SV.one (Cb (Ky a b c)),
 [],[],[],53⟩
  | _,_ => none
theorem Jgk:Ql Tryz.prog 41 (JU Ws JHa) := by
  refine JI (JE JZ3 41) fun ps ls r hr hn _ => ?_
  unfold JHa at hr
  split at hr
  · cases hr; exact ⟨_,Jbe _ _ _,fun _ => rfl⟩
  · cases hr
def JNF:List (Nat × JY) := (41,JU Ws JHa) :: Jlb
theorem JK9:Known Tryz.prog (JC JNF) XQ := J7 JZ3 Jgk
def kf:Tpl := ⟨[.one (.int .i64)],[],0⟩
def JCF (p:Int):Bool := p == 17 || p == 18 || p == 19
theorem JgP (p:Int):Runs (Jm (JC JNF) XQ 42) (kf.args [.i p]) (kf.memo [.i p] []) kf.n (SV.one (Cb (JCF p))) ([]) :=
  Runs.of1 (ps := []) (by kernel_rfl) (by simp)
def JKD:List Pm → Qs → Option CRes
  | [.i p],[] => some ⟨SV.one (Cb (JCF p)),
 [],[],[],12⟩
  | _,_ => none
theorem JlX:Ql Tryz.prog 42 (JU kf JKD) := by
  refine JI (JE JK9 42) fun ps ls r hr hn _ => ?_
  unfold JKD at hr
  split at hr
  · cases hr; exact ⟨_,JgP _,fun _ => rfl⟩
  · cases hr
def JS8:List (Nat × JY) := (42,JU kf JKD) :: JNF
theorem JLv:Known Tryz.prog (JC JS8) XQ := J7 JK9 JlX
def JCk:Tpl := ⟨[.one (.int .i64),.agg [.int .i64,.int .i64,.int .i64]],[],0⟩
theorem Jgf (p a b c:Int):Runs (Jm (JC JS8) XQ 77) (JCk.args [.i p,.i a,.i b,.i c]) (JCk.memo [.i p,.i a,.i b,.i c] []) JCk.n (SV.tup [(true,[Ci (J4 p a b c),Ci (J5 p a b c)]),(false,[Ci (J9 p a b c)]),(false,[Cb (Kk p)])]) ([]) :=
  Runs.of1 (ps := []) (by kernel_rfl) (by simp)
def JMU:List Pm → Qs → Option CRes
  | [.i p,.i a,.i b,.i c],[] => some ⟨SV.tup [(true,[Ci (J4 p a b c),Ci (J5 p a b c)]),(false,[Ci (J9 p a b c)]),(false,[Cb (Kk p)])],
 [],[],[],66⟩
  | _,_ => none
theorem Jp9:Ql Tryz.prog 77 (JU JCk JMU) := by
  refine JI (JE JLv 77) fun ps ls r hr hn _ => ?_
  unfold JMU at hr
  split at hr
  · cases hr; exact ⟨_,Jgf _ _ _ _,fun _ => rfl⟩
  · cases hr
def JZ1:List (Nat × JY) := (77,JU JCk JMU) :: JS8
theorem JPS:Known Tryz.prog (JC JZ1) XQ := J7 JLv Jp9
def JK4:Tpl := ⟨[.one (.int .i64),.agg [.int .i64,.int .i64,.int .i64]],[],0⟩
theorem Jpx (p a b c:Int):Runs (Jm (JC JZ1) XQ 78) (JK4.args [.i p,.i a,.i b,.i c]) (JK4.memo [.i p,.i a,.i b,.i c] []) JK4.n (SV.agg [Ci (J4 p a b c),Ci (J5 p a b c)]) ([]) :=
  Runs.of1 (ps := []) (by kernel_rfl) (by simp)
def JXU:List Pm → Qs → Option CRes
  | [.i p,.i a,.i b,.i c],[] => some ⟨SV.agg [Ci (J4 p a b c),Ci (J5 p a b c)],
 [],[],[],95⟩
  | _,_ => none
theorem Jvj:Ql Tryz.prog 78 (JU JK4 JXU) := by
  refine JI (JE JPS 78) fun ps ls r hr hn _ => ?_
  unfold JXU at hr
  split at hr
  · cases hr; exact ⟨_,Jpx _ _ _ _,fun _ => rfl⟩
  · cases hr
def Jln:List (Nat × JY) := (78,JU JK4 JXU) :: JZ1
theorem Jag:Known Tryz.prog (JC Jln) XQ := J7 JPS Jvj
def JOM:Tpl := ⟨[.one (.int .i64),.agg [.int .i64,.int .i64,.int .i64]],[],0⟩
theorem Js5 (p a b c:Int):Runs (Jm (JC Jln) XQ 56) (JOM.args [.i p,.i a,.i b,.i c]) (JOM.memo [.i p,.i a,.i b,.i c] []) JOM.n (SV.one (Ci (J9 p a b c))) ([]) :=
  Runs.of1 (ps := []) (by kernel_rfl) (by simp)
def Je2:List Pm → Qs → Option CRes
  | [.i p,.i a,.i b,.i c],[] => some ⟨SV.one (Ci (J9 p a b c)),
 [],[],[],90⟩
  | _,_ => none
theorem JxP:Ql Tryz.prog 56 (JU JOM Je2) := by
  refine JI (JE Jag 56) fun ps ls r hr hn _ => ?_
  unfold Je2 at hr
  split at hr
  · cases hr; exact ⟨_,Js5 _ _ _ _,fun _ => rfl⟩
  · cases hr
def Jro:List (Nat × JY) := (56,JU JOM Je2) :: Jln
theorem Jcq:Known Tryz.prog (JC Jro) XQ := J7 Jag JxP
def qJ:Tpl := ⟨[.one (.int .i64),.agg [.int .i64,.int .i64],.one (.int .i64)],[],0⟩
theorem JgI (p u w h:Int):Runs (Jm (JC Jro) XQ 76) (qJ.args [.i p,.i u,.i w,.i h]) (qJ.memo [.i p,.i u,.i w,.i h] []) qJ.n (SV.tup [(true,[Ci (JQ p u w h),Ci (JR p u w h),Ci (JS p u w h)]),(false,[Cb (Kk p)])]) ([]) :=
  Runs.of1 (ps := []) (by kernel_rfl) (by simp)
def JJE:List Pm → Qs → Option CRes
  | [.i p,.i u,.i w,.i h],[] => some ⟨SV.tup [(true,[Ci (JQ p u w h),Ci (JR p u w h),Ci (JS p u w h)]),(false,[Cb (Kk p)])],
 [],[],[],65⟩
  | _,_ => none
theorem Jkb:Ql Tryz.prog 76 (JU qJ JJE) := by
  refine JI (JE Jcq 76) fun ps ls r hr hn _ => ?_
  unfold JJE at hr
  split at hr
  · cases hr; exact ⟨_,JgI _ _ _ _,fun _ => rfl⟩
  · cases hr
def JPw:List (Nat × JY) := (76,JU qJ JJE) :: Jro
theorem JM1:Known Tryz.prog (JC JPw) XQ := J7 Jcq Jkb
def JJV:Tpl := ⟨[.one (.int .i64),.agg [.int .i64,.int .i64],.one (.int .i64)],[],0⟩
theorem JpL (p u w h:Int):Runs (Jm (JC JPw) XQ 53) (JJV.args [.i p,.i u,.i w,.i h]) (JJV.memo [.i p,.i u,.i w,.i h] []) JJV.n (SV.agg [Ci (JQ p u w h),Ci (JR p u w h),Ci (JS p u w h)]) ([]) :=
  Runs.of1 (ps := []) (by kernel_rfl) (by simp)
def Jam:List Pm → Qs → Option CRes
  | [.i p,.i u,.i w,.i h],[] => some ⟨SV.agg [Ci (JQ p u w h),Ci (JR p u w h),Ci (JS p u w h)],
 [],[],[],96⟩
  | _,_ => none
theorem JvY:Ql Tryz.prog 53 (JU JJV Jam) := by
  refine JI (JE JM1 53) fun ps ls r hr hn _ => ?_
  unfold Jam at hr
  split at hr
  · cases hr; exact ⟨_,JpL _ _ _ _,fun _ => rfl⟩
  · cases hr
def JlH:List (Nat × JY) := (53,JU JJV Jam) :: JPw
theorem JVe:Known Tryz.prog (JC JlH) XQ := J7 JM1 JvY
def JP7:Tpl := ⟨[.agg [.int .i64,.int .i64],.agg [.int .i64,.int .i64],.one (.bool)],[],0⟩
section
variable (a b c d:Int) (e:Bool)
def JAC:Int:= bif decide (J8 a b a b > J8 c d c d) then J8 c d c d else J8 a b a b
def Wr:Int:= IntKind.i64.wrap (IntKind.i64.wrap ((bif decide (J8 a b a b > J8 c d c d) then J8 a b a b else J8 c d c d) - JAC a b c d) - 16)
def JcE:Bool:= bif decide (JAC a b c d < 64) then false else bif decide (Wr a b c d > 0) && decide (JHK (Wr a b c d) (Wr a b c d) 64 (JAC a b c d) > 0) then false else bif e then a == c && b == d else !(JF a b c d == 0 && decide (J8 a b c d > 0))
def JdZ:Prop:= decide (Wr a b c d > 0) = true
def JKx:List Prop:= [decide (JAC a b c d < 64) = false → (JdZ a b c d → -9223372036854775808 ≤ Wr a b c d ∧ Wr a b c d < 9223372036854775808) ∧ (JdZ a b c d → -9223372036854775808 ≤ Wr a b c d ∧ Wr a b c d < 9223372036854775808) ∧ (JdZ a b c d → -9223372036854775808 ≤ 64 ∧ Int.ofNat 64 < 9223372036854775808) ∧ (JdZ a b c d → -9223372036854775808 ≤ JAC a b c d ∧ JAC a b c d < 9223372036854775808)]
end
theorem JtS {a:Int} {b:Int} {c:Int} {d:Int}:∀ q ∈ (JKx a b c d),q := by
  intro q hq
  unfold JKx at hq
  simp only [List.mem_cons,List.not_mem_nil,or_false] at hq
  subst hq
  intro _
  have h0:Xa (JAC a b c d) := by
    unfold JAC
    cases decide (J8 a b a b > J8 c d c d)
    · exact Jk _
    · exact Jk _
  have h1:Xa (Wr a b c d) := Jk _
  exact ⟨fun _ => h1,fun _ => h1,fun _ => ⟨by decide,by decide⟩,fun _ => h0⟩
theorem Juc (a b c d:Int) (e:Bool) (hNeeds:∀ pN ∈ (JKx a b c d),pN):Runs (Jm (JC JlH) XQ 58) (JP7.args [.i a,.i b,.i c,.i d,.b e]) (JP7.memo [.i a,.i b,.i c,.i d,.b e] []) JP7.n (SV.one (Cb (JcE a b c d e))) ([]) :=
  Runs.of1 (ps := (JKx a b c d)) (by kernel_rfl) hNeeds
def Jg9:List Pm → Qs → Option CRes
  | [.i a,.i b,.i c,.i d,.b e],[] => some ⟨SV.one (Cb (JcE a b c d e)),
 [],[],[],539⟩
  | _,_ => none
theorem Jx8:Ql Tryz.prog 58 (JU JP7 Jg9) := by
  refine JI (JE JVe 58) fun ps ls r hr hn _ => ?_
  unfold Jg9 at hr
  split at hr
  · cases hr; exact ⟨_,Juc _ _ _ _ _ (fun p hp => JtS p hp),fun _ => rfl⟩
  · cases hr
def JrP:List (Nat × JY) := (58,JU JP7 Jg9) :: JlH
theorem JdA:Known Tryz.prog (JC JrP) XQ := J7 JVe Jx8
def ka:Tpl := ⟨[.agg pI],[],0⟩
theorem Jep (k bl f0 f1 f2 t0 t1 t2 p c0 c1 c2 d:Int) (fu:Bool) (fe:Int) (pr:Bool) (si ra be n sp:Int) (on:Bool):Runs (Jm (JC JrP) XQ 57) (ka.args [.i k,.i bl,.i f0,.i f1,.i f2,.i t0,.i t1,.i t2,.i p,.i c0,.i c1,.i c2,.i d,.b fu,.i fe,.b pr,.i si,.i ra,.i be,.i n,.i sp,.b on]) (ka.memo [.i k,.i bl,.i f0,.i f1,.i f2,.i t0,.i t1,.i t2,.i p,.i c0,.i c1,.i c2,.i d,.b fu,.i fe,.b pr,.i si,.i ra,.i be,.i n,.i sp,.b on] []) ka.n (SV.tup [(true,[Ci (J1 (J4 p f0 f1 f2) (J4 p c0 c1 c2)),Ci (J1 (J5 p f0 f1 f2) (J5 p c0 c1 c2))]),(true,[Ci (J1 (J4 p t0 t1 t2) (J4 p c0 c1 c2)),Ci (J1 (J5 p t0 t1 t2) (J5 p c0 c1 c2))])]) ([]) :=
  Runs.of1 (ps := []) (by kernel_rfl) (by simp)
def JJ9:List Pm → Qs → Option CRes
  | [.i k,.i bl,.i f0,.i f1,.i f2,.i t0,.i t1,.i t2,.i p,.i c0,.i c1,.i c2,.i d,.b fu,.i fe,.b pr,.i si,.i ra,.i be,.i n,.i sp,.b on],[] => some ⟨SV.tup [(true,[Ci (J1 (J4 p f0 f1 f2) (J4 p c0 c1 c2)),Ci (J1 (J5 p f0 f1 f2) (J5 p c0 c1 c2))]),(true,[Ci (J1 (J4 p t0 t1 t2) (J4 p c0 c1 c2)),Ci (J1 (J5 p t0 t1 t2) (J5 p c0 c1 c2))])],
 [],[],[],401⟩
  | _,_ => none
theorem Jjo:Ql Tryz.prog 57 (JU ka JJ9) := by
  refine JI (JE JdA 57) fun ps ls r hr hn _ => ?_
  unfold JJ9 at hr
  split at hr
  · cases hr; exact ⟨_,Jep _ _ _ _ _ _ _ _ _ _ _ _ _ _ _ _ _ _ _ _ _ _,fun _ => rfl⟩
  · cases hr
def JS0:List (Nat × JY) := (57,JU ka JJ9) :: JrP
theorem JLV:Known Tryz.prog (JC JS0) XQ := J7 JdA Jjo
def JCV:Tpl := ⟨[.agg pI],[],0⟩
def WJ (k f0 f1 f2 t0 t1 t2 p c0 c1 c2 d:Int) (fu:Bool):Int := bif k != 3 || !JCF p || !Ky f0 f1 f2 || !Ky t0 t1 t2 || !Ky c0 c1 c2 || d != 1 && d != -1 || J9 p f0 f1 f2 != J9 p c0 c1 c2 then 1 else bif !JcE (J1 (J4 p f0 f1 f2) (J4 p c0 c1 c2)) (J1 (J5 p f0 f1 f2) (J5 p c0 c1 c2)) (J1 (J4 p t0 t1 t2) (J4 p c0 c1 c2)) (J1 (J5 p t0 t1 t2) (J5 p c0 c1 c2)) fu then 12 else 0
theorem Jgd (k bl f0 f1 f2 t0 t1 t2 p c0 c1 c2 d:Int) (fu:Bool) (fe:Int) (pr:Bool) (si ra be n sp:Int) (on:Bool):Runs (Jm (JC JS0) XQ 44) (JCV.args [.i k,.i bl,.i f0,.i f1,.i f2,.i t0,.i t1,.i t2,.i p,.i c0,.i c1,.i c2,.i d,.b fu,.i fe,.b pr,.i si,.i ra,.i be,.i n,.i sp,.b on]) (JCV.memo [.i k,.i bl,.i f0,.i f1,.i f2,.i t0,.i t1,.i t2,.i p,.i c0,.i c1,.i c2,.i d,.b fu,.i fe,.b pr,.i si,.i ra,.i be,.i n,.i sp,.b on] []) JCV.n (SV.one (Ci (WJ k f0 f1 f2 t0 t1 t2 p c0 c1 c2 d fu))) ([]) :=
  Runs.of1 (ps := []) (by kernel_rfl) (by simp)
def JMs:List Pm → Qs → Option CRes
  | [.i k,.i bl,.i f0,.i f1,.i f2,.i t0,.i t1,.i t2,.i p,.i c0,.i c1,.i c2,.i d,.b fu,.i fe,.b pr,.i si,.i ra,.i be,.i n,.i sp,.b on],[] => some ⟨SV.one (Ci (WJ k f0 f1 f2 t0 t1 t2 p c0 c1 c2 d fu)),
 [],[],[],1394⟩
  | _,_ => none
theorem Jpl:Ql Tryz.prog 44 (JU JCV JMs) := by
  refine JI (JE JLV 44) fun ps ls r hr hn _ => ?_
  unfold JMs at hr
  split at hr
  · cases hr; exact ⟨_,Jgd _ _ _ _ _ _ _ _ _ _ _ _ _ _ _ _ _ _ _ _ _ _,fun _ => rfl⟩
  · cases hr
def JWO:List (Nat × JY) := (44,JU JCV JMs) :: JS0
theorem JPe:Known Tryz.prog (JC JWO) XQ := J7 JLV Jpl
def JGh:Tpl := ⟨[.one (.int .i64),.one (.int .i64),.one (.int .i64)],[],0⟩
def KG (n m k:Int):Bool := decide (n ≥ m) && decide (n ≤ k)
theorem Jl8 (n m k:Int):Runs (Jm (JC JWO) XQ 39) (JGh.args [.i n,.i m,.i k]) (JGh.memo [.i n,.i m,.i k] []) JGh.n (SV.one (Cb (KG n m k))) ([]) :=
  Runs.of1 (ps := []) (by kernel_rfl) (by simp)
def JT1:List Pm → Qs → Option CRes
  | [.i n,.i m,.i k],[] => some ⟨SV.one (Cb (KG n m k)),
 [],[],[],10⟩
  | _,_ => none
theorem JrV:Ql Tryz.prog 39 (JU JGh JT1) := by
  refine JI (JE JPe 39) fun ps ls r hr hn _ => ?_
  unfold JT1 at hr
  split at hr
  · cases hr; exact ⟨_,Jl8 _ _ _,fun _ => rfl⟩
  · cases hr
def JeM:List (Nat × JY) := (39,JU JGh JT1) :: JWO
theorem JUU:Known Tryz.prog (JC JeM) XQ := J7 JPe JrV
def kA:Tpl := ⟨[.agg pI],[],0⟩
def JHt:List GK := [.v Q5]
section
variable (x:List GC)
def JSQ:Int:= bif J3 (xi x 0) then xi x 2 else 0
def JRG:Int:= bif J3 (xi x 0) then xi x 3 else 0
def JRY:Int:= bif J3 (xi x 0) then xi x 4 else 0
def JPl:Int:= bif J3 (xi x 0) then xi x 5 else 0
def JSG:Int:= bif J3 (xi x 0) then xi x 6 else 0
def JR7:Int:= bif J3 (xi x 0) then xi x 7 else 0
def JPm:Int:= bif bif xi x 0 == 1 then xi x 0 == 1 else bif xi x 0 == 2 then xi x 0 == 2 else xi x 0 == 3 then xi x 8 else 0
def JSF:Int:= bif xi x 0 == 2 then 0 else bif xi x 0 == 3 then xi x 9 else 0
def JMj:Int:= bif xi x 0 == 2 then 0 else bif xi x 0 == 3 then xi x 10 else 0
def JM8:Int:= bif xi x 0 == 2 then 0 else bif xi x 0 == 3 then xi x 11 else 0
def JNE:Int:= bif xi x 0 == 2 then 0 else bif xi x 0 == 3 then xi x 12 else 0
def JMT:Bool:= bif xi x 0 == 2 then false else xi x 0 == 3 && xb x 13
def JN8:Int:= bif KG (xi x 0) 2 6 then xi x 14 else 0
def JMX:Bool:= KG (xi x 0) 2 6 && xb x 15
def JMA:Int:= bif bif xi x 0 == 1 then xi x 0 == 1 else bif xi x 0 == 2 then xi x 0 == 2 else xi x 0 == 3 then xi x 16 else 0
def JMv:Int:= bif bif xi x 0 == 1 then xi x 0 == 1 else bif xi x 0 == 2 then xi x 0 == 2 else xi x 0 == 3 then xi x 17 else 0
def JMd:Int:= bif xi x 0 == 2 then xi x 18 else bif xi x 0 == 3 then xi x 18 else 0
def JMI:Int:= bif xi x 0 == 2 then 0 else bif xi x 0 == 3 then 0 else bif bif xi x 0 == 6 then xi x 0 == 6 else bif xi x 0 == 7 then xi x 0 == 7 else xi x 0 == 11 then xi x 19 else bif xi x 0 == 8 then xi x 19 else bif bif xi x 0 == 9 then xi x 0 == 9 else xi x 0 == 10 then xi x 19 else 0
def JNA:Int:= bif xi x 0 == 2 then 0 else bif xi x 0 == 3 then 0 else bif bif xi x 0 == 6 then xi x 0 == 6 else bif xi x 0 == 7 then xi x 0 == 7 else xi x 0 == 11 then 0 else bif xi x 0 == 8 then xi x 20 else 0
def JNN:Bool:= bif xi x 0 == 2 then false else bif xi x 0 == 3 then false else bif bif xi x 0 == 6 then xi x 0 == 6 else bif xi x 0 == 7 then xi x 0 == 7 else xi x 0 == 11 then false else bif xi x 0 == 8 then false else (bif xi x 0 == 9 then xi x 0 == 9 else xi x 0 == 10) && xb x 21
end
theorem JeQ (x:List GC):Runs (Jm (JC JeM) XQ 40) (kA.args (Je JHt [.v x])) (kA.memo (Je JHt [.v x]) []) kA.n (SV.agg [Ci (xi x 0),Ci (xi x 1),Ci (JSQ x),Ci (JRG x),Ci (JRY x),Ci (JPl x),Ci (JSG x),Ci (JR7 x),Ci (JPm x),Ci (JSF x),Ci (JMj x),Ci (JM8 x),Ci (JNE x),Cb (JMT x),Ci (JN8 x),Cb (JMX x),Ci (JMA x),Ci (JMv x),Ci (JMd x),Ci (JMI x),Ci (JNA x),Cb (JNN x)]) ([]) :=
  Runs.of1 (ps := []) (by kernel_rfl) (by simp)
def JJw:List Gm → Qs → Option CRes
  | [.v x],[] => some ⟨SV.agg [Ci (xi x 0),Ci (xi x 1),Ci (JSQ x),Ci (JRG x),Ci (JRY x),Ci (JPl x),Ci (JSG x),Ci (JR7 x),Ci (JPm x),Ci (JSF x),Ci (JMj x),Ci (JM8 x),Ci (JNE x),Cb (JMT x),Ci (JN8 x),Cb (JMX x),Ci (JMA x),Ci (JMv x),Ci (JMd x),Ci (JMI x),Ci (JNA x),Cb (JNN x)],
 [],[],[],307⟩
  | _,_ => none
theorem Jjr:Ql Tryz.prog 40 (Z7 JHt kA JJw) := by
  refine Qg (JE JUU 40) fun ps ls r hr hn _ => ?_
  unfold JJw at hr
  split at hr
  · cases hr; exact ⟨_,JeQ _,fun _ => rfl⟩
  · cases hr
def JSf:List (Nat × JY) := (40,Z7 JHt kA JJw) :: JeM
theorem JLs:Known Tryz.prog (JC JSf) XQ := J7 JUU Jjr
def JCO:Tpl := ⟨[.agg pI],[],0⟩
def JL7:List GK := [.v Q5]
def JVk (x:List GC):Bool := bif xi x 0 == 5 then xb x 15 else bif xi x 0 == 6 then xb x 15 && KG (xi x 19) 3 4 else bif xi x 0 == 7 then KG (xi x 19) 0 60000 else bif xi x 0 == 8 then KG (xi x 19) 3 5 && KG (xi x 20) 0 30000 && (xi x 19 != 5 || xi x 20 == 0) else bif xi x 0 == 9 then KG (xi x 19) 7 8 else bif xi x 0 == 10 then KG (xi x 19) 0 15 else bif xi x 0 == 11 then KG (xi x 19) 0 32 else true
theorem Jix (x:List GC):Runs (Jm (JC JSf) XQ 43) (JCO.args (Je JL7 [.v x])) (JCO.memo (Je JL7 [.v x]) []) JCO.n (SV.one (Cb (JVk x))) ([]) :=
  Runs.of1 (ps := []) (by kernel_rfl) (by simp)
def JMY:List Gm → Qs → Option CRes
  | [.v x],[] => some ⟨SV.one (Cb (JVk x)),
 [],[],[],158⟩
  | _,_ => none
theorem Joq:Ql Tryz.prog 43 (Z7 JL7 JCO JMY) := by
  refine Qg (JE JLs 43) fun ps ls r hr hn _ => ?_
  unfold JMY at hr
  split at hr
  · cases hr; exact ⟨_,Jix _,fun _ => rfl⟩
  · cases hr
def JWt:List (Nat × JY) := (43,Z7 JL7 JCO JMY) :: JSf
theorem JPI:Known Tryz.prog (JC JWt) XQ := J7 JLs Joq
def JDL:Tpl := ⟨[.agg pI],[],0⟩
def JL3:List GK := [.v Q5]
def Qm (x:List GC):Bool := bif !KG (xi x 0) 1 14 || !KG (xi x 1) 0 1999 || !(xi x 0 == xi x 0 && (xi x 1 == xi x 1 && (JSQ (J2 x) == xi x 2 && (JRG (J2 x) == xi x 3 && (JRY (J2 x) == xi x 4 && (JPl (J2 x) == xi x 5 && (JSG (J2 x) == xi x 6 && (JR7 (J2 x) == xi x 7 && (JPm (J2 x) == xi x 8 && (JSF (J2 x) == xi x 9 && (JMj (J2 x) == xi x 10 && (JM8 (J2 x) == xi x 11 && (JNE (J2 x) == xi x 12 && (JMT (J2 x) == xb x 13 && (JN8 (J2 x) == xi x 14 && (JMX (J2 x) == xb x 15 && (JMA (J2 x) == xi x 16 && (JMv (J2 x) == xi x 17 && (JMd (J2 x) == xi x 18 && (JMI (J2 x) == xi x 19 && (JNA (J2 x) == xi x 20 && JNN (J2 x) == xb x 21))))))))))))))))))))) || !Ky (xi x 2) (xi x 3) (xi x 4) || !Ky (xi x 5) (xi x 6) (xi x 7) || !KG (xi x 18) 0 1000 || !KG (xi x 16) (-1) 1 then false else bif KG (xi x 0) 2 6 && !KG (xi x 14) 1 60000000 then false else bif xi x 16 == 0 && (xi x 17 != 0 || xi x 8 != 0 && xi x 0 != 3) || xi x 16 != 0 && (!JCF (xi x 8) || !KG (xi x 17) 0 32768) then false else JVk (J2 x) && (xi x 0 != 3 || WJ (xi x 0) (xi x 2) (xi x 3) (xi x 4) (xi x 5) (xi x 6) (xi x 7) (xi x 8) (xi x 9) (xi x 10) (xi x 11) (xi x 12) (xb x 13) == 0)
theorem Jii (x:List GC):Runs (Jm (JC JWt) XQ 29) (JDL.args (Je JL3 [.v x])) (JDL.memo (Je JL3 [.v x]) []) JDL.n (SV.one (Cb (Qm x))) ([]) :=
  Runs.of1 (ps := []) (by kernel_rfl) (by simp)
def JMa:List Gm → Qs → Option CRes
  | [.v x],[] => some ⟨SV.one (Cb (Qm x)),
 [],[],[],2172⟩
  | _,_ => none
theorem JpB:Ql Tryz.prog 29 (Z7 JL3 JDL JMa) := by
  refine Qg (JE JPI 29) fun ps ls r hr hn _ => ?_
  unfold JMa at hr
  split at hr
  · cases hr; exact ⟨_,Jii _,fun _ => rfl⟩
  · cases hr
def JYe:List (Nat × JY) := (29,Z7 JL3 JDL JMa) :: JWt
theorem JNZ:Known Tryz.prog (JC JYe) XQ := J7 JPI JpB
theorem Jtr (a b c d:Int) (e:Bool):(decide (J8 a b a b < 64) || decide (J8 c d c d < 64) || !jR (J8 a b a b) (J8 c d c d) || e && !(a == c && b == d) || !e && XF a b c d) = !JcE a b c d e := by
  have hx:Xa (J8 a b a b) := Jk _
  have hy:Xa (J8 c d c d) := Jk _
  unfold JcE
  have e0:JAC a b c d = if J8 c d c d < J8 a b a b then J8 c d c d else J8 a b a b := by
    unfold JAC
    by_cases g:J8 a b a b > J8 c d c d
    · rw [decide_eq_true g,cond_true,if_pos g]
    · rw [decide_eq_false g,cond_false,if_neg g]
  have e1:Wr a b c d = WU (J8 a b a b) (J8 c d c d) := by
    unfold Wr WU
    rw [e0]
    by_cases g:J8 a b a b > J8 c d c d
    · rw [decide_eq_true g,cond_true,if_neg (show ¬ J8 c d c d > J8 a b a b by omega)]
    · rw [decide_eq_false g,cond_false]
      by_cases g2:J8 c d c d > J8 a b a b
      · rw [if_pos g2]
      · rw [if_neg g2,show J8 c d c d = J8 a b a b by omega]
  have hm:Xa (if J8 c d c d < J8 a b a b then J8 c d c d else J8 a b a b) := by split <;> assumption
  have hs:Xa (WU (J8 a b a b) (J8 c d c d)) := Jk _
  have e2:(decide (Wr a b c d > 0) && decide (JHK (Wr a b c d) (Wr a b c d) 64 (JAC a b c d) > 0)) = !jR (J8 a b a b) (J8 c d c d) := by
    unfold jR JWs
    rw [e1,e0,JdG _ _ _ _ hs hs (by decide) hm,Jfj _ _ _ _ hs hs (by decide) hm]
    generalize KC _ _ = k
    generalize WU _ _ = s
    rw [Bool.eq_iff_iff]
    simp
  have e3:decide (JAC a b c d < 64) = (decide (J8 a b a b < 64) || decide (J8 c d c d < 64)) := by
    rw [e0,Bool.eq_iff_iff]
    simp only [Bool.or_eq_true,decide_eq_true_eq]
    split <;> omega
  have e4:XF a b c d = (JF a b c d == 0 && decide (J8 a b c d > 0)) := rfl
  rw [e2,e3,e4]
  generalize (decide (J8 a b a b < 64) || decide (J8 c d c d < 64)) = u
  generalize jR _ _ = v
  generalize (JF a b c d == 0 && decide (J8 a b c d > 0)) = w
  generalize (a == c && b == d) = z
  revert u v w z e
  decide
theorem JgX (p:Int):JCF p = Kk p := by
  unfold Kk JCF
  rw [Bool.or_assoc]
theorem JG0 (a b c:Int):Ky a b c = XK a b c := by
  unfold Ky XK Jd
  rw [show IntKind.i64.wrap (0 - 1048576) = -1048576 from by decide]
theorem JVs (k f0 f1 f2 t0 t1 t2 p c0 c1 c2 d:Int) (fu:Bool):XX k f0 f1 f2 t0 t1 t2 p c0 c1 c2 d fu = WJ k f0 f1 f2 t0 t1 t2 p c0 c1 c2 d fu := by
  unfold XX WJ
  rw [Jtr,JgX,JG0,JG0,JG0]
  rfl
theorem Jlr (k x1 x2 x3 x4 x5 x6 x7 x8 x9 x10 x11 x12 x14 x16 x17 x18 x19 x20 ac:Int) (b13 b15 b21 w1 w2 p:Bool) (h1:x2 = 0 → x3 = 0 → x4 = 0 → w1 = true) (h2:x5 = 0 → x6 = 0 → x7 = 0 → w2 = true) :
    (bif decide (x1 < 0) || decide (x1 ≥ 2000) then false
  else
   bif J3 k then
   bif
   !w1 || !w2 || x20 != 0 || b21 ||
   !bif x16 == 0 then x17 == 0 && (x8 == 0 || k == 3)
   else (k == 1 || k == 2 || k == 3) && p && (x16 == 1 || x16 == -1) && decide (x17 ≥ 0) && decide (x17 ≤ 32768) then
   false
   else
   bif k == 3 then bif ac != 0 then false else (bif k == 6 then bif x19 != 3 && x19 != 4 then false else (bif k == 1 then x14 == 0 && !b15 && x18 == 0 else bif decide (x14 < 1) || decide (x14 > 60000000) then false else bif bif k == 2 then k == 2 else k == 3 then decide (x18 ≥ 0) && decide (x18 ≤ 1000) else bif bif k == 5 then k == 5 else k == 6 then x18 == 0 && b15 else x18 == 0) else bif x19 != 0 then false else (bif k == 1 then x14 == 0 && !b15 && x18 == 0 else bif decide (x14 < 1) || decide (x14 > 60000000) then false else bif bif k == 2 then k == 2 else k == 3 then decide (x18 ≥ 0) && decide (x18 ≤ 1000) else bif bif k == 5 then k == 5 else k == 6 then x18 == 0 && b15 else x18 == 0))
   else bif !(x9 == 0 && (x10 == 0 && x11 == 0)) || x12 != 0 || b13 then false else (bif k == 6 then bif x19 != 3 && x19 != 4 then false else (bif k == 1 then x14 == 0 && !b15 && x18 == 0 else bif decide (x14 < 1) || decide (x14 > 60000000) then false else bif bif k == 2 then k == 2 else k == 3 then decide (x18 ≥ 0) && decide (x18 ≤ 1000) else bif bif k == 5 then k == 5 else k == 6 then x18 == 0 && b15 else x18 == 0) else bif x19 != 0 then false else (bif k == 1 then x14 == 0 && !b15 && x18 == 0 else bif decide (x14 < 1) || decide (x14 > 60000000) then false else bif bif k == 2 then k == 2 else k == 3 then decide (x18 ≥ 0) && decide (x18 ≤ 1000) else bif bif k == 5 then k == 5 else k == 6 then x18 == 0 && b15 else x18 == 0))
   else
   bif
   !(k == k && (x1 == x1 && (x2 == 0 && (x3 == 0 && (x4 == 0 && (x5 == 0 && (x6 == 0 && (x7 == 0 && (x8 == 0 && (x9 == 0 && (x10 == 0 && (x11 == 0 && (x12 == 0 && (b13 == false && (x14 == 0 && (b15 == false && (x16 == 0 && (x17 == 0 && (x18 == 0 && (x19 == x19 && (x20 == x20 && b21 == b21))))))))))))))))))))) then
   false
   else
   bif k == 8 then !b21 && decide (x19 ≥ 3) && decide (x19 ≤ 5) && decide (x20 ≥ 0) && decide (x20 ≤ 30000) && (x19 != 5 || x20 == 0)
   else
   bif k == 9 then x20 == 0 && (x19 == 7 || x19 == 8)
   else
   bif k == 10 then x20 == 0 && decide (x19 ≥ 0) && decide (x19 < 16)
   else
   bif k == 7 then !b21 && x20 == 0 && decide (x19 ≥ 0) && decide (x19 ≤ 60000)
   else
   bif k == 11 then !b21 && x20 == 0 && decide (x19 ≥ 0) && decide (x19 ≤ 32)
   else (bif k == 12 then k == 12 else bif k == 13 then k == 13 else k == 14) && (!b21 && x20 == 0 && x19 == 0)) =
    (bif
   !(decide (k ≥ 1) && decide (k ≤ 14)) || !(decide (x1 ≥ 0) && decide (x1 ≤ 1999)) ||
   !(k == k && (x1 == x1 &&
   ((bif J3 k then x2 else 0) == x2 &&
   ((bif J3 k then x3 else 0) == x3 &&
   ((bif J3 k then x4 else 0) == x4 &&
   ((bif J3 k then x5 else 0) == x5 &&
   ((bif J3 k then x6 else 0) == x6 &&
   ((bif J3 k then x7 else 0) == x7 &&
   ((bif bif k == 1 then k == 1 else bif k == 2 then k == 2 else k == 3 then x8 else 0) == x8 &&
   ((bif k == 2 then 0 else bif k == 3 then x9 else 0) == x9 &&
   ((bif k == 2 then 0 else bif k == 3 then x10 else 0) == x10 &&
   ((bif k == 2 then 0 else bif k == 3 then x11 else 0) == x11 &&
   ((bif k == 2 then 0 else bif k == 3 then x12 else 0) == x12 &&
   ((bif k == 2 then false else k == 3 && b13) == b13 &&
   ((bif (decide (k ≥ 2) && decide (k ≤ 6)) then x14 else 0) == x14 &&
   (((decide (k ≥ 2) && decide (k ≤ 6)) && b15) == b15 &&
   ((bif bif k == 1 then k == 1 else bif k == 2 then k == 2 else k == 3 then x16 else 0) == x16 &&
   ((bif bif k == 1 then k == 1 else bif k == 2 then k == 2 else k == 3 then x17 else 0) == x17 &&
   ((bif k == 2 then x18 else bif k == 3 then x18 else 0) == x18 &&
   ((bif k == 2 then 0 else bif k == 3 then 0 else bif bif k == 6 then k == 6 else bif k == 7 then k == 7 else k == 11 then x19 else bif k == 8 then x19 else bif bif k == 9 then k == 9 else k == 10 then x19 else 0) == x19 &&
   ((bif k == 2 then 0 else bif k == 3 then 0 else bif bif k == 6 then k == 6 else bif k == 7 then k == 7 else k == 11 then 0 else bif k == 8 then x20 else 0) == x20 &&
   (bif k == 2 then false else bif k == 3 then false else bif bif k == 6 then k == 6 else bif k == 7 then k == 7 else k == 11 then false else bif k == 8 then false else (bif k == 9 then k == 9 else k == 10) && b21) == b21))))))))))))))))))))) ||
   !w1 || !w2 || !(decide (x18 ≥ 0) && decide (x18 ≤ 1000)) || !(decide (x16 ≥ -1) && decide (x16 ≤ 1)) then
   false
  else
   bif (decide (k ≥ 2) && decide (k ≤ 6)) && !(decide (x14 ≥ 1) && decide (x14 ≤ 60000000)) then false
   else
   bif x16 == 0 && (x17 != 0 || x8 != 0 && k != 3) || x16 != 0 && (!p || !(decide (x17 ≥ 0) && decide (x17 ≤ 32768))) then false
   else (bif k == 5 then b15 else bif k == 6 then b15 && (decide (x19 ≥ 3) && decide (x19 ≤ 4)) else bif k == 7 then (decide (x19 ≥ 0) && decide (x19 ≤ 60000)) else bif k == 8 then (decide (x19 ≥ 3) && decide (x19 ≤ 5)) && (decide (x20 ≥ 0) && decide (x20 ≤ 30000)) && (x19 != 5 || x20 == 0) else bif k == 9 then (decide (x19 ≥ 7) && decide (x19 ≤ 8)) else bif k == 10 then (decide (x19 ≥ 0) && decide (x19 ≤ 15)) else bif k == 11 then (decide (x19 ≥ 0) && decide (x19 ≤ 32)) else true) && (k != 3 || ac == 0)) := by
  have hk:k < 1 ∨ 14 < k ∨ k = 1 ∨ k = 2 ∨ k = 3 ∨ k = 4 ∨ k = 5 ∨ k = 6 ∨ k = 7 ∨ k = 8 ∨ k = 9 ∨ k = 10 ∨ k = 11 ∨ k = 12 ∨ k = 13 ∨ k = 14 := by omega
  have two:∀ a b:Bool,(a = true ↔ b = true) → a = b := fun a b h => Bool.eq_iff_iff.2 h
  rcases hk with hk | hk | rfl | rfl | rfl | rfl | rfl | rfl | rfl | rfl | rfl | rfl | rfl | rfl | rfl | rfl
  · have e:∀ c:Int,1 ≤ c → c ≤ 14 → (k == c) = false := fun c h h' => by simpa using (by omega:¬ k = c)
    have c0:J3 k = false := by
      unfold J3
      rw [Bool.and_eq_false_iff,decide_eq_false_iff_not,decide_eq_false_iff_not]; omega
    have c1:(decide (k ≥ 1) && decide (k ≤ 14)) = false := by
      rw [Bool.and_eq_false_iff,decide_eq_false_iff_not,decide_eq_false_iff_not]; omega
    simp only [c0,c1,e 8 (by decide) (by decide),e 9 (by decide) (by decide),e 10 (by decide) (by decide),e 7 (by decide) (by decide),e 11 (by decide) (by decide),e 12 (by decide) (by decide),e 13 (by decide) (by decide),e 14 (by decide) (by decide),Bool.not_false,Bool.true_or,cond_true,cond_false,Bool.false_and]
    cases (decide (x1 < 0) || decide (x1 ≥ 2000)) <;> simp
  · have e:∀ c:Int,1 ≤ c → c ≤ 14 → (k == c) = false := fun c h h' => by simpa using (by omega:¬ k = c)
    have c0:J3 k = false := by
      unfold J3
      rw [Bool.and_eq_false_iff,decide_eq_false_iff_not,decide_eq_false_iff_not]; omega
    have c1:(decide (k ≥ 1) && decide (k ≤ 14)) = false := by
      rw [Bool.and_eq_false_iff,decide_eq_false_iff_not,decide_eq_false_iff_not]; omega
    simp only [c0,c1,e 8 (by decide) (by decide),e 9 (by decide) (by decide),e 10 (by decide) (by decide),e 7 (by decide) (by decide),e 11 (by decide) (by decide),e 12 (by decide) (by decide),e 13 (by decide) (by decide),e 14 (by decide) (by decide),Bool.not_false,Bool.true_or,cond_true,cond_false,Bool.false_and]
    cases (decide (x1 < 0) || decide (x1 ≥ 2000)) <;> simp
  all_goals
    refine two _ _ ?_
    simp only [show ∀ a b:Int,(a == b) = decide (a = b) from fun a b => rfl,bne]
    simp (config := {decide := true}) [J3,-Bool.not_eq_true]
    try grind
theorem JlE (x:List GC):Qf x = Qm x := by
  have h1:xi x 2 = 0 → xi x 3 = 0 → xi x 4 = 0 → XK (xi x 2) (xi x 3) (xi x 4) = true := fun a b c => by rw [a,b,c]; rfl
  have h2:xi x 5 = 0 → xi x 6 = 0 → xi x 7 = 0 → XK (xi x 5) (xi x 6) (xi x 7) = true := fun a b c => by rw [a,b,c]; rfl
  have := Jlr (xi x 0) (xi x 1) (xi x 2) (xi x 3) (xi x 4) (xi x 5) (xi x 6) (xi x 7) (xi x 8) (xi x 9) (xi x 10) (xi x 11) (xi x 12) (xi x 14) (xi x 16) (xi x 17) (xi x 18) (xi x 19) (xi x 20)
    (XX (xi x 0) (xi x 2) (xi x 3) (xi x 4) (xi x 5) (xi x 6) (xi x 7) (xi x 8) (xi x 9) (xi x 10) (xi x 11) (xi x 12) (xb x 13)) (xb x 13) (xb x 15) (xb x 21) (XK (xi x 2) (xi x 3) (xi x 4)) (XK (xi x 5) (xi x 6) (xi x 7)) (Kk (xi x 8)) h1 h2
  refine (show Qf x = _ from this).trans ?_
  unfold Qm
  rw [JG0,JG0,JgX,← JVs]
  rfl
def Jwf:List (Nat × Nat × Nat × Nat) := [(74,30,40,22)]
def JHn (S:FuncId → Option JY) (L:FuncId → Nat → Option QE) (f:FuncId):JY := JxG Jwf (JdP Jca (JcJ Tryz.prog (JdB Tryz.prog S L 100 10) 100 (L f) f))
theorem KI {S:FuncId → Option JY} {L:FuncId → Nat → Option QE} (hk:Known Tryz.prog S L) (f:FuncId):Ql Tryz.prog f (JHn S L f) := Jvk Jwf (JcS Jca (JhM Zz hk 100 10 f))
def JFj:Tpl := ⟨[.one (.int .i64),.agg pI],[],0⟩
def JP1:List GK := [.i,.v Q5]
section
variable (pl:Int) (x:List GC)
def JO:Int:= bif xi x 0 == 3 then J4 pl (xi x 9) (xi x 10) (xi x 11) else 0
def JN:Int:= bif xi x 0 == 3 then J5 pl (xi x 9) (xi x 10) (xi x 11) else 0
def JL:Int:= bif xi x 0 == 3 then xi x 12 else 0
def QJ:Bool:= xi x 0 == 3 && xb x 13
end
theorem JlQ (pl:Int) (x:List GC):Runs (JHn (JC JYe) XQ 84) (JFj.args (Je JP1 [.i pl,.v x])) (JFj.memo (Je JP1 [.i pl,.v x]) []) JFj.n (SV.agg [Ci (J4 pl (xi x 2) (xi x 3) (xi x 4)),Ci (J5 pl (xi x 2) (xi x 3) (xi x 4)),Ci (J4 pl (xi x 5) (xi x 6) (xi x 7)),Ci (J5 pl (xi x 5) (xi x 6) (xi x 7)),Ci (JO pl x),Ci (JN pl x),Ci (JL x),Cb (QJ x)]) ([]) :=
  Runs.of1 (ps := []) (by kernel_rfl) (by simp)
def JQ2:List Gm → Qs → Option CRes
  | [.i pl,.v x],[] => some ⟨SV.agg [Ci (J4 pl (xi x 2) (xi x 3) (xi x 4)),Ci (J5 pl (xi x 2) (xi x 3) (xi x 4)),Ci (J4 pl (xi x 5) (xi x 6) (xi x 7)),Ci (J5 pl (xi x 5) (xi x 6) (xi x 7)),Ci (JO pl x),Ci (JN pl x),Ci (JL x),Cb (QJ x)],
 [],[],[],382⟩
  | _,_ => none
theorem JsV:Ql Tryz.prog 84 (Z7 JP1 JFj JQ2) := by
  refine Qg (KI JNZ 84) fun ps ls r hr hn _ => ?_
  unfold JQ2 at hr
  split at hr
  · cases hr; exact ⟨_,JlQ _ _,fun _ => rfl⟩
  · cases hr
def Jfh:List (Nat × JY) := (84,Z7 JP1 JFj JQ2) :: JYe
theorem JTS:Known Tryz.prog (JC Jfh) XQ := J7 JNZ JsV
def JCP:Tpl := ⟨[.one (.int .i64),.agg pI],[],0⟩
def JKS:List GK := [.i,.v Q5]
def ZL (pl:Int) (x:List GC):Bool := xb x 13 || !(J4 pl (xi x 2) (xi x 3) (xi x 4) == J4 pl (xi x 5) (xi x 6) (xi x 7) && J5 pl (xi x 2) (xi x 3) (xi x 4) == J5 pl (xi x 5) (xi x 6) (xi x 7))
theorem Jip (pl:Int) (x:List GC):Runs (JHn (JC Jfh) XQ 61) (JCP.args (Je JKS [.i pl,.v x])) (JCP.memo (Je JKS [.i pl,.v x]) []) JCP.n (SV.one (Cb (ZL pl x))) ([]) :=
  Runs.of1 (ps := []) (by kernel_rfl) (by simp)
def JN4:List Gm → Qs → Option CRes
  | [.i pl,.v x],[] => some ⟨SV.one (Cb (ZL pl x)),
 [],[],[],229⟩
  | _,_ => none
theorem JpK:Ql Tryz.prog 61 (Z7 JKS JCP JN4) := by
  refine Qg (KI JTS 61) fun ps ls r hr hn _ => ?_
  unfold JN4 at hr
  split at hr
  · cases hr; exact ⟨_,Jip _ _,fun _ => rfl⟩
  · cases hr
def JZY:List (Nat × JY) := (61,Z7 JKS JCP JN4) :: Jfh
theorem JNc:Known Tryz.prog (JC JZY) XQ := J7 JTS JpK
def JCd:Tpl := ⟨[.one (.int .i64),.one (.int .i64),.agg pI],[],0⟩
def JKZ:List GK := [.i,.i,.v Q5]
def JGd (pl:Int) (x:List GC):Int := J8 (J1 (J4 pl (xi x 5) (xi x 6) (xi x 7)) (J4 pl (xi x 2) (xi x 3) (xi x 4))) (J1 (J5 pl (xi x 5) (xi x 6) (xi x 7)) (J5 pl (xi x 2) (xi x 3) (xi x 4))) (J1 (J4 pl (xi x 5) (xi x 6) (xi x 7)) (J4 pl (xi x 2) (xi x 3) (xi x 4))) (J1 (J5 pl (xi x 5) (xi x 6) (xi x 7)) (J5 pl (xi x 2) (xi x 3) (xi x 4)))
def ZJ (pl ra:Int) (x:List GC):Bool := xi x 0 == 2 && decide (JGd pl x > 0) && decide (JGd pl x ≥ IntKind.i64.wrap (ra * ra)) && J9 pl (xi x 2) (xi x 3) (xi x 4) == J9 pl (xi x 5) (xi x 6) (xi x 7)
theorem Jgv (pl ra:Int) (x:List GC):Runs (JHn (JC JZY) XQ 59) (JCd.args (Je JKZ [.i pl,.i ra,.v x])) (JCd.memo (Je JKZ [.i pl,.i ra,.v x]) []) JCd.n (SV.one (Cb (ZJ pl ra x))) ([]) :=
  Runs.of1 (ps := []) (by kernel_rfl) (by simp)
def JNI:List Gm → Qs → Option CRes
  | [.i pl,.i ra,.v x],[] => some ⟨SV.one (Cb (ZJ pl ra x)),
 [],[],[],488⟩
  | _,_ => none
theorem Jps:Ql Tryz.prog 59 (Z7 JKZ JCd JNI) := by
  refine Qg (KI JNc 59) fun ps ls r hr hn _ => ?_
  unfold JNI at hr
  split at hr
  · cases hr; exact ⟨_,Jgv _ _ _,fun _ => rfl⟩
  · cases hr
def JXD:List (Nat × JY) := (59,Z7 JKZ JCd JNI) :: JZY
theorem JPc:Known Tryz.prog (JC JXD) XQ := J7 JNc Jps
def YH:List (Nat × PO) := [(0,.blk 74 [(2,.bool),(3,.bool),(4,.int .i64),(5,.bool),(6,.bool),(7,.int .i64),(8,.int .i64),(9,.int .i64),(10,.int .i64),(11,.int .i64),(12,.int .i64),(13,.int .i64),(14,.int .i64),(15,.int .i64),(16,.int .i64),(17,.int .i64),(18,.int .i64),(19,.int .i64),(20,.int .i64),(21,.int .i64),(22,.int .i64),(23,.bool),(24,.int .i64),(25,.bool),(26,.int .i64),(27,.int .i64),(28,.int .i64),(29,.int .i64),(30,.int .i64),(31,.bool),(32,.wh 1),(33,.bool),(34,.int .i64),(35,.int .i64),(36,.int .i64),(37,.int .i64),(38,.int .i64),(39,.int .i64),(40,.int .i64),(41,.int .i64),(42,.int .i64),(43,.int .i64),(44,.int .i64),(45,.int .i64),(46,.int .i64),(47,.bool),(48,.int .i64),(49,.bool),(50,.int .i64),(51,.int .i64),(52,.int .i64),(53,.int .i64),(54,.int .i64),(55,.bool),(56,.int .i64),(57,.int .i64),(58,.bool),(59,.int .i64),(60,.int .i64)]),(1,.row true 40 22 61 jI)]
def JFs:Tpl := ⟨[.one (.ptr 0 0),.agg pI,.agg [.int .i64,.int .i64],.agg [.int .i64,.int .i64]],YH,62⟩
def JON:List GK := [.v Q5,.i,.i,.i,.i,.b,.b,.i,.b,.b,.i,.i,.i,.v Q5,.b,.v Q5,.i,.i,.b,.i,.i]
section
variable (rcl rop:Bool) (rer:Int) (rmo ren:Bool) (rla0 rla1 rla2:Int) (x:List GC) (u0 u1:Int) (l:List GC) (has:Bool) (y:List GC) (st0 st1:Int) (rtr:Bool) (pn0 pn1:Int) (C:LL)
def Kf:Int:= bif xi x 0 != 3 then 0 else xi x 8
def XS:Int:= bif xi x 0 != 3 then xi x 9 else JQ (xi l 8) (J4 (xi l 8) (xi x 9) (xi x 10) (xi x 11)) (J5 (xi l 8) (xi x 9) (xi x 10) (xi x 11)) (J9 (xi l 8) (JQ (xi l 8) u0 u1 (J9 (xi l 8) (xi x 2) (xi x 3) (xi x 4))) (JR (xi l 8) u0 u1 (J9 (xi l 8) (xi x 2) (xi x 3) (xi x 4))) (JS (xi l 8) u0 u1 (J9 (xi l 8) (xi x 2) (xi x 3) (xi x 4))))
def XP:Int:= bif xi x 0 != 3 then xi x 10 else JR (xi l 8) (J4 (xi l 8) (xi x 9) (xi x 10) (xi x 11)) (J5 (xi l 8) (xi x 9) (xi x 10) (xi x 11)) (J9 (xi l 8) (JQ (xi l 8) u0 u1 (J9 (xi l 8) (xi x 2) (xi x 3) (xi x 4))) (JR (xi l 8) u0 u1 (J9 (xi l 8) (xi x 2) (xi x 3) (xi x 4))) (JS (xi l 8) u0 u1 (J9 (xi l 8) (xi x 2) (xi x 3) (xi x 4))))
def XT:Int:= bif xi x 0 != 3 then xi x 11 else JS (xi l 8) (J4 (xi l 8) (xi x 9) (xi x 10) (xi x 11)) (J5 (xi l 8) (xi x 9) (xi x 10) (xi x 11)) (J9 (xi l 8) (JQ (xi l 8) u0 u1 (J9 (xi l 8) (xi x 2) (xi x 3) (xi x 4))) (JR (xi l 8) u0 u1 (J9 (xi l 8) (xi x 2) (xi x 3) (xi x 4))) (JS (xi l 8) u0 u1 (J9 (xi l 8) (xi x 2) (xi x 3) (xi x 4))))
def JhF:Jn:= [(0,Obj.blk 74 [(2,Cb rcl),(3,Cb rop),(4,Ci rer),(5,Cb rmo),(6,Cb ren),(7,Ci rla0),(8,Ci rla1),(9,Ci rla2),(10,Ci (xi l 0)),(11,Ci (xi l 1)),(12,Ci (xi l 2)),(13,Ci (xi l 3)),(14,Ci (xi l 4)),(15,Ci (xi l 5)),(16,Ci (xi l 6)),(17,Ci (xi l 7)),(18,Ci (xi l 8)),(19,Ci (xi l 9)),(20,Ci (xi l 10)),(21,Ci (xi l 11)),(22,Ci (xi l 12)),(23,Cb (xb l 13)),(24,Ci (xi l 14)),(25,Cb (xb l 15)),(26,Ci (xi l 16)),(27,Ci (xi l 17)),(28,Ci (xi l 18)),(29,Ci (xi l 19)),(30,Ci (xi l 20)),(31,Cb (xb l 21)),(32,SC.wh 1),(33,Cb has),(34,Ci (xi y 0)),(35,Ci (xi y 1)),(36,Ci (xi y 2)),(37,Ci (xi y 3)),(38,Ci (xi y 4)),(39,Ci (xi y 5)),(40,Ci (xi y 6)),(41,Ci (xi y 7)),(42,Ci (xi y 8)),(43,Ci (xi y 9)),(44,Ci (xi y 10)),(45,Ci (xi y 11)),(46,Ci (xi y 12)),(47,Cb (xb y 13)),(48,Ci (xi y 14)),(49,Cb (xb y 15)),(50,Ci (xi y 16)),(51,Ci (xi y 17)),(52,Ci (xi y 18)),(53,Ci (xi y 19)),(54,Ci (xi y 20)),(55,Cb (xb y 21)),(56,Ci st0),(57,Ci st1),(58,Cb rtr),(59,Ci pn0),(60,Ci pn1)]),(1,Obj.row true 40 22 (RowC.lst 61 jI C))]
end
theorem Jkx (x:List GC) (u0 u1 v0 v1:Int) (rcl rop:Bool) (rer:Int) (rmo ren:Bool) (rla0 rla1 rla2:Int) (l:List GC) (has:Bool) (y:List GC) (st0 st1:Int) (rtr:Bool) (pn0 pn1:Int) (C:LL):Runs (JHn (JC JXD) XQ 88) (JFs.args (Je JON [.v x,.i u0,.i u1,.i v0,.i v1,.b rcl,.b rop,.i rer,.b rmo,.b ren,.i rla0,.i rla1,.i rla2,.v l,.b has,.v y,.i st0,.i st1,.b rtr,.i pn0,.i pn1])) (JFs.memo (Je JON [.v x,.i u0,.i u1,.i v0,.i v1,.b rcl,.b rop,.i rer,.b rmo,.b ren,.i rla0,.i rla1,.i rla2,.v l,.b has,.v y,.i st0,.i st1,.b rtr,.i pn0,.i pn1]) [C]) JFs.n (SV.agg [Ci (xi x 0),Ci (xi x 1),Ci (JQ (xi l 8) u0 u1 (J9 (xi l 8) (xi x 2) (xi x 3) (xi x 4))),Ci (JR (xi l 8) u0 u1 (J9 (xi l 8) (xi x 2) (xi x 3) (xi x 4))),Ci (JS (xi l 8) u0 u1 (J9 (xi l 8) (xi x 2) (xi x 3) (xi x 4))),Ci (JQ (xi l 8) v0 v1 (J9 (xi l 8) (xi x 5) (xi x 6) (xi x 7))),Ci (JR (xi l 8) v0 v1 (J9 (xi l 8) (xi x 5) (xi x 6) (xi x 7))),Ci (JS (xi l 8) v0 v1 (J9 (xi l 8) (xi x 5) (xi x 6) (xi x 7))),Ci (Kf x),Ci (XS x u0 u1 l),Ci (XP x u0 u1 l),Ci (XT x u0 u1 l),Ci (xi x 12),Cb (xb x 13),Ci (xi x 14),Cb (xb x 15),SC.int IntKind.i64 (SI.c 0),SC.int IntKind.i64 (SI.c 0),Ci (xi x 18),Ci (xi x 19),Ci (xi x 20),Cb (xb x 21)]) (JhF rcl rop rer rmo ren rla0 rla1 rla2 l has y st0 st1 rtr pn0 pn1 C) :=
  Runs.of1 (ps := []) (by kernel_rfl) (by simp)
def JSb:List Gm → Qs → Option CRes
  | [.v x,.i u0,.i u1,.i v0,.i v1,.b rcl,.b rop,.i rer,.b rmo,.b ren,.i rla0,.i rla1,.i rla2,.v l,.b has,.v y,.i st0,.i st1,.b rtr,.i pn0,.i pn1],[C] => some ⟨SV.agg [Ci (xi x 0),Ci (xi x 1),Ci (JQ (xi l 8) u0 u1 (J9 (xi l 8) (xi x 2) (xi x 3) (xi x 4))),Ci (JR (xi l 8) u0 u1 (J9 (xi l 8) (xi x 2) (xi x 3) (xi x 4))),Ci (JS (xi l 8) u0 u1 (J9 (xi l 8) (xi x 2) (xi x 3) (xi x 4))),Ci (JQ (xi l 8) v0 v1 (J9 (xi l 8) (xi x 5) (xi x 6) (xi x 7))),Ci (JR (xi l 8) v0 v1 (J9 (xi l 8) (xi x 5) (xi x 6) (xi x 7))),Ci (JS (xi l 8) v0 v1 (J9 (xi l 8) (xi x 5) (xi x 6) (xi x 7))),Ci (Kf x),Ci (XS x u0 u1 l),Ci (XP x u0 u1 l),Ci (XT x u0 u1 l),Ci (xi x 12),Cb (xb x 13),Ci (xi x 14),Cb (xb x 15),SC.int IntKind.i64 (SI.c 0),SC.int IntKind.i64 (SI.c 0),Ci (xi x 18),Ci (xi x 19),Ci (xi x 20),Cb (xb x 21)],
 JhF rcl rop rer rmo ren rla0 rla1 rla2 l has y st0 st1 rtr pn0 pn1 C,[],[],856⟩
  | _,_ => none
theorem JtI:Ql Tryz.prog 88 (Z7 JON JFs JSb) := by
  refine Qg (KI JPc 88) fun ps ls r hr hn _ => ?_
  unfold JSb at hr
  split at hr
  · cases hr; exact ⟨_,Jkx _ _ _ _ _ _ _ _ _ _ _ _ _ _ _ _ _ _ _ _ _ _,fun _ => rfl⟩
  · cases hr
def Jg2:List (Nat × JY) := (88,Z7 JON JFs JSb) :: JXD
theorem JT7:Known Tryz.prog (JC Jg2) XQ := J7 JPc JtI
def zG:Tpl := ⟨[.one (.ptr 0 0)],YH,62⟩
def JHW:List GK := [.b,.b,.i,.b,.b,.i,.i,.i,.v Q5,.b,.v Q5,.i,.i,.b,.i,.i]
def JT (l:List GC):Int := IntKind.i64.wrap (xi l 16 * xi l 17)
def JbA (rcl rop:Bool) (rer:Int) (rmo ren:Bool) (rla0 rla1 rla2:Int) (l:List GC) (has:Bool) (y:List GC) (st0 st1:Int) (rtr:Bool) (pn0 pn1:Int) (C:LL):Jn := [(0,Obj.blk 74 [(2,Cb rcl),(3,Cb rop),(4,Ci rer),(5,Cb rmo),(6,Cb ren),(7,Ci rla0),(8,Ci rla1),(9,Ci rla2),(10,Ci (xi l 0)),(11,Ci (xi l 1)),(12,Ci (xi l 2)),(13,Ci (xi l 3)),(14,Ci (xi l 4)),(15,Ci (xi l 5)),(16,Ci (xi l 6)),(17,Ci (xi l 7)),(18,Ci (xi l 8)),(19,Ci (xi l 9)),(20,Ci (xi l 10)),(21,Ci (xi l 11)),(22,Ci (xi l 12)),(23,Cb (xb l 13)),(24,Ci (xi l 14)),(25,Cb (xb l 15)),(26,Ci (xi l 16)),(27,Ci (xi l 17)),(28,Ci (xi l 18)),(29,Ci (xi l 19)),(30,Ci (xi l 20)),(31,Cb (xb l 21)),(32,SC.wh 1),(33,Cb has),(34,Ci (xi y 0)),(35,Ci (xi y 1)),(36,Ci (xi y 2)),(37,Ci (xi y 3)),(38,Ci (xi y 4)),(39,Ci (xi y 5)),(40,Ci (xi y 6)),(41,Ci (xi y 7)),(42,Ci (xi y 8)),(43,Ci (xi y 9)),(44,Ci (xi y 10)),(45,Ci (xi y 11)),(46,Ci (xi y 12)),(47,Cb (xb y 13)),(48,Ci (xi y 14)),(49,Cb (xb y 15)),(50,Ci (xi y 16)),(51,Ci (xi y 17)),(52,Ci (xi y 18)),(53,Ci (xi y 19)),(54,Ci (xi y 20)),(55,Cb (xb y 21)),(56,Ci st0),(57,Ci st1),(58,Cb rtr),(59,Ci pn0),(60,Ci pn1)]),(1,Obj.row true 40 22 (RowC.lst 61 jI C))]
theorem Jg7 (rcl rop:Bool) (rer:Int) (rmo ren:Bool) (rla0 rla1 rla2:Int) (l:List GC) (has:Bool) (y:List GC) (st0 st1:Int) (rtr:Bool) (pn0 pn1:Int) (C:LL):Runs (JHn (JC Jg2) XQ 85) (zG.args (Je JHW [.b rcl,.b rop,.i rer,.b rmo,.b ren,.i rla0,.i rla1,.i rla2,.v l,.b has,.v y,.i st0,.i st1,.b rtr,.i pn0,.i pn1])) (zG.memo (Je JHW [.b rcl,.b rop,.i rer,.b rmo,.b ren,.i rla0,.i rla1,.i rla2,.v l,.b has,.v y,.i st0,.i st1,.b rtr,.i pn0,.i pn1]) [C]) zG.n (SV.one (Ci (JT l))) (JbA rcl rop rer rmo ren rla0 rla1 rla2 l has y st0 st1 rtr pn0 pn1 C) :=
  Runs.of1 (ps := []) (by kernel_rfl) (by simp)
def JJu:List Gm → Qs → Option CRes
  | [.b rcl,.b rop,.i rer,.b rmo,.b ren,.i rla0,.i rla1,.i rla2,.v l,.b has,.v y,.i st0,.i st1,.b rtr,.i pn0,.i pn1],[C] => some ⟨SV.one (Ci (JT l)),
 JbA rcl rop rer rmo ren rla0 rla1 rla2 l has y st0 st1 rtr pn0 pn1 C,[],[],75⟩
  | _,_ => none
theorem Jjj:Ql Tryz.prog 85 (Z7 JHW zG JJu) := by
  refine Qg (KI JT7 85) fun ps ls r hr hn _ => ?_
  unfold JJu at hr
  split at hr
  · cases hr; exact ⟨_,Jg7 _ _ _ _ _ _ _ _ _ _ _ _ _ _ _ _ _,fun _ => rfl⟩
  · cases hr
def JS4:List (Nat × JY) := (85,Z7 JHW zG JJu) :: Jg2
theorem JLd:Known Tryz.prog (JC JS4) XQ := J7 JT7 Jjj
def Wa:Tpl := ⟨[.one (.wh 0),.agg pI],[(0,.row false 40 22 1 jI)],2⟩
def JCX:List GK := [.v Q5]
def Yl (x:List GC) (O:LL):LL := bif xi x 0 == 2 && (xi x 2 == xi x 5 && (xi x 3 == xi x 6 && xi x 4 == xi x 7)) then O else O ++ [JFw x]
def jw (x:List GC) (O:LL):List Prop := [(xi x 0 == 2 && (xi x 2 == xi x 5 && (xi x 3 == xi x 6 && xi x 4 == xi x 7))) = false → (O.length + 1) * 176 ≤ 140737488355328 ∧ O.length + 1 ≤ 9223372036854775807]
theorem JeO {x:List GC} {O:LL} (hW:∀ q ∈ ([O.length ≤ 1000000]:List Prop),q):∀ q ∈ (jw x O),q := by
  simp only [awc,awn,and_true] at hW
  unfold jw
  simp only [awc,awn,and_true]
  exact fun _ => ⟨by omega,by omega⟩
theorem Jdi (x:List GC) (O:LL) (hNeeds:∀ pN ∈ (jw x O),pN):Runs (JHn (JC JS4) XQ 118) (Wa.args (Je JCX [.v x])) (Wa.memo (Je JCX [.v x]) [O]) Wa.n (SV.one (SC.wh 50)) ([(50,Obj.row false 40 22 (RowC.lst 49 jI (Yl x O)))]) :=
  Runs.of1 (ps := (jw x O)) (by kernel_rfl) hNeeds
def JDz:List Gm → Qs → Option CRes
  | [.v x],[O] => some ⟨SV.one (SC.wh 50),
 [(50,Obj.row false 40 22 (RowC.lst 49 jI (Yl x O)))],[O.length ≤ 1000000],[],51⟩
  | _,_ => none
theorem JZP:Ql Tryz.prog 118 (Z7 JCX Wa JDz) := by
  refine Qg (KI JLd 118) fun ps ls r hr hn _ => ?_
  unfold JDz at hr
  split at hr
  · cases hr; exact ⟨_,Jdi _ _ (JeO (by exact hn)),fun _ => rfl⟩
  · cases hr
def JR3:List (Nat × JY) := (118,Z7 JCX Wa JDz) :: JS4
theorem JLz:Known Tryz.prog (JC JR3) XQ := J7 JLd JZP
def Wj:Tpl := ⟨[.one .nilsl,.agg pI],[],0⟩
def JDl:List GK := [.v Q5]
def Yd (x:List GC):LL := bif xi x 0 == 2 && (xi x 2 == xi x 5 && (xi x 3 == xi x 6 && xi x 4 == xi x 7)) then [] else [JFw x]
theorem JbR (x:List GC):Runs (JHn (JC JR3) XQ 118) (Wj.args (Je JDl [.v x])) (Wj.memo (Je JDl [.v x]) []) Wj.n (SV.one (SC.wh 48)) ([(48,Obj.row false 40 22 (RowC.lst 47 jI (Yd x)))]) :=
  Runs.of1 (ps := []) (by kernel_rfl) (by simp)
def JH3:List Gm → Qs → Option CRes
  | [.v x],[] => some ⟨SV.one (SC.wh 48),
 [(48,Obj.row false 40 22 (RowC.lst 47 jI (Yd x)))],[],[],49⟩
  | _,_ => none
theorem Jgw:Ql Tryz.prog 118 (Z7 JDl Wj JH3) := by
  refine Qg (KI JLz 118) fun ps ls r hr hn _ => ?_
  unfold JH3 at hr
  split at hr
  · cases hr; exact ⟨_,JbR _,fun _ => rfl⟩
  · cases hr
def je:List (Nat × JY) := (118,orS (Z7 JDl Wj JH3) (Z7 JCX Wa JDz)) :: JR3
theorem JJa:Known Tryz.prog (JC je) XQ := J7 JLz (JZa Jgw JZP)
section
variable (id tag:Nat) (xs:LL) (g:Nat → Nat) (rcl rop:Bool) (rer:Int) (rmo ren:Bool) (rla0 rla1 rla2:Int) (l x:List GC) (u0 u1 v0 v1:Int) (c:Nat) (has:Bool) (y:List GC) (st0 st1:Int) (rtr:Bool) (pn0 pn1:Int) (C:LL) (j:Nat) (O:LL) (r:List Int)
def JkT:List (Nat × SC):= [(g 0,B rcl),(g 1,B rop),(g 2,I rer),(g 3,B rmo),(g 4,B ren),(g 5,I rla0),(g 6,I rla1),(g 7,I rla2),(g 8,I (xi l 0)),(g 9,I (xi l 1)),(g 10,I (xi l 2)),(g 11,I (xi l 3)),(g 12,I (xi l 4)),(g 13,I (xi l 5)),(g 14,I (xi l 6)),(g 15,I (xi l 7)),(g 16,I (xi l 8)),(g 17,I (xi l 9)),(g 18,I (xi l 10)),(g 19,I (xi l 11)),(g 20,I (xi l 12)),(g 21,B (xb l 13)),(g 22,I (xi l 14)),(g 23,B (xb l 15)),(g 24,I (xi l 16)),(g 25,I (xi l 17)),(g 26,I (xi l 18)),(g 27,I (xi l 19)),(g 28,I (xi l 20)),(g 29,B (xb l 21)),(g 30,.wh c),(g 31,B has),(g 32,I (xi y 0)),(g 33,I (xi y 1)),(g 34,I (xi y 2)),(g 35,I (xi y 3)),(g 36,I (xi y 4)),(g 37,I (xi y 5)),(g 38,I (xi y 6)),(g 39,I (xi y 7)),(g 40,I (xi y 8)),(g 41,I (xi y 9)),(g 42,I (xi y 10)),(g 43,I (xi y 11)),(g 44,I (xi y 12)),(g 45,B (xb y 13)),(g 46,I (xi y 14)),(g 47,B (xb y 15)),(g 48,I (xi y 16)),(g 49,I (xi y 17)),(g 50,I (xi y 18)),(g 51,I (xi y 19)),(g 52,I (xi y 20)),(g 53,B (xb y 21)),(g 54,I st0),(g 55,I st1),(g 56,B rtr),(g 57,I pn0),(g 58,I pn1)]
def Jvm:Nat × SX.Obj:= (id,.row true 40 22 (.lst tag CKi xs))
def Ju3:List GC:= [.i (xi x 0),.i (xi x 1),.i (JQ (xi l 8) u0 u1 (J9 (xi l 8) (xi x 2) (xi x 3) (xi x 4))),.i (JR (xi l 8) u0 u1 (J9 (xi l 8) (xi x 2) (xi x 3) (xi x 4))),.i (JS (xi l 8) u0 u1 (J9 (xi l 8) (xi x 2) (xi x 3) (xi x 4))),.i (JQ (xi l 8) v0 v1 (J9 (xi l 8) (xi x 5) (xi x 6) (xi x 7))),.i (JR (xi l 8) v0 v1 (J9 (xi l 8) (xi x 5) (xi x 6) (xi x 7))),.i (JS (xi l 8) v0 v1 (J9 (xi l 8) (xi x 5) (xi x 6) (xi x 7))),.i (Kf x),.i (XS x u0 u1 (J2 l)),.i (XP x u0 u1 (J2 l)),.i (XT x u0 u1 (J2 l)),.i (xi x 12),.b (xb x 13),.i (xi x 14),.b (xb x 15),.i 0,.i 0,.i (xi x 18),.i (xi x 19),.i (xi x 20),.b (xb x 21)]
def rfS:LL:= bif J3 (r.getD 0 0) then Yl (Ju3 l (Q0 r) pn0 pn1 pn0 pn1) O else O ++ [Jnv r]
def rfJ:LL:= (C.take j).foldl (rfS l pn0 pn1) []
def rfL:LL:= C.foldl (rfS l pn0 pn1) []
end
def rfF (l y:List GC) (rcl rop rmo ren has rtr:Bool) (rer rla0 rla1 rla2 st0 st1 pn0 pn1:Int) (C:LL):Fam Nat Unit where
  k := 120
  E j := [(4,ent 1000000000 (.one (I (Int.ofNat j)))),(3,ent 1000000001 (.one (.wh 70))),(0,ent 0 (.one (.ptr 0 0)))]
  M j := [(0,.blk 74 (JkT (fun k => k + 2) rcl rop rer rmo ren rla0 rla1 rla2 l 1 has y st0 st1 rtr pn0 pn1)),Jvm 1 61 C,Kw 70 1000000002 (rfJ l pn0 pn1 C j)]
  out _ := .leaf (.exit 0) [(3,ent 66 (.one (.wh 70))),(0,ent 0 (.one (.ptr 0 0)))] [(0,.blk 74 (JkT (fun k => k + 2) rcl rop rer rmo ren rla0 rla1 rla2 l 1 has y st0 st1 rtr pn0 pn1)),Jvm 1 61 C,Kw 70 71 (rfL l pn0 pn1 C)]
  fin _ := ()
  next j _ := j + 1
  J j := j ≤ C.length ∧ C.length ≤ 1000
  μ j := C.length - j
section
variable (l y:List GC) (rcl rop rmo ren has rtr:Bool) (rer rla0 rla1 rla2 st0 st1 pn0 pn1:Int) (C:LL) (j:Nat)
def JnK:Prop:= decide (Int.ofNat j < Int.ofNat C.length) = true
def Jsr:Prop:= J3 ((C.getD (Int.ofNat j).toNat []).getD 0 0) = true
def Ju8:Prop:= J3 ((C.getD (Int.ofNat j).toNat []).getD 0 0) = false
def JtW:Int:= J9 (xi l 8) (xi (Q0 (C.getD (Int.ofNat j).toNat [])) 2) (xi (Q0 (C.getD (Int.ofNat j).toNat [])) 3) (xi (Q0 (C.getD (Int.ofNat j).toNat [])) 4)
def Jss:Int:= J9 (xi l 8) (xi (Q0 (C.getD (Int.ofNat j).toNat [])) 5) (xi (Q0 (C.getD (Int.ofNat j).toNat [])) 6) (xi (Q0 (C.getD (Int.ofNat j).toNat [])) 7)
def JVi:List Prop:=
 [JnK C j → 0 ≤ Int.ofNat j ∧ (Int.ofNat j).toNat < C.length ∧ (Int.ofNat j).toNat < C.length ∧ (Jsr C j → (rfJ l pn0 pn1 C j).length ≤ 1000000) ∧ (Ju8 C j → ((rfJ l pn0 pn1 C j).length + 1) * 176 ≤ 140737488355328 ∧ (rfJ l pn0 pn1 C j).length + 1 ≤ 9223372036854775807),JnK C j → (Jsr C j → ((rfF l y rcl rop rmo ren has rtr rer rla0 rla1 rla2 st0 st1 pn0 pn1 C).next j 0 ≤ C.length ∧ C.length ≤ 1000) ∧ (rfF l y rcl rop rmo ren has rtr rer rla0 rla1 rla2 st0 st1 pn0 pn1 C).μ ((rfF l y rcl rop rmo ren has rtr rer rla0 rla1 rla2 st0 st1 pn0 pn1 C).next j 0) < (rfF l y rcl rop rmo ren has rtr rer rla0 rla1 rla2 st0 st1 pn0 pn1 C).μ j ∧ (rfF l y rcl rop rmo ren has rtr rer rla0 rla1 rla2 st0 st1 pn0 pn1 C).fin ((rfF l y rcl rop rmo ren has rtr rer rla0 rla1 rla2 st0 st1 pn0 pn1 C).next j 0) = (rfF l y rcl rop rmo ren has rtr rer rla0 rla1 rla2 st0 st1 pn0 pn1 C).fin j ∧ Int.ofNat ((rfF l y rcl rop rmo ren has rtr rer rla0 rla1 rla2 st0 st1 pn0 pn1 C).next j 0) = IntKind.i64.wrap (Int.ofNat j + 1) ∧ rfJ l pn0 pn1 C ((rfF l y rcl rop rmo ren has rtr rer rla0 rla1 rla2 st0 st1 pn0 pn1 C).next j 0) = Yl [GC.i (xi (Q0 (C.getD (Int.ofNat j).toNat [])) 0),GC.i (xi (Q0 (C.getD (Int.ofNat j).toNat [])) 1),GC.i (JQ (xi l 8) pn0 pn1 (JtW l C j)),GC.i (JR (xi l 8) pn0 pn1 (JtW l C j)),GC.i (JS (xi l 8) pn0 pn1 (JtW l C j)),GC.i (JQ (xi l 8) pn0 pn1 (Jss l C j)),GC.i (JR (xi l 8) pn0 pn1 (Jss l C j)),GC.i (JS (xi l 8) pn0 pn1 (Jss l C j)),GC.i (Kf (Q0 (C.getD (Int.ofNat j).toNat []))),GC.i (XS (Q0 (C.getD (Int.ofNat j).toNat [])) pn0 pn1 (J2 l)),GC.i (XP (Q0 (C.getD (Int.ofNat j).toNat [])) pn0 pn1 (J2 l)),GC.i (XT (Q0 (C.getD (Int.ofNat j).toNat [])) pn0 pn1 (J2 l)),GC.i (xi (Q0 (C.getD (Int.ofNat j).toNat [])) 12),GC.b (xb (Q0 (C.getD (Int.ofNat j).toNat [])) 13),GC.i (xi (Q0 (C.getD (Int.ofNat j).toNat [])) 14),GC.b (xb (Q0 (C.getD (Int.ofNat j).toNat [])) 15),GC.i 0,GC.i 0,GC.i (xi (Q0 (C.getD (Int.ofNat j).toNat [])) 18),GC.i (xi (Q0 (C.getD (Int.ofNat j).toNat [])) 19),GC.i (xi (Q0 (C.getD (Int.ofNat j).toNat [])) 20),GC.b (xb (Q0 (C.getD (Int.ofNat j).toNat [])) 21)] (rfJ l pn0 pn1 C j)) ∧ (Ju8 C j → ((rfF l y rcl rop rmo ren has rtr rer rla0 rla1 rla2 st0 st1 pn0 pn1 C).next j 1 ≤ C.length ∧ C.length ≤ 1000) ∧ (rfF l y rcl rop rmo ren has rtr rer rla0 rla1 rla2 st0 st1 pn0 pn1 C).μ ((rfF l y rcl rop rmo ren has rtr rer rla0 rla1 rla2 st0 st1 pn0 pn1 C).next j 1) < (rfF l y rcl rop rmo ren has rtr rer rla0 rla1 rla2 st0 st1 pn0 pn1 C).μ j ∧ (rfF l y rcl rop rmo ren has rtr rer rla0 rla1 rla2 st0 st1 pn0 pn1 C).fin ((rfF l y rcl rop rmo ren has rtr rer rla0 rla1 rla2 st0 st1 pn0 pn1 C).next j 1) = (rfF l y rcl rop rmo ren has rtr rer rla0 rla1 rla2 st0 st1 pn0 pn1 C).fin j ∧ Int.ofNat ((rfF l y rcl rop rmo ren has rtr rer rla0 rla1 rla2 st0 st1 pn0 pn1 C).next j 1) = IntKind.i64.wrap (Int.ofNat j + 1) ∧ rfJ l pn0 pn1 C ((rfF l y rcl rop rmo ren has rtr rer rla0 rla1 rla2 st0 st1 pn0 pn1 C).next j 1) = rfJ l pn0 pn1 C j ++ [Jnv (C.getD (Int.ofNat j).toNat [])]),decide (Int.ofNat j < Int.ofNat C.length) = false → rfL l pn0 pn1 C = rfJ l pn0 pn1 C j]
end
theorem JrB (l y:List GC) (rcl rop rmo ren has rtr:Bool) (rer rla0 rla1 rla2 st0 st1 pn0 pn1:Int) (C:LL) (j:Nat) (hNeeds:∀ pN ∈ (JVi l y rcl rop rmo ren has rtr rer rla0 rla1 rla2 st0 st1 pn0 pn1 C j),pN):Q4 (Xd (rfF l y rcl rop rmo ren has rtr rer rla0 rla1 rla2 st0 st1 pn0 pn1 C) (QX Tryz.prog (JC je) XQ 87 0) 65 j) :=
  Q4.of (ps := (JVi l y rcl rop rmo ren has rtr rer rla0 rla1 rla2 st0 st1 pn0 pn1 C j)) (by kernel_rfl) (by kernel_rfl) hNeeds
theorem JYS (l:List GC) (pn0 pn1:Int) (C:LL) (j:Nat) (h:j < C.length):rfJ l pn0 pn1 C (j + 1) = rfS l pn0 pn1 (rfJ l pn0 pn1 C j) (C.getD j []) := by
  have e:C.getD j [] = C[j] := by simp [List.getD,List.getElem?_eq_getElem h]
  unfold rfJ
  rw [List.take_succ_eq_append_getElem h,List.foldl_append,e]
  rfl
theorem JoJ (l:List GC) (pn0 pn1:Int) (C:LL):rfJ l pn0 pn1 C C.length = rfL l pn0 pn1 C := by
  unfold rfJ; rw [List.take_length]; rfl
theorem Jvi (l:List GC) (pn0 pn1:Int) (O:LL) (r:List Int):(rfS l pn0 pn1 O r).length ≤ O.length + 1 := by
  unfold rfS Yl
  cases J3 (r.getD 0 0)
  · rw [cond_false,List.length_append]; exact Nat.le_refl _
  · rw [cond_true]
    cases (_:Bool) && _
    · rw [cond_false,List.length_append]; exact Nat.le_refl _
    · rw [cond_true]; omega
theorem Jg4 (l:List GC) (pn0 pn1:Int) (C:LL):∀ (j:Nat),j ≤ C.length → (rfJ l pn0 pn1 C j).length ≤ j
  | 0,_ => Nat.le_refl _
  | j + 1,h => by
    have h1 := Jg4 l pn0 pn1 C j (by omega)
    have h2 := Jvi l pn0 pn1 (rfJ l pn0 pn1 C j) (C.getD j [])
    rw [JYS _ _ _ _ _ (by omega)]; omega
theorem JpO (l y:List GC) (rcl rop rmo ren has rtr:Bool) (rer rla0 rla1 rla2 st0 st1 pn0 pn1:Int) (C:LL):Qw (rfF l y rcl rop rmo ren has rtr rer rla0 rla1 rla2 st0 st1 pn0 pn1 C) (QX Tryz.prog (JC je) XQ 87 0) 65 := by
  intro j hJ
  obtain ⟨h1,h2⟩:j ≤ C.length ∧ C.length ≤ 1000 := hJ
  refine JrB l y rcl rop rmo ren has rtr rer rla0 rla1 rla2 st0 st1 pn0 pn1 C j ?_
  unfold JVi
  have hl := Jg4 l pn0 pn1 C j h1
  have lt:JnK C j → j < C.length := by unfold JnK; simp
  simp only [awc,awn,and_true]
  have e6 (h:j < C.length):IntKind.i64.wrap (Int.ofNat j + 1) = Int.ofNat (j + 1) := X6 (by simp; omega) (by simp; omega)
  refine ⟨fun h => ⟨by simp,lt h,lt h,fun _ => by omega,fun _ => ⟨by omega,by omega⟩⟩,fun h => ⟨fun h1 => ⟨⟨lt h,h2⟩,by have := lt h; show C.length - (j + 1) < C.length - j; omega,trivial,(e6 (lt h)).symm,?_⟩,fun h1 => ⟨⟨lt h,h2⟩,by have := lt h; show C.length - (j + 1) < C.length - j; omega,trivial,(e6 (lt h)).symm,?_⟩⟩,fun h => ?_⟩
  · show rfJ l pn0 pn1 C (j + 1) = _
    rw [JYS _ _ _ _ _ (lt h)]; unfold rfS
    unfold Jsr at h1
    rw [show J3 ((C.getD j []).getD 0 0) = true by simpa using h1]; rfl
  · show rfJ l pn0 pn1 C (j + 1) = _
    rw [JYS _ _ _ _ _ (lt h)]; unfold rfS
    unfold Ju8 at h1
    rw [show J3 ((C.getD j []).getD 0 0) = false by simpa using h1]; rfl
  · have:j = C.length := by simp at h; omega
    rw [this]; exact (JoJ ..).symm
def Jy0:QE := fun env mem m => match SX.JD mem 0,SX.JD mem 1 with
  | some (.blk _ ((_,.bool rcl) :: (_,.bool rop) :: (_,.int _ rer) :: (_,.bool rmo) :: (_,.bool ren) :: (_,.int _ rla0) :: (_,.int _ rla1) :: (_,.int _ rla2) :: r)),some (.row _ _ _ (.lst _ _ C)) => (match Jcc Q5 r with
    | some (l,_ :: (_,.bool has) :: r2) => (match Jcc Q5 r2 with
      | some (y,[(_,.int _ st0),(_,.int _ st1),(_,.bool rtr),(_,.int _ pn0),(_,.int _ pn1)]) => jk (rfF l y rcl.val rop.val rmo.val ren.val has.val rtr.val rer.val rla0.val rla1.val rla2.val st0.val st1.val pn0.val pn1.val C) 65 (fun _ _ => some 0) env mem m
      | _ => none)
    | _ => none)
  | _,_ => none
def jQ:FuncId → Nat → Option QE := JA9 XQ 87 3 Jy0
theorem JcZ:Known Tryz.prog (JC je) jQ := by
  refine Qe 0 JJa (by kernel_rfl) (Qv fun env mem m x h => ?_)
  unfold Jy0 at h
  have hlen:(QW Tryz.prog 87).length = 1 := by kernel_rfl
  split at h
  · split at h
    · split at h
      · exact ⟨_,XG (Qc Zz JJa (by omega)) (JpO _ _ _ _ _ _ _ _ _ _ _ _ _ _ _ _ _),h⟩
      · cases h
    · cases h
  · cases h
def JD4:Tpl := ⟨[.one (.ptr 0 0)],YH,62⟩
def JKP:List GK := [.b,.b,.i,.b,.b,.i,.i,.i,.v Q5,.b,.v Q5,.i,.i,.b,.i,.i]
def ZC (l:List GC) (pn0 pn1:Int) (C:LL):LL := rfL (J2 l) pn0 pn1 C
def JAH (l:List GC) (pn0 pn1:Int) (C:LL):List Prop := [0 ≤ C.length ∧ C.length ≤ 1000,Int.ofNat 0 = 0,rfJ (J2 l) pn0 pn1 C 0 = []]
theorem Ji3 {l:List GC} {pn0:Int} {pn1:Int} {C:LL} (hW:∀ q ∈ ([C.length ≤ 1000]:List Prop),q):∀ q ∈ (JAH l pn0 pn1 C),q := by
  simp only [awc,awn,and_true] at hW
  unfold JAH
  simp only [awc,awn,and_true]
  exact ⟨⟨Nat.zero_le _,hW⟩,rfl,rfl⟩
def JcV (rcl rop:Bool) (rer:Int) (rmo ren:Bool) (rla0 rla1 rla2:Int) (l:List GC) (has:Bool) (y:List GC) (st0 st1:Int) (rtr:Bool) (pn0 pn1:Int) (C:LL):Jn := [(0,Obj.blk 74 [(2,Cb rcl),(3,Cb rop),(4,Ci rer),(5,Cb rmo),(6,Cb ren),(7,Ci rla0),(8,Ci rla1),(9,Ci rla2),(10,Ci (xi l 0)),(11,Ci (xi l 1)),(12,Ci (xi l 2)),(13,Ci (xi l 3)),(14,Ci (xi l 4)),(15,Ci (xi l 5)),(16,Ci (xi l 6)),(17,Ci (xi l 7)),(18,Ci (xi l 8)),(19,Ci (xi l 9)),(20,Ci (xi l 10)),(21,Ci (xi l 11)),(22,Ci (xi l 12)),(23,Cb (xb l 13)),(24,Ci (xi l 14)),(25,Cb (xb l 15)),(26,Ci (xi l 16)),(27,Ci (xi l 17)),(28,Ci (xi l 18)),(29,Ci (xi l 19)),(30,Ci (xi l 20)),(31,Cb (xb l 21)),(194,SC.wh 192),(33,Cb has),(34,Ci (xi y 0)),(35,Ci (xi y 1)),(36,Ci (xi y 2)),(37,Ci (xi y 3)),(38,Ci (xi y 4)),(39,Ci (xi y 5)),(40,Ci (xi y 6)),(41,Ci (xi y 7)),(42,Ci (xi y 8)),(43,Ci (xi y 9)),(44,Ci (xi y 10)),(45,Ci (xi y 11)),(46,Ci (xi y 12)),(47,Cb (xb y 13)),(48,Ci (xi y 14)),(49,Cb (xb y 15)),(50,Ci (xi y 16)),(51,Ci (xi y 17)),(52,Ci (xi y 18)),(53,Ci (xi y 19)),(54,Ci (xi y 20)),(55,Cb (xb y 21)),(56,Ci st0),(57,Ci st1),(58,Cb rtr),(59,Ci pn0),(60,Ci pn1)]),(192,Obj.row true 40 22 (RowC.lit 193 [])),(1,Obj.row true 40 22 (RowC.lst 61 jI C)),(70,Obj.row false 40 22 (RowC.lst 71 jI (ZC l pn0 pn1 C)))]
theorem JiL (rcl rop:Bool) (rer:Int) (rmo ren:Bool) (rla0 rla1 rla2:Int) (l:List GC) (has:Bool) (y:List GC) (st0 st1:Int) (rtr:Bool) (pn0 pn1:Int) (C:LL) (hNeeds:∀ pN ∈ (JAH l pn0 pn1 C),pN):Runs (JHn (JC je) jQ 87) (JD4.args (Je JKP [.b rcl,.b rop,.i rer,.b rmo,.b ren,.i rla0,.i rla1,.i rla2,.v l,.b has,.v y,.i st0,.i st1,.b rtr,.i pn0,.i pn1])) (JD4.memo (Je JKP [.b rcl,.b rop,.i rer,.b rmo,.b ren,.i rla0,.i rla1,.i rla2,.v l,.b has,.v y,.i st0,.i st1,.b rtr,.i pn0,.i pn1]) [C]) JD4.n (SV.one (SC.wh 70)) (JcV rcl rop rer rmo ren rla0 rla1 rla2 l has y st0 st1 rtr pn0 pn1 C) :=
  Runs.of1 (ps := (JAH l pn0 pn1 C)) (by kernel_rfl) hNeeds
def JMc:List Gm → Qs → Option CRes
  | [.b rcl,.b rop,.i rer,.b rmo,.b ren,.i rla0,.i rla1,.i rla2,.v l,.b has,.v y,.i st0,.i st1,.b rtr,.i pn0,.i pn1],[C] => some ⟨SV.one (SC.wh 70),
 JcV rcl rop rer rmo ren rla0 rla1 rla2 l has y st0 st1 rtr pn0 pn1 C,[C.length ≤ 1000],[],195⟩
  | _,_ => none
theorem Jpa:Ql Tryz.prog 87 (Z7 JKP JD4 JMc) := by
  refine Qg (KI JcZ 87) fun ps ls r hr hn _ => ?_
  unfold JMc at hr
  split at hr
  · cases hr; exact ⟨_,JiL _ _ _ _ _ _ _ _ _ _ _ _ _ _ _ _ _ (Ji3 (by exact hn)),fun _ => rfl⟩
  · cases hr
def JYw:List (Nat × JY) := (87,Z7 JKP JD4 JMc) :: je
theorem JP3:Known Tryz.prog (JC JYw) jQ := J7 JcZ Jpa
theorem JNS (l:List GC) (a b:Int) (C:LL):(ZC l a b C).length ≤ C.length := by
  unfold ZC
  rw [← JoJ]
  exact Jg4 _ _ _ _ _ (Nat.le_refl _)
theorem JnH {c:Bool} {a b:LL} (h:a.length ≤ 1) (h':b.length ≤ 1):(bif c then a else b).length ≤ 1 := by cases c <;> assumption
theorem JP0 (x:List GC):(Yd x).length ≤ 1 := by
  unfold Yd
  repeat' first | exact Nat.le_refl _ | exact Nat.zero_le _ | refine JnH ?_ ?_
def JDH:Tpl := ⟨[.one (.ptr 0 0),.agg pI],YH,62⟩
def JKe:List GK := [.v Q5,.b,.b,.i,.b,.b,.i,.i,.i,.v Q5,.b,.v Q5,.i,.i,.b,.i,.i]
section
variable (x l:List GC) (rtr:Bool) (st1 st0:Int) (y:List GC) (q0:Nat) (has:Bool) (C:LL)
def Wd:Int:= Qd (J4 (xi l 8) (xi x 2) (xi x 3) (xi x 4)) (J5 (xi l 8) (xi x 2) (xi x 3) (xi x 4)) (J4 (xi l 8) (xi x 5) (xi x 6) (xi x 7)) (J5 (xi l 8) (xi x 5) (xi x 6) (xi x 7)) (JO (xi l 8) (J2 x)) (JN (xi l 8) (J2 x)) (JL (J2 x)) (JT (J2 l))
def JDE:Int:= bif Wd x l != 0 then Wd x l else 0
def Yk:Int:= Kg (J4 (xi l 8) (xi x 2) (xi x 3) (xi x 4)) (J5 (xi l 8) (xi x 2) (xi x 3) (xi x 4)) (J4 (xi l 8) (xi x 5) (xi x 6) (xi x 7)) (J5 (xi l 8) (xi x 5) (xi x 6) (xi x 7)) (JO (xi l 8) (J2 x)) (JN (xi l 8) (J2 x)) (JL (J2 x)) (JT (J2 l))
def Yq:Int:= Kd (J4 (xi l 8) (xi x 2) (xi x 3) (xi x 4)) (J5 (xi l 8) (xi x 2) (xi x 3) (xi x 4)) (J4 (xi l 8) (xi x 5) (xi x 6) (xi x 7)) (J5 (xi l 8) (xi x 5) (xi x 6) (xi x 7)) (JO (xi l 8) (J2 x)) (JN (xi l 8) (J2 x)) (JL (J2 x)) (JT (J2 l))
def JOT:LL:= bif Qd (J4 (xi l 8) (xi x 2) (xi x 3) (xi x 4)) (J5 (xi l 8) (xi x 2) (xi x 3) (xi x 4)) (J4 (xi l 8) (xi x 5) (xi x 6) (xi x 7)) (J5 (xi l 8) (xi x 5) (xi x 6) (xi x 7)) (JO (xi l 8) (J2 x)) (JN (xi l 8) (J2 x)) (JL (J2 x)) (JT (J2 l)) != 0 then [] else [[xi l 0,xi l 1,JQ (xi l 8) (J4 (xi l 8) (xi l 2) (xi l 3) (xi l 4)) (J5 (xi l 8) (xi l 2) (xi l 3) (xi l 4)) (J9 (xi l 8) (xi l 2) (xi l 3) (xi l 4)),JR (xi l 8) (J4 (xi l 8) (xi l 2) (xi l 3) (xi l 4)) (J5 (xi l 8) (xi l 2) (xi l 3) (xi l 4)) (J9 (xi l 8) (xi l 2) (xi l 3) (xi l 4)),JS (xi l 8) (J4 (xi l 8) (xi l 2) (xi l 3) (xi l 4)) (J5 (xi l 8) (xi l 2) (xi l 3) (xi l 4)) (J9 (xi l 8) (xi l 2) (xi l 3) (xi l 4)),JQ (xi l 8) (Yk x l) (Yq x l) (J9 (xi l 8) (xi l 5) (xi l 6) (xi l 7)),JR (xi l 8) (Yk x l) (Yq x l) (J9 (xi l 8) (xi l 5) (xi l 6) (xi l 7)),JS (xi l 8) (Yk x l) (Yq x l) (J9 (xi l 8) (xi l 5) (xi l 6) (xi l 7)),Kf (J2 l),XS (J2 l) (J4 (xi l 8) (xi l 2) (xi l 3) (xi l 4)) (J5 (xi l 8) (xi l 2) (xi l 3) (xi l 4)) (J2 l),XP (J2 l) (J4 (xi l 8) (xi l 2) (xi l 3) (xi l 4)) (J5 (xi l 8) (xi l 2) (xi l 3) (xi l 4)) (J2 l),XT (J2 l) (J4 (xi l 8) (xi l 2) (xi l 3) (xi l 4)) (J5 (xi l 8) (xi l 2) (xi l 3) (xi l 4)) (J2 l),xi l 12,bif xb l 13 then 1 else 0,xi l 14,bif xb l 15 then 1 else 0,0,0,xi l 18,xi l 19,xi l 20,bif xb l 21 then 1 else 0]] ++ ZC (J2 l) (Yk x l) (Yq x l) C
def JSM:Bool:= bif Qd (J4 (xi l 8) (xi x 2) (xi x 3) (xi x 4)) (J5 (xi l 8) (xi x 2) (xi x 3) (xi x 4)) (J4 (xi l 8) (xi x 5) (xi x 6) (xi x 7)) (J5 (xi l 8) (xi x 5) (xi x 6) (xi x 7)) (JO (xi l 8) (J2 x)) (JN (xi l 8) (J2 x)) (JL (J2 x)) (JT (J2 l)) != 0 then has else true
def Qy:Int:= bif Qd (J4 (xi l 8) (xi x 2) (xi x 3) (xi x 4)) (J5 (xi l 8) (xi x 2) (xi x 3) (xi x 4)) (J4 (xi l 8) (xi x 5) (xi x 6) (xi x 7)) (J5 (xi l 8) (xi x 5) (xi x 6) (xi x 7)) (JO (xi l 8) (J2 x)) (JN (xi l 8) (J2 x)) (JL (J2 x)) (JT (J2 l)) != 0 then xi y q0 else xi x q0
def JRR:Int:= Qy x l y 0
def JQi:Int:= Qy x l y 1
def JQs:Int:= Qy x l y 2
def JPu:Int:= Qy x l y 3
def JRQ:Int:= Qy x l y 4
def JQE:Int:= Qy x l y 5
def JSg:Int:= Qy x l y 6
def JS1:Int:= Qy x l y 7
def JRt:Int:= Qy x l y 8
def JQH:Int:= Qy x l y 9
def JSc:Int:= Qy x l y 10
def JRw:Int:= Qy x l y 11
def JPq:Int:= Qy x l y 12
def JCA:Bool:= bif Qd (J4 (xi l 8) (xi x 2) (xi x 3) (xi x 4)) (J5 (xi l 8) (xi x 2) (xi x 3) (xi x 4)) (J4 (xi l 8) (xi x 5) (xi x 6) (xi x 7)) (J5 (xi l 8) (xi x 5) (xi x 6) (xi x 7)) (JO (xi l 8) (J2 x)) (JN (xi l 8) (J2 x)) (JL (J2 x)) (JT (J2 l)) != 0 then xb y q0 else xb x q0
def JQr:Bool:= JCA x l y 13
def JRZ:Int:= Qy x l y 14
def JQd:Bool:= JCA x l y 15
def JSa:Int:= Qy x l y 16
def JSX:Int:= Qy x l y 17
def JRj:Int:= Qy x l y 18
def JPn:Int:= Qy x l y 19
def JSv:Int:= Qy x l y 20
def JSI:Bool:= JCA x l y 21
def JFg:Int:= bif Qd (J4 (xi l 8) (xi x 2) (xi x 3) (xi x 4)) (J5 (xi l 8) (xi x 2) (xi x 3) (xi x 4)) (J4 (xi l 8) (xi x 5) (xi x 6) (xi x 7)) (J5 (xi l 8) (xi x 5) (xi x 6) (xi x 7)) (JO (xi l 8) (J2 x)) (JN (xi l 8) (J2 x)) (JL (J2 x)) (JT (J2 l)) != 0 then st0 else Kg (J4 (xi l 8) (xi x 2) (xi x 3) (xi x 4)) (J5 (xi l 8) (xi x 2) (xi x 3) (xi x 4)) (J4 (xi l 8) (xi x 5) (xi x 6) (xi x 7)) (J5 (xi l 8) (xi x 5) (xi x 6) (xi x 7)) (JO (xi l 8) (J2 x)) (JN (xi l 8) (J2 x)) (JL (J2 x)) (JT (J2 l))
def JFo:Int:= bif Qd (J4 (xi l 8) (xi x 2) (xi x 3) (xi x 4)) (J5 (xi l 8) (xi x 2) (xi x 3) (xi x 4)) (J4 (xi l 8) (xi x 5) (xi x 6) (xi x 7)) (J5 (xi l 8) (xi x 5) (xi x 6) (xi x 7)) (JO (xi l 8) (J2 x)) (JN (xi l 8) (J2 x)) (JL (J2 x)) (JT (J2 l)) != 0 then st1 else Kd (J4 (xi l 8) (xi x 2) (xi x 3) (xi x 4)) (J5 (xi l 8) (xi x 2) (xi x 3) (xi x 4)) (J4 (xi l 8) (xi x 5) (xi x 6) (xi x 7)) (J5 (xi l 8) (xi x 5) (xi x 6) (xi x 7)) (JO (xi l 8) (J2 x)) (JN (xi l 8) (J2 x)) (JL (J2 x)) (JT (J2 l))
def JSo:Bool:= Qd (J4 (xi l 8) (xi x 2) (xi x 3) (xi x 4)) (J5 (xi l 8) (xi x 2) (xi x 3) (xi x 4)) (J4 (xi l 8) (xi x 5) (xi x 6) (xi x 7)) (J5 (xi l 8) (xi x 5) (xi x 6) (xi x 7)) (JO (xi l 8) (J2 x)) (JN (xi l 8) (J2 x)) (JL (J2 x)) (JT (J2 l)) != 0 && rtr
def JFu:LL:= bif Qd (J4 (xi l 8) (xi x 2) (xi x 3) (xi x 4)) (J5 (xi l 8) (xi x 2) (xi x 3) (xi x 4)) (J4 (xi l 8) (xi x 5) (xi x 6) (xi x 7)) (J5 (xi l 8) (xi x 5) (xi x 6) (xi x 7)) (JO (xi l 8) (J2 x)) (JN (xi l 8) (J2 x)) (JL (J2 x)) (JT (J2 l)) != 0 then C else []
def JAz:List Prop:= [(Qd (J4 (xi l 8) (xi x 2) (xi x 3) (xi x 4)) (J5 (xi l 8) (xi x 2) (xi x 3) (xi x 4)) (J4 (xi l 8) (xi x 5) (xi x 6) (xi x 7)) (J5 (xi l 8) (xi x 5) (xi x 6) (xi x 7)) (JO (xi l 8) (J2 x)) (JN (xi l 8) (J2 x)) (JL (J2 x)) (JT (J2 l)) != 0) = false → C.length ≤ 1000 ∧ (1 + (ZC (J2 l) (Kg (J4 (xi l 8) (xi x 2) (xi x 3) (xi x 4)) (J5 (xi l 8) (xi x 2) (xi x 3) (xi x 4)) (J4 (xi l 8) (xi x 5) (xi x 6) (xi x 7)) (J5 (xi l 8) (xi x 5) (xi x 6) (xi x 7)) (JO (xi l 8) (J2 x)) (JN (xi l 8) (J2 x)) (JL (J2 x)) (JT (J2 l))) (Kd (J4 (xi l 8) (xi x 2) (xi x 3) (xi x 4)) (J5 (xi l 8) (xi x 2) (xi x 3) (xi x 4)) (J4 (xi l 8) (xi x 5) (xi x 6) (xi x 7)) (J5 (xi l 8) (xi x 5) (xi x 6) (xi x 7)) (JO (xi l 8) (J2 x)) (JN (xi l 8) (J2 x)) (JL (J2 x)) (JT (J2 l))) C).length) * 176 ≤ 140737488355328 ∧ 1 + (ZC (J2 l) (Kg (J4 (xi l 8) (xi x 2) (xi x 3) (xi x 4)) (J5 (xi l 8) (xi x 2) (xi x 3) (xi x 4)) (J4 (xi l 8) (xi x 5) (xi x 6) (xi x 7)) (J5 (xi l 8) (xi x 5) (xi x 6) (xi x 7)) (JO (xi l 8) (J2 x)) (JN (xi l 8) (J2 x)) (JL (J2 x)) (JT (J2 l))) (Kd (J4 (xi l 8) (xi x 2) (xi x 3) (xi x 4)) (J5 (xi l 8) (xi x 2) (xi x 3) (xi x 4)) (J4 (xi l 8) (xi x 5) (xi x 6) (xi x 7)) (J5 (xi l 8) (xi x 5) (xi x 6) (xi x 7)) (JO (xi l 8) (J2 x)) (JN (xi l 8) (J2 x)) (JL (J2 x)) (JT (J2 l))) C).length ≤ 9223372036854775807]
end
theorem Jiq {x:List GC} {l:List GC} {C:LL} (hW:∀ q ∈ ([C.length ≤ 1000]:List Prop),q):∀ q ∈ (JAz x l C),q := by
  simp only [awc,awn,and_true] at hW
  unfold JAz
  simp only [awc,awn,and_true]
  have r := fun a b => JNS (J2 l) a b C
  exact fun _ => ⟨hW,Nat.le_trans (Nat.mul_le_mul_right _ (Nat.add_le_add_left (r _ _) 1)) (by omega),Nat.le_trans (Nat.add_le_add_left (r _ _) 1) (by omega)⟩
def Jc1 (x:List GC) (rcl rop:Bool) (rer:Int) (rmo ren:Bool) (rla0 rla1 rla2:Int) (l:List GC) (has:Bool) (y:List GC) (st0 st1:Int) (rtr:Bool) (pn0 pn1:Int) (C:LL):Jn := [(11157,Obj.row false 40 22 (RowC.lst 11156 jI (JOT x l C))),(0,Obj.blk 74 [(2,Cb rcl),(3,Cb rop),(4,Ci rer),(5,Cb rmo),(6,Cb ren),(7,Ci rla0),(8,Ci rla1),(9,Ci rla2),(10,Ci (xi l 0)),(11,Ci (xi l 1)),(12,Ci (xi l 2)),(13,Ci (xi l 3)),(14,Ci (xi l 4)),(15,Ci (xi l 5)),(16,Ci (xi l 6)),(17,Ci (xi l 7)),(18,Ci (xi l 8)),(19,Ci (xi l 9)),(20,Ci (xi l 10)),(21,Ci (xi l 11)),(22,Ci (xi l 12)),(23,Cb (xb l 13)),(24,Ci (xi l 14)),(25,Cb (xb l 15)),(26,Ci (xi l 16)),(27,Ci (xi l 17)),(28,Ci (xi l 18)),(29,Ci (xi l 19)),(30,Ci (xi l 20)),(31,Cb (xb l 21)),(11155,SC.wh 11153),(11159,Cb (JSM x l has)),(11160,Ci (JRR x l y)),(11161,Ci (JQi x l y)),(11162,Ci (JQs x l y)),(11163,Ci (JPu x l y)),(11164,Ci (JRQ x l y)),(11165,Ci (JQE x l y)),(11166,Ci (JSg x l y)),(11167,Ci (JS1 x l y)),(11168,Ci (JRt x l y)),(11169,Ci (JQH x l y)),(11170,Ci (JSc x l y)),(11171,Ci (JRw x l y)),(11172,Ci (JPq x l y)),(11173,Cb (JQr x l y)),(11174,Ci (JRZ x l y)),(11175,Cb (JQd x l y)),(11176,Ci (JSa x l y)),(11177,Ci (JSX x l y)),(11178,Ci (JRj x l y)),(11179,Ci (JPn x l y)),(11180,Ci (JSv x l y)),(11181,Cb (JSI x l y)),(11182,Ci (JFg x l st0)),(11183,Ci (JFo x l st1)),(11184,Cb (JSo x l rtr)),(11185,Ci (JFg x l pn0)),(11186,Ci (JFo x l pn1))]),(11153,Obj.row true 40 22 (RowC.lst 11158 jI (JFu x l C))),(1,Obj.row true 40 22 (RowC.lst 61 jI C))]
theorem Jgc (x:List GC) (rcl rop:Bool) (rer:Int) (rmo ren:Bool) (rla0 rla1 rla2:Int) (l:List GC) (has:Bool) (y:List GC) (st0 st1:Int) (rtr:Bool) (pn0 pn1:Int) (C:LL) (hNeeds:∀ pN ∈ (JAz x l C),pN):Runs (JHn (JC JYw) jQ 62) (JDH.args (Je JKe [.v x,.b rcl,.b rop,.i rer,.b rmo,.b ren,.i rla0,.i rla1,.i rla2,.v l,.b has,.v y,.i st0,.i st1,.b rtr,.i pn0,.i pn1])) (JDH.memo (Je JKe [.v x,.b rcl,.b rop,.i rer,.b rmo,.b ren,.i rla0,.i rla1,.i rla2,.v l,.b has,.v y,.i st0,.i st1,.b rtr,.i pn0,.i pn1]) [C]) JDH.n (SV.tup [(false,[SC.wh 11157]),(false,[Ci (JDE x l)])]) (Jc1 x rcl rop rer rmo ren rla0 rla1 rla2 l has y st0 st1 rtr pn0 pn1 C) :=
  Runs.of1 (ps := (JAz x l C)) (by kernel_rfl) hNeeds
def JMb:List Gm → Qs → Option CRes
  | [.v x,.b rcl,.b rop,.i rer,.b rmo,.b ren,.i rla0,.i rla1,.i rla2,.v l,.b has,.v y,.i st0,.i st1,.b rtr,.i pn0,.i pn1],[C] => some ⟨SV.tup [(false,[SC.wh 11157]),(false,[Ci (JDE x l)])],
 Jc1 x rcl rop rer rmo ren rla0 rla1 rla2 l has y st0 st1 rtr pn0 pn1 C,[C.length ≤ 1000],[],11187⟩
  | _,_ => none
theorem Jql:Ql Tryz.prog 62 (Z7 JKe JDH JMb) := by
  refine Qg (KI JP3 62) fun ps ls r hr hn _ => ?_
  unfold JMb at hr
  split at hr
  · cases hr; exact ⟨_,Jgc _ _ _ _ _ _ _ _ _ _ _ _ _ _ _ _ _ _ (Jiq (by exact hn)),fun _ => rfl⟩
  · cases hr
def JZu:List (Nat × JY) := (62,Z7 JKe JDH JMb) :: JYw
theorem JP5:Known Tryz.prog (JC JZu) jQ := J7 JP3 Jql
def Wk:Tpl := ⟨[.one (.ptr 0 0),.agg [.int .i64,.int .i64],.one (.bool)],YH,62⟩
def JDW:List GK := [.i,.i,.b,.b,.b,.i,.b,.b,.i,.i,.i,.v Q5,.b,.v Q5,.i,.i,.b,.i,.i]
section
variable (u0 u1:Int) (Xo:Bool) (l y:List GC) (st0 st1:Int) (rtr:Bool)
def JJo:Int:= J8 (J1 u0 st0) (J1 u1 st1) (J1 (J4 (xi l 8) (xi y 5) (xi y 6) (xi y 7)) (J4 (xi l 8) (xi y 2) (xi y 3) (xi y 4))) (J1 (J5 (xi l 8) (xi y 5) (xi y 6) (xi y 7)) (J5 (xi l 8) (xi y 2) (xi y 3) (xi y 4)))
def XV:Int:= JH (J4 (xi l 8) (xi y 2) (xi y 3) (xi y 4)) (J4 (xi l 8) (xi y 5) (xi y 6) (xi y 7)) (JO (xi l 8) (J2 y)) false
def XZ:Int:= JH (J5 (xi l 8) (xi y 2) (xi y 3) (xi y 4)) (J5 (xi l 8) (xi y 5) (xi y 6) (xi y 7)) (JN (xi l 8) (J2 y)) false
def XU:Int:= JH (J4 (xi l 8) (xi y 2) (xi y 3) (xi y 4)) (J4 (xi l 8) (xi y 5) (xi y 6) (xi y 7)) (JO (xi l 8) (J2 y)) true
def Xg:Int:= JH (J5 (xi l 8) (xi y 2) (xi y 3) (xi y 4)) (J5 (xi l 8) (xi y 5) (xi y 6) (xi y 7)) (JN (xi l 8) (J2 y)) true
def Q8:Int:= bif JL (J2 y) == 0 then bif (rtr || Xo) && decide (JJo u0 u1 l y st0 st1 ≤ 0) then 16 else 0 else bif rtr || Xo then bif !QJ (J2 y) && (!QO (XV l y) (XZ l y) (XU l y) (Xg l y) (bif rtr then J1 st0 (JO (xi l 8) (J2 y)) else XV l y) (bif rtr then J1 st1 (JN (xi l 8) (J2 y)) else XZ l y) (JL (J2 y)) false || !QO (bif rtr then J1 st0 (JO (xi l 8) (J2 y)) else XV l y) (bif rtr then J1 st1 (JN (xi l 8) (J2 y)) else XZ l y) (XU l y) (Xg l y) (bif Xo then J1 u0 (JO (xi l 8) (J2 y)) else XU l y) (bif Xo then J1 u1 (JN (xi l 8) (J2 y)) else Xg l y) (JL (J2 y)) false) then 16 else bif WJ (xi y 0) (JQ (xi l 8) st0 st1 (J9 (xi l 8) (xi y 2) (xi y 3) (xi y 4))) (JR (xi l 8) st0 st1 (J9 (xi l 8) (xi y 2) (xi y 3) (xi y 4))) (JS (xi l 8) st0 st1 (J9 (xi l 8) (xi y 2) (xi y 3) (xi y 4))) (JQ (xi l 8) u0 u1 (J9 (xi l 8) (xi y 5) (xi y 6) (xi y 7))) (JR (xi l 8) u0 u1 (J9 (xi l 8) (xi y 5) (xi y 6) (xi y 7))) (JS (xi l 8) u0 u1 (J9 (xi l 8) (xi y 5) (xi y 6) (xi y 7))) (Kf (J2 y)) (XS (J2 y) st0 st1 (J2 l)) (XP (J2 y) st0 st1 (J2 l)) (XT (J2 y) st0 st1 (J2 l)) (xi y 12) false != 0 then 16 else 0 else bif WJ (xi y 0) (JQ (xi l 8) st0 st1 (J9 (xi l 8) (xi y 2) (xi y 3) (xi y 4))) (JR (xi l 8) st0 st1 (J9 (xi l 8) (xi y 2) (xi y 3) (xi y 4))) (JS (xi l 8) st0 st1 (J9 (xi l 8) (xi y 2) (xi y 3) (xi y 4))) (JQ (xi l 8) u0 u1 (J9 (xi l 8) (xi y 5) (xi y 6) (xi y 7))) (JR (xi l 8) u0 u1 (J9 (xi l 8) (xi y 5) (xi y 6) (xi y 7))) (JS (xi l 8) u0 u1 (J9 (xi l 8) (xi y 5) (xi y 6) (xi y 7))) (Kf (J2 y)) (XS (J2 y) st0 st1 (J2 l)) (XP (J2 y) st0 st1 (J2 l)) (XT (J2 y) st0 st1 (J2 l)) (xi y 12) (xb y 13) != 0 then 16 else 0
def JUG:List Int:= [xi y 14,bif xb y 15 then 1 else 0,0,0,xi y 18,xi y 19,xi y 20,bif xb y 21 then 1 else 0]
def ZR:LL:=
 bif JL (J2 y) == 0 then bif (rtr || Xo) && decide (JJo u0 u1 l y st0 st1 ≤ 0) then [] else Yd [GC.i (xi y 0),GC.i (xi y 1),GC.i (JQ (xi l 8) st0 st1 (J9 (xi l 8) (xi y 2) (xi y 3) (xi y 4))),GC.i (JR (xi l 8) st0 st1 (J9 (xi l 8) (xi y 2) (xi y 3) (xi y 4))),GC.i (JS (xi l 8) st0 st1 (J9 (xi l 8) (xi y 2) (xi y 3) (xi y 4))),GC.i (JQ (xi l 8) u0 u1 (J9 (xi l 8) (xi y 5) (xi y 6) (xi y 7))),GC.i (JR (xi l 8) u0 u1 (J9 (xi l 8) (xi y 5) (xi y 6) (xi y 7))),GC.i (JS (xi l 8) u0 u1 (J9 (xi l 8) (xi y 5) (xi y 6) (xi y 7))),GC.i (Kf (J2 y)),GC.i (XS (J2 y) st0 st1 (J2 l)),GC.i (XP (J2 y) st0 st1 (J2 l)),GC.i (XT (J2 y) st0 st1 (J2 l)),GC.i (xi y 12),GC.b (xb y 13),GC.i (xi y 14),GC.b (xb y 15),GC.i 0,GC.i 0,GC.i (xi y 18),GC.i (xi y 19),GC.i (xi y 20),GC.b (xb y 21)] else bif rtr || Xo then bif !QJ (J2 y) && (!QO (XV l y) (XZ l y) (XU l y) (Xg l y) (bif rtr then J1 st0 (JO (xi l 8) (J2 y)) else XV l y) (bif rtr then J1 st1 (JN (xi l 8) (J2 y)) else XZ l y) (JL (J2 y)) false || !QO (bif rtr then J1 st0 (JO (xi l 8) (J2 y)) else XV l y) (bif rtr then J1 st1 (JN (xi l 8) (J2 y)) else XZ l y) (XU l y) (Xg l y) (bif Xo then J1 u0 (JO (xi l 8) (J2 y)) else XU l y) (bif Xo then J1 u1 (JN (xi l 8) (J2 y)) else Xg l y) (JL (J2 y)) false) then [] else bif WJ (xi y 0) (JQ (xi l 8) st0 st1 (J9 (xi l 8) (xi y 2) (xi y 3) (xi y 4))) (JR (xi l 8) st0 st1 (J9 (xi l 8) (xi y 2) (xi y 3) (xi y 4))) (JS (xi l 8) st0 st1 (J9 (xi l 8) (xi y 2) (xi y 3) (xi y 4))) (JQ (xi l 8) u0 u1 (J9 (xi l 8) (xi y 5) (xi y 6) (xi y 7))) (JR (xi l 8) u0 u1 (J9 (xi l 8) (xi y 5) (xi y 6) (xi y 7))) (JS (xi l 8) u0 u1 (J9 (xi l 8) (xi y 5) (xi y 6) (xi y 7))) (Kf (J2 y)) (XS (J2 y) st0 st1 (J2 l)) (XP (J2 y) st0 st1 (J2 l)) (XT (J2 y) st0 st1 (J2 l)) (xi y 12) false != 0 then [] else [xi y 0 :: xi y 1 :: JQ (xi l 8) st0 st1 (J9 (xi l 8) (xi y 2) (xi y 3) (xi y 4)) :: JR (xi l 8) st0 st1 (J9 (xi l 8) (xi y 2) (xi y 3) (xi y 4)) :: JS (xi l 8) st0 st1 (J9 (xi l 8) (xi y 2) (xi y 3) (xi y 4)) :: JQ (xi l 8) u0 u1 (J9 (xi l 8) (xi y 5) (xi y 6) (xi y 7)) :: JR (xi l 8) u0 u1 (J9 (xi l 8) (xi y 5) (xi y 6) (xi y 7)) :: JS (xi l 8) u0 u1 (J9 (xi l 8) (xi y 5) (xi y 6) (xi y 7)) :: Kf (J2 y) :: XS (J2 y) st0 st1 (J2 l) :: XP (J2 y) st0 st1 (J2 l) :: XT (J2 y) st0 st1 (J2 l) :: xi y 12 :: 0 :: JUG y] else bif WJ (xi y 0) (JQ (xi l 8) st0 st1 (J9 (xi l 8) (xi y 2) (xi y 3) (xi y 4))) (JR (xi l 8) st0 st1 (J9 (xi l 8) (xi y 2) (xi y 3) (xi y 4))) (JS (xi l 8) st0 st1 (J9 (xi l 8) (xi y 2) (xi y 3) (xi y 4))) (JQ (xi l 8) u0 u1 (J9 (xi l 8) (xi y 5) (xi y 6) (xi y 7))) (JR (xi l 8) u0 u1 (J9 (xi l 8) (xi y 5) (xi y 6) (xi y 7))) (JS (xi l 8) u0 u1 (J9 (xi l 8) (xi y 5) (xi y 6) (xi y 7))) (Kf (J2 y)) (XS (J2 y) st0 st1 (J2 l)) (XP (J2 y) st0 st1 (J2 l)) (XT (J2 y) st0 st1 (J2 l)) (xi y 12) (xb y 13) != 0 then [] else [xi y 0 :: xi y 1 :: JQ (xi l 8) st0 st1 (J9 (xi l 8) (xi y 2) (xi y 3) (xi y 4)) :: JR (xi l 8) st0 st1 (J9 (xi l 8) (xi y 2) (xi y 3) (xi y 4)) :: JS (xi l 8) st0 st1 (J9 (xi l 8) (xi y 2) (xi y 3) (xi y 4)) :: JQ (xi l 8) u0 u1 (J9 (xi l 8) (xi y 5) (xi y 6) (xi y 7)) :: JR (xi l 8) u0 u1 (J9 (xi l 8) (xi y 5) (xi y 6) (xi y 7)) :: JS (xi l 8) u0 u1 (J9 (xi l 8) (xi y 5) (xi y 6) (xi y 7)) :: Kf (J2 y) :: XS (J2 y) st0 st1 (J2 l) :: XP (J2 y) st0 st1 (J2 l) :: XT (J2 y) st0 st1 (J2 l) :: xi y 12 :: (bif xb y 13 then 1
 else 0) :: JUG y]
end
theorem JIm (u0 u1:Int) (Xo:Bool) (l y:List GC) (st0 st1:Int) (rtr:Bool):(ZR u0 u1 Xo l y st0 st1 rtr).length ≤ 1 := by
  unfold ZR
  repeat' first | exact Nat.le_refl _ | exact Nat.zero_le _ | exact JP0 _ | refine JnH ?_ ?_
def JTU (u0 u1:Int) (Xo rcl rop:Bool) (rer:Int) (rmo ren:Bool) (rla0 rla1 rla2:Int) (l:List GC) (has:Bool) (y:List GC) (st0 st1:Int) (rtr:Bool) (pn0 pn1:Int) (C:LL):Jn := [(5087,Obj.row false 40 22 (RowC.lst 5086 jI (ZR u0 u1 Xo l y st0 st1 rtr))),(0,Obj.blk 74 [(2,Cb rcl),(3,Cb rop),(4,Ci rer),(5,Cb rmo),(6,Cb ren),(7,Ci rla0),(8,Ci rla1),(9,Ci rla2),(10,Ci (xi l 0)),(11,Ci (xi l 1)),(12,Ci (xi l 2)),(13,Ci (xi l 3)),(14,Ci (xi l 4)),(15,Ci (xi l 5)),(16,Ci (xi l 6)),(17,Ci (xi l 7)),(18,Ci (xi l 8)),(19,Ci (xi l 9)),(20,Ci (xi l 10)),(21,Ci (xi l 11)),(22,Ci (xi l 12)),(23,Cb (xb l 13)),(24,Ci (xi l 14)),(25,Cb (xb l 15)),(26,Ci (xi l 16)),(27,Ci (xi l 17)),(28,Ci (xi l 18)),(29,Ci (xi l 19)),(30,Ci (xi l 20)),(31,Cb (xb l 21)),(32,SC.wh 1),(33,Cb has),(34,Ci (xi y 0)),(35,Ci (xi y 1)),(36,Ci (xi y 2)),(37,Ci (xi y 3)),(38,Ci (xi y 4)),(39,Ci (xi y 5)),(40,Ci (xi y 6)),(41,Ci (xi y 7)),(42,Ci (xi y 8)),(43,Ci (xi y 9)),(44,Ci (xi y 10)),(45,Ci (xi y 11)),(46,Ci (xi y 12)),(47,Cb (xb y 13)),(48,Ci (xi y 14)),(49,Cb (xb y 15)),(50,Ci (xi y 16)),(51,Ci (xi y 17)),(52,Ci (xi y 18)),(53,Ci (xi y 19)),(54,Ci (xi y 20)),(55,Cb (xb y 21)),(56,Ci st0),(57,Ci st1),(58,Cb rtr),(59,Ci pn0),(60,Ci pn1)]),(1,Obj.row true 40 22 (RowC.lst 61 jI C))]
theorem JbV (u0 u1:Int) (Xo rcl rop:Bool) (rer:Int) (rmo ren:Bool) (rla0 rla1 rla2:Int) (l:List GC) (has:Bool) (y:List GC) (st0 st1:Int) (rtr:Bool) (pn0 pn1:Int) (C:LL):Runs (JHn (JC JZu) jQ 86) (Wk.args (Je JDW [.i u0,.i u1,.b Xo,.b rcl,.b rop,.i rer,.b rmo,.b ren,.i rla0,.i rla1,.i rla2,.v l,.b has,.v y,.i st0,.i st1,.b rtr,.i pn0,.i pn1])) (Wk.memo (Je JDW [.i u0,.i u1,.b Xo,.b rcl,.b rop,.i rer,.b rmo,.b ren,.i rla0,.i rla1,.i rla2,.v l,.b has,.v y,.i st0,.i st1,.b rtr,.i pn0,.i pn1]) [C]) Wk.n (SV.tup [(false,[SC.wh 5087]),(false,[Ci (Q8 u0 u1 Xo l y st0 st1 rtr)])]) (JTU u0 u1 Xo rcl rop rer rmo ren rla0 rla1 rla2 l has y st0 st1 rtr pn0 pn1 C) :=
  Runs.of1 (ps := []) (by kernel_rfl) (by simp)
def JHA:List Gm → Qs → Option CRes
  | [.i u0,.i u1,.b Xo,.b rcl,.b rop,.i rer,.b rmo,.b ren,.i rla0,.i rla1,.i rla2,.v l,.b has,.v y,.i st0,.i st1,.b rtr,.i pn0,.i pn1],[C] => some ⟨SV.tup [(false,[SC.wh 5087]),(false,[Ci (Q8 u0 u1 Xo l y st0 st1 rtr)])],
 JTU u0 u1 Xo rcl rop rer rmo ren rla0 rla1 rla2 l has y st0 st1 rtr pn0 pn1 C,[],[],5089⟩
  | _,_ => none
theorem Jib:Ql Tryz.prog 86 (Z7 JDW Wk JHA) := by
  refine Qg (KI JP5 86) fun ps ls r hr hn _ => ?_
  unfold JHA at hr
  split at hr
  · cases hr; exact ⟨_,JbV _ _ _ _ _ _ _ _ _ _ _ _ _ _ _ _ _ _ _ _,fun _ => rfl⟩
  · cases hr
def JNR:List (Nat × JY) := (86,Z7 JDW Wk JHA) :: JZu
theorem JJM:Known Tryz.prog (JC JNR) jQ := J7 JP5 Jib
def qh:Tpl := ⟨[.one (.ptr 0 0),.agg pI,.agg [.int .i64,.int .i64],.agg [.int .i64,.int .i64],.one (.bool)],YH,62⟩
def JHE:List GK := [.v Q5,.i,.i,.i,.i,.b,.b,.b,.i,.b,.b,.i,.i,.i,.v Q5,.b,.v Q5,.i,.i,.b,.i,.i]
section
variable (x:List GC) (u0 u1 v0 v1:Int) (out:Bool) (l:List GC)
def Y4:Int:= JF (J1 u0 (J4 (xi l 8) (xi x 2) (xi x 3) (xi x 4))) (J1 u1 (J5 (xi l 8) (xi x 2) (xi x 3) (xi x 4))) (J1 v0 (J4 (xi l 8) (xi x 2) (xi x 3) (xi x 4))) (J1 v1 (J5 (xi l 8) (xi x 2) (xi x 3) (xi x 4)))
def Y3:Int:= IntKind.i64.wrap (Y4 x u0 u1 v0 v1 l * IntKind.i64.wrap (0 - xi l 16))
def Yc:Int:= J8 (J1 u0 (J4 (xi l 8) (xi x 2) (xi x 3) (xi x 4))) (J1 u1 (J5 (xi l 8) (xi x 2) (xi x 3) (xi x 4))) (J1 v0 (J4 (xi l 8) (xi x 2) (xi x 3) (xi x 4))) (J1 v1 (J5 (xi l 8) (xi x 2) (xi x 3) (xi x 4)))
def ZQ:Int:= J8 (J1 u0 (J4 (xi l 8) (xi x 2) (xi x 3) (xi x 4))) (J1 u1 (J5 (xi l 8) (xi x 2) (xi x 3) (xi x 4))) (J1 u0 (J4 (xi l 8) (xi x 2) (xi x 3) (xi x 4))) (J1 u1 (J5 (xi l 8) (xi x 2) (xi x 3) (xi x 4)))
def Wc:LL:= Yd [GC.i (bif out && (decide (Y3 x u0 u1 v0 v1 l > 0) || Y4 x u0 u1 v0 v1 l == 0 && decide (Yc x u0 u1 v0 v1 l < 0)) && decide (ZQ x u0 u1 l ≥ 64) && decide (ZQ x v0 v1 l ≥ 64) then 3 else 2),GC.i (xi x 1),GC.i (JQ (xi l 8) u0 u1 (J9 (xi l 8) (xi x 2) (xi x 3) (xi x 4))),GC.i (JR (xi l 8) u0 u1 (J9 (xi l 8) (xi x 2) (xi x 3) (xi x 4))),GC.i (JS (xi l 8) u0 u1 (J9 (xi l 8) (xi x 2) (xi x 3) (xi x 4))),GC.i (JQ (xi l 8) v0 v1 (J9 (xi l 8) (xi x 2) (xi x 3) (xi x 4))),GC.i (JR (xi l 8) v0 v1 (J9 (xi l 8) (xi x 2) (xi x 3) (xi x 4))),GC.i (JS (xi l 8) v0 v1 (J9 (xi l 8) (xi x 2) (xi x 3) (xi x 4))),GC.i (bif out && (decide (Y3 x u0 u1 v0 v1 l > 0) || Y4 x u0 u1 v0 v1 l == 0 && decide (Yc x u0 u1 v0 v1 l < 0)) && decide (ZQ x u0 u1 l ≥ 64) && decide (ZQ x v0 v1 l ≥ 64) then xi l 8 else 0),GC.i (bif out && (decide (Y3 x u0 u1 v0 v1 l > 0) || Y4 x u0 u1 v0 v1 l == 0 && decide (Yc x u0 u1 v0 v1 l < 0)) && decide (ZQ x u0 u1 l ≥ 64) && decide (ZQ x v0 v1 l ≥ 64) then JQ (xi l 8) (J4 (xi l 8) (xi x 2) (xi x 3) (xi x 4)) (J5 (xi l 8) (xi x 2) (xi x 3) (xi x 4)) (J9 (xi l 8) (xi x 2) (xi x 3) (xi x 4)) else 0),GC.i (bif out && (decide (Y3 x u0 u1 v0 v1 l > 0) || Y4 x u0 u1 v0 v1 l == 0 && decide (Yc x u0 u1 v0 v1 l < 0)) && decide (ZQ x u0 u1 l ≥ 64) && decide (ZQ x v0 v1 l ≥ 64) then JR (xi l 8) (J4 (xi l 8) (xi x 2) (xi x 3) (xi x 4)) (J5 (xi l 8) (xi x 2) (xi x 3) (xi x 4)) (J9 (xi l 8) (xi x 2) (xi x 3) (xi x 4)) else 0),GC.i (bif out && (decide (Y3 x u0 u1 v0 v1 l > 0) || Y4 x u0 u1 v0 v1 l == 0 && decide (Yc x u0 u1 v0 v1 l < 0)) && decide (ZQ x u0 u1 l ≥ 64) && decide (ZQ x v0 v1 l ≥ 64) then JS (xi l 8) (J4 (xi l 8) (xi x 2) (xi x 3) (xi x 4)) (J5 (xi l 8) (xi x 2) (xi x 3) (xi x 4)) (J9 (xi l 8) (xi x 2) (xi x 3) (xi x 4)) else 0),GC.i (bif out && (decide (Y3 x u0 u1 v0 v1 l > 0) || Y4 x u0 u1 v0 v1 l == 0 && decide (Yc x u0 u1 v0 v1 l < 0)) && decide (ZQ x u0 u1 l ≥ 64) && decide (ZQ x v0 v1 l ≥ 64) then IntKind.i64.wrap (0 - xi l 16) else 0),GC.b false,GC.i (xi x 14),GC.b (xb x 15),GC.i 0,GC.i 0,GC.i 0,GC.i 0,GC.i 0,GC.b false]
end
theorem Jbh (x:List GC) (u0 u1 v0 v1:Int) (out:Bool) (l:List GC):(Wc x u0 u1 v0 v1 out l).length ≤ 1 := by
  unfold Wc
  exact JP0 _
def JW7 (x:List GC) (u0 u1 v0 v1:Int) (out rcl rop:Bool) (rer:Int) (rmo ren:Bool) (rla0 rla1 rla2:Int) (l:List GC) (has:Bool) (y:List GC) (st0 st1:Int) (rtr:Bool) (pn0 pn1:Int) (C:LL):Jn := [(925,Obj.row false 40 22 (RowC.lst 924 jI (Wc x u0 u1 v0 v1 out l))),(0,Obj.blk 74 [(2,Cb rcl),(3,Cb rop),(4,Ci rer),(5,Cb rmo),(6,Cb ren),(7,Ci rla0),(8,Ci rla1),(9,Ci rla2),(10,Ci (xi l 0)),(11,Ci (xi l 1)),(12,Ci (xi l 2)),(13,Ci (xi l 3)),(14,Ci (xi l 4)),(15,Ci (xi l 5)),(16,Ci (xi l 6)),(17,Ci (xi l 7)),(18,Ci (xi l 8)),(19,Ci (xi l 9)),(20,Ci (xi l 10)),(21,Ci (xi l 11)),(22,Ci (xi l 12)),(23,Cb (xb l 13)),(24,Ci (xi l 14)),(25,Cb (xb l 15)),(26,Ci (xi l 16)),(27,Ci (xi l 17)),(28,Ci (xi l 18)),(29,Ci (xi l 19)),(30,Ci (xi l 20)),(31,Cb (xb l 21)),(32,SC.wh 1),(33,Cb has),(34,Ci (xi y 0)),(35,Ci (xi y 1)),(36,Ci (xi y 2)),(37,Ci (xi y 3)),(38,Ci (xi y 4)),(39,Ci (xi y 5)),(40,Ci (xi y 6)),(41,Ci (xi y 7)),(42,Ci (xi y 8)),(43,Ci (xi y 9)),(44,Ci (xi y 10)),(45,Ci (xi y 11)),(46,Ci (xi y 12)),(47,Cb (xb y 13)),(48,Ci (xi y 14)),(49,Cb (xb y 15)),(50,Ci (xi y 16)),(51,Ci (xi y 17)),(52,Ci (xi y 18)),(53,Ci (xi y 19)),(54,Ci (xi y 20)),(55,Cb (xb y 21)),(56,Ci st0),(57,Ci st1),(58,Cb rtr),(59,Ci pn0),(60,Ci pn1)]),(1,Obj.row true 40 22 (RowC.lst 61 jI C))]
theorem Jem (x:List GC) (u0 u1 v0 v1:Int) (out rcl rop:Bool) (rer:Int) (rmo ren:Bool) (rla0 rla1 rla2:Int) (l:List GC) (has:Bool) (y:List GC) (st0 st1:Int) (rtr:Bool) (pn0 pn1:Int) (C:LL):Runs (JHn (JC JNR) jQ 92) (qh.args (Je JHE [.v x,.i u0,.i u1,.i v0,.i v1,.b out,.b rcl,.b rop,.i rer,.b rmo,.b ren,.i rla0,.i rla1,.i rla2,.v l,.b has,.v y,.i st0,.i st1,.b rtr,.i pn0,.i pn1])) (qh.memo (Je JHE [.v x,.i u0,.i u1,.i v0,.i v1,.b out,.b rcl,.b rop,.i rer,.b rmo,.b ren,.i rla0,.i rla1,.i rla2,.v l,.b has,.v y,.i st0,.i st1,.b rtr,.i pn0,.i pn1]) [C]) qh.n (SV.one (SC.wh 925)) (JW7 x u0 u1 v0 v1 out rcl rop rer rmo ren rla0 rla1 rla2 l has y st0 st1 rtr pn0 pn1 C) :=
  Runs.of1 (ps := []) (by kernel_rfl) (by simp)
def JJy:List Gm → Qs → Option CRes
  | [.v x,.i u0,.i u1,.i v0,.i v1,.b out,.b rcl,.b rop,.i rer,.b rmo,.b ren,.i rla0,.i rla1,.i rla2,.v l,.b has,.v y,.i st0,.i st1,.b rtr,.i pn0,.i pn1],[C] => some ⟨SV.one (SC.wh 925),
 JW7 x u0 u1 v0 v1 out rcl rop rer rmo ren rla0 rla1 rla2 l has y st0 st1 rtr pn0 pn1 C,[],[],928⟩
  | _,_ => none
theorem Jki:Ql Tryz.prog 92 (Z7 JHE qh JJy) := by
  refine Qg (KI JJM 92) fun ps ls r hr hn _ => ?_
  unfold JJy at hr
  split at hr
  · cases hr; exact ⟨_,Jem _ _ _ _ _ _ _ _ _ _ _ _ _ _ _ _ _ _ _ _ _ _ _,fun _ => rfl⟩
  · cases hr
def Jd3:List (Nat × JY) := (92,Z7 JHE qh JJy) :: JNR
theorem Jbi:Known Tryz.prog (JC Jd3) jQ := J7 JJM Jki
def JwE:JY := fun _ _ n => some ⟨.one .nilp,[],[False],[],n⟩
theorem JvX (P:Program) (f:FuncId):Ql P f JwE := fun _ _ _ r h hn => by cases h; exact absurd (hn False (by simp)) id
def Jj8:List (Nat × JY) := (2000000 + 85,JwE) :: Jd3
theorem JWz:Known Tryz.prog (JC Jj8) jQ := J7 Jbi (JvX _ _)
theorem JnW {A B C:LL} (ha:A.length ≤ 1) (hb:B.length ≤ C.length) (hc:C.length ≤ 1000):(A.length + B.length) * 176 ≤ 140737488355328 ∧ A.length + B.length ≤ 9223372036854775807 := by omega
theorem JwN {A B C:LL} (ha:A.length ≤ 1) (hb:B.length ≤ C.length) (hc:C.length ≤ 1000):((A ++ B).length + 1) * 176 ≤ 140737488355328 ∧ (A ++ B).length + 1 ≤ 9223372036854775807 := by rw [List.length_append]; omega
theorem JwX {A B C J:LL} (ha:A.length ≤ 1) (hb:B.length ≤ C.length) (hj:J.length ≤ 1) (hc:C.length ≤ 1000):((A ++ B).length + J.length) * 176 ≤ 140737488355328 ∧ (A ++ B).length + J.length ≤ 9223372036854775807 := by rw [List.length_append]; omega
theorem WR {c:Bool} {a b:LL} {k:Nat} (h:a.length ≤ k) (h':b.length ≤ k):(bif c then a else b).length ≤ k := by cases c <;> assumption
def JD3:Tpl := ⟨[.one (.ptr 0 0),.agg pI],YH,62⟩
def JKX:List GK := [.v Q5,.b,.b,.i,.b,.b,.i,.i,.i,.v Q5,.b,.v Q5,.i,.i,.b,.i,.i]
section
variable (x l y:List GC) (st0 st1:Int) (rtr:Bool) (C:LL)
def Wf:Int:= Qd (J4 (xi l 8) (xi y 2) (xi y 3) (xi y 4)) (J5 (xi l 8) (xi y 2) (xi y 3) (xi y 4)) (J4 (xi l 8) (xi y 5) (xi y 6) (xi y 7)) (J5 (xi l 8) (xi y 5) (xi y 6) (xi y 7)) (JO (xi l 8) (J2 y)) (JN (xi l 8) (J2 y)) (JL (J2 y)) (JT (J2 l))
def JCB:Int:= Q8 (Xm (J4 (xi l 8) (xi y 2) (xi y 3) (xi y 4)) (J5 (xi l 8) (xi y 2) (xi y 3) (xi y 4)) (J4 (xi l 8) (xi y 5) (xi y 6) (xi y 7)) (J5 (xi l 8) (xi y 5) (xi y 6) (xi y 7)) (JO (xi l 8) (J2 y)) (JN (xi l 8) (J2 y)) (JL (J2 y)) (JT (J2 l))) (Xk (J4 (xi l 8) (xi y 2) (xi y 3) (xi y 4)) (J5 (xi l 8) (xi y 2) (xi y 3) (xi y 4)) (J4 (xi l 8) (xi y 5) (xi y 6) (xi y 7)) (J5 (xi l 8) (xi y 5) (xi y 6) (xi y 7)) (JO (xi l 8) (J2 y)) (JN (xi l 8) (J2 y)) (JL (J2 y)) (JT (J2 l))) false (J2 l) (J2 y) st0 st1 rtr
def JCu:Int:= bif Wf l y != 0 then Wf l y else bif JCB l y st0 st1 rtr != 0 then JCB l y st0 st1 rtr else 0
def QZ:Int:= Xm (J4 (xi l 8) (xi y 2) (xi y 3) (xi y 4)) (J5 (xi l 8) (xi y 2) (xi y 3) (xi y 4)) (J4 (xi l 8) (xi y 5) (xi y 6) (xi y 7)) (J5 (xi l 8) (xi y 5) (xi y 6) (xi y 7)) (JO (xi l 8) (J2 y)) (JN (xi l 8) (J2 y)) (JL (J2 y)) (JT (J2 l))
def Qa:Int:= Xk (J4 (xi l 8) (xi y 2) (xi y 3) (xi y 4)) (J5 (xi l 8) (xi y 2) (xi y 3) (xi y 4)) (J4 (xi l 8) (xi y 5) (xi y 6) (xi y 7)) (J5 (xi l 8) (xi y 5) (xi y 6) (xi y 7)) (JO (xi l 8) (J2 y)) (JN (xi l 8) (J2 y)) (JL (J2 y)) (JT (J2 l))
def JNs:LL:= bif Qd (J4 (xi l 8) (xi y 2) (xi y 3) (xi y 4)) (J5 (xi l 8) (xi y 2) (xi y 3) (xi y 4)) (J4 (xi l 8) (xi y 5) (xi y 6) (xi y 7)) (J5 (xi l 8) (xi y 5) (xi y 6) (xi y 7)) (JO (xi l 8) (J2 y)) (JN (xi l 8) (J2 y)) (JL (J2 y)) (JT (J2 l)) != 0 then [] else bif Q8 (QZ l y) (Qa l y) false (J2 l) (J2 y) st0 st1 rtr != 0 then [] else ZR (QZ l y) (Qa l y) false (J2 l) (J2 y) st0 st1 rtr ++ ZC (J2 l) (QZ l y) (Qa l y) C ++ [[xi x 0,xi x 1,JQ (xi l 8) (QZ l y) (Qa l y) (J9 (xi l 8) (xi x 2) (xi x 3) (xi x 4)),JR (xi l 8) (QZ l y) (Qa l y) (J9 (xi l 8) (xi x 2) (xi x 3) (xi x 4)),JS (xi l 8) (QZ l y) (Qa l y) (J9 (xi l 8) (xi x 2) (xi x 3) (xi x 4)),xi x 5,xi x 6,xi x 7,xi x 8,xi x 9,xi x 10,xi x 11,xi x 12,bif xb x 13 then 1 else 0,xi x 14,bif xb x 15 then 1 else 0,xi x 16,xi x 17,xi x 18,xi x 19,xi x 20,bif xb x 21 then 1 else 0]]
end
def JM0 (l:List GC) (y:List GC) := Xm (J4 (xi l 8) (xi y 2) (xi y 3) (xi y 4)) (J5 (xi l 8) (xi y 2) (xi y 3) (xi y 4)) (J4 (xi l 8) (xi y 5) (xi y 6) (xi y 7)) (J5 (xi l 8) (xi y 5) (xi y 6) (xi y 7)) (JO (xi l 8) (J2 y)) (JN (xi l 8) (J2 y)) (JL (J2 y)) (JT (J2 l))
def JM4 (l:List GC) (y:List GC) := Xk (J4 (xi l 8) (xi y 2) (xi y 3) (xi y 4)) (J5 (xi l 8) (xi y 2) (xi y 3) (xi y 4)) (J4 (xi l 8) (xi y 5) (xi y 6) (xi y 7)) (J5 (xi l 8) (xi y 5) (xi y 6) (xi y 7)) (JO (xi l 8) (J2 y)) (JN (xi l 8) (J2 y)) (JL (J2 y)) (JT (J2 l))
section
variable (rop:Bool) (l:List GC) (has:Bool) (y:List GC) (st0 st1:Int) (rtr:Bool) (C:LL) (pn1 pn0:Int)
def Ja6:Bool:= bif Qd (J4 (xi l 8) (xi y 2) (xi y 3) (xi y 4)) (J5 (xi l 8) (xi y 2) (xi y 3) (xi y 4)) (J4 (xi l 8) (xi y 5) (xi y 6) (xi y 7)) (J5 (xi l 8) (xi y 5) (xi y 6) (xi y 7)) (JO (xi l 8) (J2 y)) (JN (xi l 8) (J2 y)) (JL (J2 y)) (JT (J2 l)) != 0 then rop else Q8 (JM0 l y) (JM4 l y) false (J2 l) (J2 y) st0 st1 rtr != 0 && rop
def JRA:Bool:= bif Qd (J4 (xi l 8) (xi y 2) (xi y 3) (xi y 4)) (J5 (xi l 8) (xi y 2) (xi y 3) (xi y 4)) (J4 (xi l 8) (xi y 5) (xi y 6) (xi y 7)) (J5 (xi l 8) (xi y 5) (xi y 6) (xi y 7)) (JO (xi l 8) (J2 y)) (JN (xi l 8) (J2 y)) (JL (J2 y)) (JT (J2 l)) != 0 then has else Q8 (JM0 l y) (JM4 l y) false (J2 l) (J2 y) st0 st1 rtr != 0 && has
def JSz:Int:= bif Qd (J4 (xi l 8) (xi y 2) (xi y 3) (xi y 4)) (J5 (xi l 8) (xi y 2) (xi y 3) (xi y 4)) (J4 (xi l 8) (xi y 5) (xi y 6) (xi y 7)) (J5 (xi l 8) (xi y 5) (xi y 6) (xi y 7)) (JO (xi l 8) (J2 y)) (JN (xi l 8) (J2 y)) (JL (J2 y)) (JT (J2 l)) != 0 then pn0 else bif Q8 (QZ l y) (JM4 l y) false (J2 l) (J2 y) st0 st1 rtr != 0 then pn0 else QZ l y
def JSC:Int:= bif Qd (J4 (xi l 8) (xi y 2) (xi y 3) (xi y 4)) (J5 (xi l 8) (xi y 2) (xi y 3) (xi y 4)) (J4 (xi l 8) (xi y 5) (xi y 6) (xi y 7)) (J5 (xi l 8) (xi y 5) (xi y 6) (xi y 7)) (JO (xi l 8) (J2 y)) (JN (xi l 8) (J2 y)) (JL (J2 y)) (JT (J2 l)) != 0 then pn1 else bif Q8 (JM0 l y) (Qa l y) false (J2 l) (J2 y) st0 st1 rtr != 0 then pn1 else Qa l y
def JFV:LL:= bif Qd (J4 (xi l 8) (xi y 2) (xi y 3) (xi y 4)) (J5 (xi l 8) (xi y 2) (xi y 3) (xi y 4)) (J4 (xi l 8) (xi y 5) (xi y 6) (xi y 7)) (J5 (xi l 8) (xi y 5) (xi y 6) (xi y 7)) (JO (xi l 8) (J2 y)) (JN (xi l 8) (J2 y)) (JL (J2 y)) (JT (J2 l)) != 0 then C else bif Q8 (JM0 l y) (JM4 l y) false (J2 l) (J2 y) st0 st1 rtr != 0 then C else []
def JB3:List Prop:= [(Qd (J4 (xi l 8) (xi y 2) (xi y 3) (xi y 4)) (J5 (xi l 8) (xi y 2) (xi y 3) (xi y 4)) (J4 (xi l 8) (xi y 5) (xi y 6) (xi y 7)) (J5 (xi l 8) (xi y 5) (xi y 6) (xi y 7)) (JO (xi l 8) (J2 y)) (JN (xi l 8) (J2 y)) (JL (J2 y)) (JT (J2 l)) != 0) = false → (Q8 (QZ l y) (Qa l y) false (J2 l) (J2 y) st0 st1 rtr != 0) = false → C.length ≤ 1000 ∧ ((ZR (QZ l y) (Qa l y) false (J2 l) (J2 y) st0 st1 rtr).length + (ZC (J2 l) (QZ l y) (Qa l y) C).length) * 176 ≤ 140737488355328 ∧ (ZR (QZ l y) (Qa l y) false (J2 l) (J2 y) st0 st1 rtr).length + (ZC (J2 l) (QZ l y) (Qa l y) C).length ≤ 9223372036854775807 ∧ ((ZR (QZ l y) (Qa l y) false (J2 l) (J2 y) st0 st1 rtr ++ ZC (J2 l) (QZ l y) (Qa l y) C).length + 1) * 176 ≤ 140737488355328 ∧ (ZR (QZ l y) (Qa l y) false (J2 l) (J2 y) st0 st1 rtr ++ ZC (J2 l) (QZ l y) (Qa l y) C).length + 1 ≤ 9223372036854775807]
end
theorem Ji9 {l:List GC} {y:List GC} {st0:Int} {st1:Int} {rtr:Bool} {C:LL} (hW:∀ q ∈ ([C.length ≤ 1000]:List Prop),q):∀ q ∈ (JB3 l y st0 st1 rtr C),q := by
  simp only [awc,awn,and_true] at hW
  unfold JB3
  simp only [awc,awn,and_true]
  have r := fun a b => JNS (J2 l) a b C
  have s := fun u w c => JIm u w c (J2 l) (J2 y) st0 st1 rtr
  exact fun _ _ => ⟨hW,(JnW (s _ _ _) (r _ _) hW).1,(JnW (s _ _ _) (r _ _) hW).2,(JwN (s _ _ _) (r _ _) hW).1,(JwN (s _ _ _) (r _ _) hW).2⟩
def Jd9 (x:List GC) (rcl rop:Bool) (rer:Int) (rmo ren:Bool) (rla0 rla1 rla2:Int) (l:List GC) (has:Bool) (y:List GC) (st0 st1:Int) (rtr:Bool) (pn0 pn1:Int) (C:LL):Jn := [(15482,Obj.row false 40 22 (RowC.lst 15481 jI (JNs x l y st0 st1 rtr C))),(0,Obj.blk 74 [(2,Cb rcl),(15487,Cb (Ja6 rop l y st0 st1 rtr)),(4,Ci rer),(5,Cb rmo),(6,Cb ren),(7,Ci rla0),(8,Ci rla1),(9,Ci rla2),(10,Ci (xi l 0)),(11,Ci (xi l 1)),(12,Ci (xi l 2)),(13,Ci (xi l 3)),(14,Ci (xi l 4)),(15,Ci (xi l 5)),(16,Ci (xi l 6)),(17,Ci (xi l 7)),(18,Ci (xi l 8)),(19,Ci (xi l 9)),(20,Ci (xi l 10)),(21,Ci (xi l 11)),(22,Ci (xi l 12)),(23,Cb (xb l 13)),(24,Ci (xi l 14)),(25,Cb (xb l 15)),(26,Ci (xi l 16)),(27,Ci (xi l 17)),(28,Ci (xi l 18)),(29,Ci (xi l 19)),(30,Ci (xi l 20)),(31,Cb (xb l 21)),(15480,SC.wh 15478),(15488,Cb (JRA l has y st0 st1 rtr)),(34,Ci (xi y 0)),(35,Ci (xi y 1)),(36,Ci (xi y 2)),(37,Ci (xi y 3)),(38,Ci (xi y 4)),(39,Ci (xi y 5)),(40,Ci (xi y 6)),(41,Ci (xi y 7)),(42,Ci (xi y 8)),(43,Ci (xi y 9)),(44,Ci (xi y 10)),(45,Ci (xi y 11)),(46,Ci (xi y 12)),(47,Cb (xb y 13)),(48,Ci (xi y 14)),(49,Cb (xb y 15)),(50,Ci (xi y 16)),(51,Ci (xi y 17)),(52,Ci (xi y 18)),(53,Ci (xi y 19)),(54,Ci (xi y 20)),(55,Cb (xb y 21)),(56,Ci st0),(57,Ci st1),(58,Cb rtr),(15489,Ci (JSz l y st0 st1 rtr pn0)),(15490,Ci (JSC l y st0 st1 rtr pn1))]),(15478,Obj.row true 40 22 (RowC.lst 15486 jI (JFV l y st0 st1 rtr C))),(1,Obj.row true 40 22 (RowC.lst 61 jI C))]
theorem Ji7 (x:List GC) (rcl rop:Bool) (rer:Int) (rmo ren:Bool) (rla0 rla1 rla2:Int) (l:List GC) (has:Bool) (y:List GC) (st0 st1:Int) (rtr:Bool) (pn0 pn1:Int) (C:LL) (hNeeds:∀ pN ∈ (JB3 l y st0 st1 rtr C),pN):Runs (JHn (JC Jj8) jQ 60) (JD3.args (Je JKX [.v x,.b rcl,.b rop,.i rer,.b rmo,.b ren,.i rla0,.i rla1,.i rla2,.v l,.b has,.v y,.i st0,.i st1,.b rtr,.i pn0,.i pn1])) (JD3.memo (Je JKX [.v x,.b rcl,.b rop,.i rer,.b rmo,.b ren,.i rla0,.i rla1,.i rla2,.v l,.b has,.v y,.i st0,.i st1,.b rtr,.i pn0,.i pn1]) [C]) JD3.n (SV.tup [(false,[SC.wh 15482]),(false,[Ci (JCu l y st0 st1 rtr)])]) (Jd9 x rcl rop rer rmo ren rla0 rla1 rla2 l has y st0 st1 rtr pn0 pn1 C) :=
  Runs.of1 (ps := (JB3 l y st0 st1 rtr C)) (by kernel_rfl) hNeeds
def JNP:List Gm → Qs → Option CRes
  | [.v x,.b rcl,.b rop,.i rer,.b rmo,.b ren,.i rla0,.i rla1,.i rla2,.v l,.b has,.v y,.i st0,.i st1,.b rtr,.i pn0,.i pn1],[C] => some ⟨SV.tup [(false,[SC.wh 15482]),(false,[Ci (JCu l y st0 st1 rtr)])],Jd9 x rcl rop rer rmo ren rla0 rla1 rla2 l has y st0 st1 rtr pn0 pn1 C,[C.length ≤ 1000],[],15491⟩
  | _,_ => none
theorem Jpk:Ql Tryz.prog 60 (Z7 JKX JD3 JNP) := by
  refine Qg (KI JWz 60) fun ps ls r hr hn _ => ?_
  unfold JNP at hr
  split at hr
  · cases hr; exact ⟨_,Ji7 _ _ _ _ _ _ _ _ _ _ _ _ _ _ _ _ _ _ (Ji9 (by exact hn)),fun _ => rfl⟩
  · cases hr
def JXd:List (Nat × JY) := (60,Z7 JKX JD3 JNP) :: Jj8
theorem JO8:Known Tryz.prog (JC JXd) jQ := J7 JWz Jpk
def JGJ:Tpl := ⟨[.one (.ptr 0 0),.agg pI],YH,62⟩
def JOb:List GK := [.v Q5,.b,.b,.i,.b,.b,.i,.i,.i,.v Q5,.b,.v Q5,.i,.i,.b,.i,.i]
section
variable (x l y:List GC) (st0 st1:Int) (rtr:Bool) (C:LL)
def JPX:Bool:= (bif JT (J2 l) == 0 then 0 else JCH (Qp (J4 (xi l 8) (xi y 2) (xi y 3) (xi y 4)) (J5 (xi l 8) (xi y 2) (xi y 3) (xi y 4)) (J4 (xi l 8) (xi y 5) (xi y 6) (xi y 7)) (J5 (xi l 8) (xi y 5) (xi y 6) (xi y 7)) (JN (xi l 8) (J2 y)) (JL (J2 y)) true) (Qo (J4 (xi l 8) (xi y 2) (xi y 3) (xi y 4)) (J5 (xi l 8) (xi y 2) (xi y 3) (xi y 4)) (J4 (xi l 8) (xi y 5) (xi y 6) (xi y 7)) (J5 (xi l 8) (xi y 5) (xi y 6) (xi y 7)) (JO (xi l 8) (J2 y)) (JL (J2 y)) true) (Qp (J4 (xi l 8) (xi x 2) (xi x 3) (xi x 4)) (J5 (xi l 8) (xi x 2) (xi x 3) (xi x 4)) (J4 (xi l 8) (xi x 5) (xi x 6) (xi x 7)) (J5 (xi l 8) (xi x 5) (xi x 6) (xi x 7)) (JN (xi l 8) (J2 x)) (JL (J2 x)) false) (Qo (J4 (xi l 8) (xi x 2) (xi x 3) (xi x 4)) (J5 (xi l 8) (xi x 2) (xi x 3) (xi x 4)) (J4 (xi l 8) (xi x 5) (xi x 6) (xi x 7)) (J5 (xi l 8) (xi x 5) (xi x 6) (xi x 7)) (JO (xi l 8) (J2 x)) (JL (J2 x)) false) (xi l 16)) == 2
def YZ:Int:= Qd (J4 (xi l 8) (xi y 2) (xi y 3) (xi y 4)) (J5 (xi l 8) (xi y 2) (xi y 3) (xi y 4)) (J4 (xi l 8) (xi y 5) (xi y 6) (xi y 7)) (J5 (xi l 8) (xi y 5) (xi y 6) (xi y 7)) (JO (xi l 8) (J2 y)) (JN (xi l 8) (J2 y)) (JL (J2 y)) (JT (J2 l))
def JaU:Int:= bif JPX x l y then JEP (J4 (xi l 8) (xi y 2) (xi y 3) (xi y 4)) (J5 (xi l 8) (xi y 2) (xi y 3) (xi y 4)) (J4 (xi l 8) (xi y 5) (xi y 6) (xi y 7)) (J5 (xi l 8) (xi y 5) (xi y 6) (xi y 7)) (JO (xi l 8) (J2 y)) (JN (xi l 8) (J2 y)) (JL (J2 y)) (QJ (J2 y)) (J4 (xi l 8) (xi x 2) (xi x 3) (xi x 4)) (J5 (xi l 8) (xi x 2) (xi x 3) (xi x 4)) (J4 (xi l 8) (xi x 5) (xi x 6) (xi x 7)) (J5 (xi l 8) (xi x 5) (xi x 6) (xi x 7)) (JO (xi l 8) (J2 x)) (JN (xi l 8) (J2 x)) (JL (J2 x)) (QJ (J2 x)) (JT (J2 l)) else bif YZ l y == 0 then Qd (J4 (xi l 8) (xi x 2) (xi x 3) (xi x 4)) (J5 (xi l 8) (xi x 2) (xi x 3) (xi x 4)) (J4 (xi l 8) (xi x 5) (xi x 6) (xi x 7)) (J5 (xi l 8) (xi x 5) (xi x 6) (xi x 7)) (JO (xi l 8) (J2 x)) (JN (xi l 8) (J2 x)) (JL (J2 x)) (JT (J2 l)) else YZ l y
def JWU:Int:= Q8 (bif JPX x l y then Wn (J4 (xi l 8) (xi y 2) (xi y 3) (xi y 4)) (J5 (xi l 8) (xi y 2) (xi y 3) (xi y 4)) (J4 (xi l 8) (xi y 5) (xi y 6) (xi y 7)) (J5 (xi l 8) (xi y 5) (xi y 6) (xi y 7)) (JO (xi l 8) (J2 y)) (JN (xi l 8) (J2 y)) (JL (J2 y)) (QJ (J2 y)) (J4 (xi l 8) (xi x 2) (xi x 3) (xi x 4)) (J5 (xi l 8) (xi x 2) (xi x 3) (xi x 4)) (J4 (xi l 8) (xi x 5) (xi x 6) (xi x 7)) (J5 (xi l 8) (xi x 5) (xi x 6) (xi x 7)) (JO (xi l 8) (J2 x)) (JN (xi l 8) (J2 x)) (JL (J2 x)) (QJ (J2 x)) (JT (J2 l)) else Xm (J4 (xi l 8) (xi y 2) (xi y 3) (xi y 4)) (J5 (xi l 8) (xi y 2) (xi y 3) (xi y 4)) (J4 (xi l 8) (xi y 5) (xi y 6) (xi y 7)) (J5 (xi l 8) (xi y 5) (xi y 6) (xi y 7)) (JO (xi l 8) (J2 y)) (JN (xi l 8) (J2 y)) (JL (J2 y)) (JT (J2 l))) (bif JPX x l y then j9 (J4 (xi l 8) (xi y 2) (xi y 3) (xi y 4)) (J5 (xi l 8) (xi y 2) (xi y 3) (xi y 4)) (J4 (xi l 8) (xi y 5) (xi y 6) (xi y 7)) (J5 (xi l 8) (xi y 5) (xi y 6) (xi y 7)) (JO (xi l 8) (J2 y)) (JN (xi l 8) (J2 y)) (JL (J2 y)) (QJ (J2 y)) (J4 (xi l 8) (xi x 2) (xi x 3) (xi x 4)) (J5 (xi l 8) (xi x 2) (xi x 3) (xi x 4)) (J4 (xi l 8) (xi x 5) (xi x 6) (xi x 7)) (J5 (xi l 8) (xi x 5) (xi x 6) (xi x 7)) (JO (xi l 8) (J2 x)) (JN (xi l 8) (J2 x)) (JL (J2 x)) (QJ (J2 x)) (JT (J2 l)) else Xk (J4 (xi l 8) (xi y 2) (xi y 3) (xi y 4)) (J5 (xi l 8) (xi y 2) (xi y 3) (xi y 4)) (J4 (xi l 8) (xi y 5) (xi y 6) (xi y 7)) (J5 (xi l 8) (xi y 5) (xi y 6) (xi y 7)) (JO (xi l 8) (J2 y)) (JN (xi l 8) (J2 y)) (JL (J2 y)) (JT (J2 l))) (JPX x l y) (J2 l) (J2 y) st0 st1 rtr
def JHP:Int:= bif JaU x l y != 0 then JaU x l y else bif JWU x l y st0 st1 rtr != 0 then JWU x l y st0 st1 rtr else 0
def Jy:Int:= bif JT (J2 l) == 0 then 0 else JCH (Qp (J4 (xi l 8) (xi y 2) (xi y 3) (xi y 4)) (J5 (xi l 8) (xi y 2) (xi y 3) (xi y 4)) (J4 (xi l 8) (xi y 5) (xi y 6) (xi y 7)) (J5 (xi l 8) (xi y 5) (xi y 6) (xi y 7)) (JN (xi l 8) (J2 y)) (JL (J2 y)) true) (Qo (J4 (xi l 8) (xi y 2) (xi y 3) (xi y 4)) (J5 (xi l 8) (xi y 2) (xi y 3) (xi y 4)) (J4 (xi l 8) (xi y 5) (xi y 6) (xi y 7)) (J5 (xi l 8) (xi y 5) (xi y 6) (xi y 7)) (JO (xi l 8) (J2 y)) (JL (J2 y)) true) (Qp (J4 (xi l 8) (xi x 2) (xi x 3) (xi x 4)) (J5 (xi l 8) (xi x 2) (xi x 3) (xi x 4)) (J4 (xi l 8) (xi x 5) (xi x 6) (xi x 7)) (J5 (xi l 8) (xi x 5) (xi x 6) (xi x 7)) (JN (xi l 8) (J2 x)) (JL (J2 x)) false) (Qo (J4 (xi l 8) (xi x 2) (xi x 3) (xi x 4)) (J5 (xi l 8) (xi x 2) (xi x 3) (xi x 4)) (J4 (xi l 8) (xi x 5) (xi x 6) (xi x 7)) (J5 (xi l 8) (xi x 5) (xi x 6) (xi x 7)) (JO (xi l 8) (J2 x)) (JL (J2 x)) false) (xi l 16)
def Xs:Int:= bif Jy x l y == 2 then Wn (J4 (xi l 8) (xi y 2) (xi y 3) (xi y 4)) (J5 (xi l 8) (xi y 2) (xi y 3) (xi y 4)) (J4 (xi l 8) (xi y 5) (xi y 6) (xi y 7)) (J5 (xi l 8) (xi y 5) (xi y 6) (xi y 7)) (JO (xi l 8) (J2 y)) (JN (xi l 8) (J2 y)) (JL (J2 y)) (QJ (J2 y)) (J4 (xi l 8) (xi x 2) (xi x 3) (xi x 4)) (J5 (xi l 8) (xi x 2) (xi x 3) (xi x 4)) (J4 (xi l 8) (xi x 5) (xi x 6) (xi x 7)) (J5 (xi l 8) (xi x 5) (xi x 6) (xi x 7)) (JO (xi l 8) (J2 x)) (JN (xi l 8) (J2 x)) (JL (J2 x)) (QJ (J2 x)) (JT (J2 l)) else Xm (J4 (xi l 8) (xi y 2) (xi y 3) (xi y 4)) (J5 (xi l 8) (xi y 2) (xi y 3) (xi y 4)) (J4 (xi l 8) (xi y 5) (xi y 6) (xi y 7)) (J5 (xi l 8) (xi y 5) (xi y 6) (xi y 7)) (JO (xi l 8) (J2 y)) (JN (xi l 8) (J2 y)) (JL (J2 y)) (JT (J2 l))
def Xt:Int:= bif Jy x l y == 2 then j9 (J4 (xi l 8) (xi y 2) (xi y 3) (xi y 4)) (J5 (xi l 8) (xi y 2) (xi y 3) (xi y 4)) (J4 (xi l 8) (xi y 5) (xi y 6) (xi y 7)) (J5 (xi l 8) (xi y 5) (xi y 6) (xi y 7)) (JO (xi l 8) (J2 y)) (JN (xi l 8) (J2 y)) (JL (J2 y)) (QJ (J2 y)) (J4 (xi l 8) (xi x 2) (xi x 3) (xi x 4)) (J5 (xi l 8) (xi x 2) (xi x 3) (xi x 4)) (J4 (xi l 8) (xi x 5) (xi x 6) (xi x 7)) (J5 (xi l 8) (xi x 5) (xi x 6) (xi x 7)) (JO (xi l 8) (J2 x)) (JN (xi l 8) (J2 x)) (JL (J2 x)) (QJ (J2 x)) (JT (J2 l)) else Xk (J4 (xi l 8) (xi y 2) (xi y 3) (xi y 4)) (J5 (xi l 8) (xi y 2) (xi y 3) (xi y 4)) (J4 (xi l 8) (xi y 5) (xi y 6) (xi y 7)) (J5 (xi l 8) (xi y 5) (xi y 6) (xi y 7)) (JO (xi l 8) (J2 y)) (JN (xi l 8) (J2 y)) (JL (J2 y)) (JT (J2 l))
def JGM:LL:= ZR (Xs x l y) (Xt x l y) (Jy x l y == 2) (J2 l) (J2 y) st0 st1 rtr ++ ZC (J2 l) (Xs x l y) (Xt x l y) C
end
def JAG (x:List GC) (l:List GC) (y:List GC) := bif Jy x l y == 2 then JEP (J4 (xi l 8) (xi y 2) (xi y 3) (xi y 4)) (J5 (xi l 8) (xi y 2) (xi y 3) (xi y 4)) (J4 (xi l 8) (xi y 5) (xi y 6) (xi y 7)) (J5 (xi l 8) (xi y 5) (xi y 6) (xi y 7)) (JO (xi l 8) (J2 y)) (JN (xi l 8) (J2 y)) (JL (J2 y)) (QJ (J2 y)) (J4 (xi l 8) (xi x 2) (xi x 3) (xi x 4)) (J5 (xi l 8) (xi x 2) (xi x 3) (xi x 4)) (J4 (xi l 8) (xi x 5) (xi x 6) (xi x 7)) (J5 (xi l 8) (xi x 5) (xi x 6) (xi x 7)) (JO (xi l 8) (J2 x)) (JN (xi l 8) (J2 x)) (JL (J2 x)) (QJ (J2 x)) (JT (J2 l)) else bif YZ l y == 0 then Qd (J4 (xi l 8) (xi x 2) (xi x 3) (xi x 4)) (J5 (xi l 8) (xi x 2) (xi x 3) (xi x 4)) (J4 (xi l 8) (xi x 5) (xi x 6) (xi x 7)) (J5 (xi l 8) (xi x 5) (xi x 6) (xi x 7)) (JO (xi l 8) (J2 x)) (JN (xi l 8) (J2 x)) (JL (J2 x)) (JT (J2 l)) else YZ l y
def JTg (x:List GC) (l:List GC) (y:List GC) := bif Jy x l y == 2 then Wn (J4 (xi l 8) (xi y 2) (xi y 3) (xi y 4)) (J5 (xi l 8) (xi y 2) (xi y 3) (xi y 4)) (J4 (xi l 8) (xi y 5) (xi y 6) (xi y 7)) (J5 (xi l 8) (xi y 5) (xi y 6) (xi y 7)) (JO (xi l 8) (J2 y)) (JN (xi l 8) (J2 y)) (JL (J2 y)) (QJ (J2 y)) (J4 (xi l 8) (xi x 2) (xi x 3) (xi x 4)) (J5 (xi l 8) (xi x 2) (xi x 3) (xi x 4)) (J4 (xi l 8) (xi x 5) (xi x 6) (xi x 7)) (J5 (xi l 8) (xi x 5) (xi x 6) (xi x 7)) (JO (xi l 8) (J2 x)) (JN (xi l 8) (J2 x)) (JL (J2 x)) (QJ (J2 x)) (JT (J2 l)) else bif YZ l y == 0 then Kg (J4 (xi l 8) (xi x 2) (xi x 3) (xi x 4)) (J5 (xi l 8) (xi x 2) (xi x 3) (xi x 4)) (J4 (xi l 8) (xi x 5) (xi x 6) (xi x 7)) (J5 (xi l 8) (xi x 5) (xi x 6) (xi x 7)) (JO (xi l 8) (J2 x)) (JN (xi l 8) (J2 x)) (JL (J2 x)) (JT (J2 l)) else 0
def JU9 (x:List GC) (l:List GC) (y:List GC) := bif Jy x l y == 2 then j9 (J4 (xi l 8) (xi y 2) (xi y 3) (xi y 4)) (J5 (xi l 8) (xi y 2) (xi y 3) (xi y 4)) (J4 (xi l 8) (xi y 5) (xi y 6) (xi y 7)) (J5 (xi l 8) (xi y 5) (xi y 6) (xi y 7)) (JO (xi l 8) (J2 y)) (JN (xi l 8) (J2 y)) (JL (J2 y)) (QJ (J2 y)) (J4 (xi l 8) (xi x 2) (xi x 3) (xi x 4)) (J5 (xi l 8) (xi x 2) (xi x 3) (xi x 4)) (J4 (xi l 8) (xi x 5) (xi x 6) (xi x 7)) (J5 (xi l 8) (xi x 5) (xi x 6) (xi x 7)) (JO (xi l 8) (J2 x)) (JN (xi l 8) (J2 x)) (JL (J2 x)) (QJ (J2 x)) (JT (J2 l)) else bif YZ l y == 0 then Kd (J4 (xi l 8) (xi x 2) (xi x 3) (xi x 4)) (J5 (xi l 8) (xi x 2) (xi x 3) (xi x 4)) (J4 (xi l 8) (xi x 5) (xi x 6) (xi x 7)) (J5 (xi l 8) (xi x 5) (xi x 6) (xi x 7)) (JO (xi l 8) (J2 x)) (JN (xi l 8) (J2 x)) (JL (J2 x)) (JT (J2 l)) else 0
def JUw (x l y:List GC) (st0 st1:Int) (rtr:Bool) (C:LL):LL := bif (JAG x l y) != 0 then [] else bif Q8 (Xs x l y) (Xt x l y) (Jy x l y == 2) (J2 l) (J2 y) st0 st1 rtr != 0 then [] else bif Jy x l y != 2 then JGM x l y st0 st1 rtr C ++ Wc (J2 x) (Xs x l y) (Xt x l y) (JTg x l y) (JU9 x l y) (Jy x l y == 1) (J2 l) else JGM x l y st0 st1 rtr C
def JDg (x:List GC) (l:List GC) (y:List GC) := bif Jy x l y == 2 then Wn (J4 (xi l 8) (xi y 2) (xi y 3) (xi y 4)) (J5 (xi l 8) (xi y 2) (xi y 3) (xi y 4)) (J4 (xi l 8) (xi y 5) (xi y 6) (xi y 7)) (J5 (xi l 8) (xi y 5) (xi y 6) (xi y 7)) (JO (xi l 8) (J2 y)) (JN (xi l 8) (J2 y)) (JL (J2 y)) (QJ (J2 y)) (J4 (xi l 8) (xi x 2) (xi x 3) (xi x 4)) (J5 (xi l 8) (xi x 2) (xi x 3) (xi x 4)) (J4 (xi l 8) (xi x 5) (xi x 6) (xi x 7)) (J5 (xi l 8) (xi x 5) (xi x 6) (xi x 7)) (JO (xi l 8) (J2 x)) (JN (xi l 8) (J2 x)) (JL (J2 x)) (QJ (J2 x)) (JT (J2 l)) else Xm (J4 (xi l 8) (xi y 2) (xi y 3) (xi y 4)) (J5 (xi l 8) (xi y 2) (xi y 3) (xi y 4)) (J4 (xi l 8) (xi y 5) (xi y 6) (xi y 7)) (J5 (xi l 8) (xi y 5) (xi y 6) (xi y 7)) (JO (xi l 8) (J2 y)) (JN (xi l 8) (J2 y)) (JL (J2 y)) (JT (J2 l))
def JEH (x:List GC) (l:List GC) (y:List GC) := bif Jy x l y == 2 then j9 (J4 (xi l 8) (xi y 2) (xi y 3) (xi y 4)) (J5 (xi l 8) (xi y 2) (xi y 3) (xi y 4)) (J4 (xi l 8) (xi y 5) (xi y 6) (xi y 7)) (J5 (xi l 8) (xi y 5) (xi y 6) (xi y 7)) (JO (xi l 8) (J2 y)) (JN (xi l 8) (J2 y)) (JL (J2 y)) (QJ (J2 y)) (J4 (xi l 8) (xi x 2) (xi x 3) (xi x 4)) (J5 (xi l 8) (xi x 2) (xi x 3) (xi x 4)) (J4 (xi l 8) (xi x 5) (xi x 6) (xi x 7)) (J5 (xi l 8) (xi x 5) (xi x 6) (xi x 7)) (JO (xi l 8) (J2 x)) (JN (xi l 8) (J2 x)) (JL (J2 x)) (QJ (J2 x)) (JT (J2 l)) else Xk (J4 (xi l 8) (xi y 2) (xi y 3) (xi y 4)) (J5 (xi l 8) (xi y 2) (xi y 3) (xi y 4)) (J4 (xi l 8) (xi y 5) (xi y 6) (xi y 7)) (J5 (xi l 8) (xi y 5) (xi y 6) (xi y 7)) (JO (xi l 8) (J2 y)) (JN (xi l 8) (J2 y)) (JL (J2 y)) (JT (J2 l))
section
variable (x l y:List GC) (st0 st1:Int) (rtr:Bool) (C:LL) (pn1 pn0:Int) (q0:Nat)
def ZK:Int:= bif (JAG x l y) != 0 then xi y q0 else bif Q8 (JDg x l y) (JEH x l y) (Jy x l y == 2) (J2 l) (J2 y) st0 st1 rtr != 0 then xi y q0 else bif Jy x l y != 2 then xi x q0 else xi x q0
def JXf:Int:= ZK x l y st0 st1 rtr 0
def JZM:Int:= ZK x l y st0 st1 rtr 1
def JZt:Int:= ZK x l y st0 st1 rtr 2
def JYt:Int:= ZK x l y st0 st1 rtr 3
def JaS:Int:= ZK x l y st0 st1 rtr 4
def JY0:Int:= ZK x l y st0 st1 rtr 5
def JWN:Int:= ZK x l y st0 st1 rtr 6
def JYx:Int:= ZK x l y st0 st1 rtr 7
def JWY:Int:= ZK x l y st0 st1 rtr 8
def JXI:Int:= ZK x l y st0 st1 rtr 9
def JXV:Int:= ZK x l y st0 st1 rtr 10
def JVu:Int:= ZK x l y st0 st1 rtr 11
def JYT:Int:= ZK x l y st0 st1 rtr 12
def JF0:Bool:= bif (JAG x l y) != 0 then xb y q0 else bif Q8 (JDg x l y) (JEH x l y) (Jy x l y == 2) (J2 l) (J2 y) st0 st1 rtr != 0 then xb y q0 else bif Jy x l y != 2 then xb x q0 else xb x q0
def Jau:Bool:= JF0 x l y st0 st1 rtr 13
def JZ8:Int:= ZK x l y st0 st1 rtr 14
def Jah:Bool:= JF0 x l y st0 st1 rtr 15
def JaM:Int:= ZK x l y st0 st1 rtr 16
def JZH:Int:= ZK x l y st0 st1 rtr 17
def JYl:Int:= ZK x l y st0 st1 rtr 18
def JWV:Int:= ZK x l y st0 st1 rtr 19
def JYk:Int:= ZK x l y st0 st1 rtr 20
def JaV:Bool:= JF0 x l y st0 st1 rtr 21
def kG:Int:= bif Jy x l y == 2 then Wn (J4 (xi l 8) (xi y 2) (xi y 3) (xi y 4)) (J5 (xi l 8) (xi y 2) (xi y 3) (xi y 4)) (J4 (xi l 8) (xi y 5) (xi y 6) (xi y 7)) (J5 (xi l 8) (xi y 5) (xi y 6) (xi y 7)) (JO (xi l 8) (J2 y)) (JN (xi l 8) (J2 y)) (JL (J2 y)) (QJ (J2 y)) (J4 (xi l 8) (xi x 2) (xi x 3) (xi x 4)) (J5 (xi l 8) (xi x 2) (xi x 3) (xi x 4)) (J4 (xi l 8) (xi x 5) (xi x 6) (xi x 7)) (J5 (xi l 8) (xi x 5) (xi x 6) (xi x 7)) (JO (xi l 8) (J2 x)) (JN (xi l 8) (J2 x)) (JL (J2 x)) (QJ (J2 x)) (JT (J2 l)) else bif YZ l y == 0 then Kg (J4 (xi l 8) (xi x 2) (xi x 3) (xi x 4)) (J5 (xi l 8) (xi x 2) (xi x 3) (xi x 4)) (J4 (xi l 8) (xi x 5) (xi x 6) (xi x 7)) (J5 (xi l 8) (xi x 5) (xi x 6) (xi x 7)) (JO (xi l 8) (J2 x)) (JN (xi l 8) (J2 x)) (JL (J2 x)) (JT (J2 l)) else 0
def JWp:Int:= bif (JAG x l y) != 0 then st0 else bif Q8 (JDg x l y) (JEH x l y) (Jy x l y == 2) (J2 l) (J2 y) st0 st1 rtr != 0 then st0 else bif Jy x l y != 2 then kG x l y else kG x l y
def zS:Int:= bif Jy x l y == 2 then j9 (J4 (xi l 8) (xi y 2) (xi y 3) (xi y 4)) (J5 (xi l 8) (xi y 2) (xi y 3) (xi y 4)) (J4 (xi l 8) (xi y 5) (xi y 6) (xi y 7)) (J5 (xi l 8) (xi y 5) (xi y 6) (xi y 7)) (JO (xi l 8) (J2 y)) (JN (xi l 8) (J2 y)) (JL (J2 y)) (QJ (J2 y)) (J4 (xi l 8) (xi x 2) (xi x 3) (xi x 4)) (J5 (xi l 8) (xi x 2) (xi x 3) (xi x 4)) (J4 (xi l 8) (xi x 5) (xi x 6) (xi x 7)) (J5 (xi l 8) (xi x 5) (xi x 6) (xi x 7)) (JO (xi l 8) (J2 x)) (JN (xi l 8) (J2 x)) (JL (J2 x)) (QJ (J2 x)) (JT (J2 l)) else bif YZ l y == 0 then Kd (J4 (xi l 8) (xi x 2) (xi x 3) (xi x 4)) (J5 (xi l 8) (xi x 2) (xi x 3) (xi x 4)) (J4 (xi l 8) (xi x 5) (xi x 6) (xi x 7)) (J5 (xi l 8) (xi x 5) (xi x 6) (xi x 7)) (JO (xi l 8) (J2 x)) (JN (xi l 8) (J2 x)) (JL (J2 x)) (JT (J2 l)) else 0
def JaX:Int:= bif (JAG x l y) != 0 then st1 else bif Q8 (JDg x l y) (JEH x l y) (Jy x l y == 2) (J2 l) (J2 y) st0 st1 rtr != 0 then st1 else bif Jy x l y != 2 then zS x l y else zS x l y
def JVh:Bool:= bif (JAG x l y) != 0 then rtr else bif Q8 (JDg x l y) (JEH x l y) (Jy x l y == 2) (J2 l) (J2 y) st0 st1 rtr != 0 then rtr else bif Jy x l y != 2 then Jy x l y == 2 else Jy x l y == 2
def JaW:Int:= bif (JAG x l y) != 0 then pn0 else bif Q8 (JDg x l y) (JEH x l y) (Jy x l y == 2) (J2 l) (J2 y) st0 st1 rtr != 0 then pn0 else bif Jy x l y != 2 then kG x l y else kG x l y
def JXQ:Int:= bif (JAG x l y) != 0 then pn1 else bif Q8 (JDg x l y) (JEH x l y) (Jy x l y == 2) (J2 l) (J2 y) st0 st1 rtr != 0 then pn1 else bif Jy x l y != 2 then zS x l y else zS x l y
def JIi:LL:= bif (JAG x l y) != 0 then C else bif Q8 (JDg x l y) (JEH x l y) (Jy x l y == 2) (J2 l) (J2 y) st0 st1 rtr != 0 then C else bif Jy x l y != 2 then [] else []
def JKc:LL:= ZR (Xs x l y) (Xt x l y) (Jy x l y == 2) (J2 l) (J2 y) st0 st1 rtr
end
def JTx (x:List GC) (l:List GC) (y:List GC) := Wc (J2 x) (Xs x l y) (Xt x l y) (JTg x l y) (JU9 x l y) (Jy x l y == 1) (J2 l)
def JDX (x l y:List GC) (st0 st1:Int) (rtr:Bool) (C:LL):List Prop := [((JAG x l y) != 0) = false → (Q8 (Xs x l y) (Xt x l y) (Jy x l y == 2) (J2 l) (J2 y) st0 st1 rtr != 0) = false → C.length ≤ 1000 ∧ ((JKc x l y st0 st1 rtr).length + (ZC (J2 l) (Xs x l y) (Xt x l y) C).length) * 176 ≤ 140737488355328 ∧ (JKc x l y st0 st1 rtr).length + (ZC (J2 l) (Xs x l y) (Xt x l y) C).length ≤ 9223372036854775807 ∧ ((Jy x l y != 2) = true → ((JKc x l y st0 st1 rtr ++ ZC (J2 l) (Xs x l y) (Xt x l y) C).length + (JTx x l y).length) * 176 ≤ 140737488355328 ∧ (JKc x l y st0 st1 rtr ++ ZC (J2 l) (Xs x l y) (Xt x l y) C).length + (JTx x l y).length ≤ 9223372036854775807)]
theorem JkM {x:List GC} {l:List GC} {y:List GC} {st0:Int} {st1:Int} {rtr:Bool} {C:LL} (hW:∀ q ∈ ([C.length ≤ 1000]:List Prop),q):∀ q ∈ (JDX x l y st0 st1 rtr C),q := by
  simp only [awc,awn,and_true] at hW
  unfold JDX
  simp only [awc,awn,and_true]
  have r := fun a b => JNS (J2 l) a b C
  have s := fun u w c => JIm u w c (J2 l) (J2 y) st0 st1 rtr
  have j := fun u w v z o => Jbh (J2 x) u w v z o (J2 l)
  exact fun _ _ => ⟨hW,(JnW (s _ _ _) (r _ _) hW).1,(JnW (s _ _ _) (r _ _) hW).2,fun _ => ⟨(JwX (s _ _ _) (r _ _) (j _ _ _ _ _) hW).1,(JwX (s _ _ _) (r _ _) (j _ _ _ _ _) hW).2⟩⟩
def Jgz (x:List GC) (rcl rop:Bool) (rer:Int) (rmo ren:Bool) (rla0 rla1 rla2:Int) (l:List GC) (has:Bool) (y:List GC) (st0 st1:Int) (rtr:Bool) (pn0 pn1:Int) (C:LL):Jn := [(48466,Obj.row false 40 22 (RowC.lst 48465 jI (JUw x l y st0 st1 rtr C))),(0,Obj.blk 74 [(2,Cb rcl),(3,Cb rop),(4,Ci rer),(5,Cb rmo),(6,Cb ren),(7,Ci rla0),(8,Ci rla1),(9,Ci rla2),(10,Ci (xi l 0)),(11,Ci (xi l 1)),(12,Ci (xi l 2)),(13,Ci (xi l 3)),(14,Ci (xi l 4)),(15,Ci (xi l 5)),(16,Ci (xi l 6)),(17,Ci (xi l 7)),(18,Ci (xi l 8)),(19,Ci (xi l 9)),(20,Ci (xi l 10)),(21,Ci (xi l 11)),(22,Ci (xi l 12)),(23,Cb (xb l 13)),(24,Ci (xi l 14)),(25,Cb (xb l 15)),(26,Ci (xi l 16)),(27,Ci (xi l 17)),(28,Ci (xi l 18)),(29,Ci (xi l 19)),(30,Ci (xi l 20)),(31,Cb (xb l 21)),(48464,SC.wh 48462),(33,Cb has),(48468,Ci (JXf x l y st0 st1 rtr)),(48469,Ci (JZM x l y st0 st1 rtr)),(48470,Ci (JZt x l y st0 st1 rtr)),(48471,Ci (JYt x l y st0 st1 rtr)),(48472,Ci (JaS x l y st0 st1 rtr)),(48473,Ci (JY0 x l y st0 st1 rtr)),(48474,Ci (JWN x l y st0 st1 rtr)),(48475,Ci (JYx x l y st0 st1 rtr)),(48476,Ci (JWY x l y st0 st1 rtr)),(48477,Ci (JXI x l y st0 st1 rtr)),(48478,Ci (JXV x l y st0 st1 rtr)),(48479,Ci (JVu x l y st0 st1 rtr)),(48480,Ci (JYT x l y st0 st1 rtr)),(48481,Cb (Jau x l y st0 st1 rtr)),(48482,Ci (JZ8 x l y st0 st1 rtr)),(48483,Cb (Jah x l y st0 st1 rtr)),(48484,Ci (JaM x l y st0 st1 rtr)),(48485,Ci (JZH x l y st0 st1 rtr)),(48486,Ci (JYl x l y st0 st1 rtr)),(48487,Ci (JWV x l y st0 st1 rtr)),(48488,Ci (JYk x l y st0 st1 rtr)),(48489,Cb (JaV x l y st0 st1 rtr)),(48490,Ci (JWp x l y st0 st1 rtr)),(48491,Ci (JaX x l y st0 st1 rtr)),(48492,Cb (JVh x l y st0 st1 rtr)),(48493,Ci (JaW x l y st0 st1 rtr pn0)),(48494,Ci (JXQ x l y st0 st1 rtr pn1))]),(48462,Obj.row true 40 22 (RowC.lst 48467 jI (JIi x l y st0 st1 rtr C))),(1,Obj.row true 40 22 (RowC.lst 61 jI C))]
theorem Jm5 (x:List GC) (rcl rop:Bool) (rer:Int) (rmo ren:Bool) (rla0 rla1 rla2:Int) (l:List GC) (has:Bool) (y:List GC) (st0 st1:Int) (rtr:Bool) (pn0 pn1:Int) (C:LL) (hNeeds:∀ pN ∈ (JDX x l y st0 st1 rtr C),pN):Runs (JHn (JC JXd) jQ 63) (JGJ.args (Je JOb [.v x,.b rcl,.b rop,.i rer,.b rmo,.b ren,.i rla0,.i rla1,.i rla2,.v l,.b has,.v y,.i st0,.i st1,.b rtr,.i pn0,.i pn1])) (JGJ.memo (Je JOb [.v x,.b rcl,.b rop,.i rer,.b rmo,.b ren,.i rla0,.i rla1,.i rla2,.v l,.b has,.v y,.i st0,.i st1,.b rtr,.i pn0,.i pn1]) [C]) JGJ.n (SV.tup [(false,[SC.wh 48466]),(false,[Ci (JHP x l y st0 st1 rtr)])]) (Jgz x rcl rop rer rmo ren rla0 rla1 rla2 l has y st0 st1 rtr pn0 pn1 C) :=
  Runs.of1 (ps := (JDX x l y st0 st1 rtr C)) (by kernel_rfl) hNeeds
def JRy:List Gm → Qs → Option CRes
  | [.v x,.b rcl,.b rop,.i rer,.b rmo,.b ren,.i rla0,.i rla1,.i rla2,.v l,.b has,.v y,.i st0,.i st1,.b rtr,.i pn0,.i pn1],[C] => some ⟨SV.tup [(false,[SC.wh 48466]),(false,[Ci (JHP x l y st0 st1 rtr)])],Jgz x rcl rop rer rmo ren rla0 rla1 rla2 l has y st0 st1 rtr pn0 pn1 C,[C.length ≤ 1000],[],48495⟩
  | _,_ => none
theorem Jse:Ql Tryz.prog 63 (Z7 JOb JGJ JRy) := by
  refine Qg (KI JO8 63) fun ps ls r hr hn _ => ?_
  unfold JRy at hr
  split at hr
  · cases hr; exact ⟨_,Jm5 _ _ _ _ _ _ _ _ _ _ _ _ _ _ _ _ _ _ (JkM (by exact hn)),fun _ => rfl⟩
  · cases hr
def JdV:List (Nat × JY) := (63,Z7 JOb JGJ JRy) :: JXd
theorem JTb:Known Tryz.prog (JC JdV) jQ := J7 JO8 Jse
theorem JbX (x l:List GC) (C:LL):(JFu x l C).length ≤ C.length := by
  unfold JFu
  repeat' first | exact Nat.le_refl _ | exact Nat.zero_le _ | refine WR ?_ ?_
theorem JbU (l y:List GC) (st0 st1:Int) (rtr:Bool) (C:LL):(JFV l y st0 st1 rtr C).length ≤ C.length := by
  unfold JFV
  repeat' first | exact Nat.le_refl _ | exact Nat.zero_le _ | refine WR ?_ ?_
theorem Jf2 (x l y:List GC) (st0 st1:Int) (rtr:Bool) (C:LL):(JIi x l y st0 st1 rtr C).length ≤ C.length := by
  unfold JIi
  repeat' first | exact Nat.le_refl _ | exact Nat.zero_le _ | refine WR ?_ ?_
theorem JyZ {C:LL} {r:List Int} (h:C.length ≤ 8):(bif Int.ofNat C.length == 8 then C else [] ++ C ++ [r]).length ≤ 8 := by
  cases e:(Int.ofNat C.length == 8)
  · have:C.length ≠ 8 := fun h => by rw [h] at e; exact absurd e (by decide)
    simp only [cond_false,List.length_append,List.length_cons,List.length_nil]; omega
  · exact h
def JGX:Tpl := ⟨[.one (.ptr 0 0),.agg pI],YH,62⟩
def JOO:List GK := [.v Q5,.b,.b,.i,.b,.b,.i,.i,.i,.v Q5,.b,.v Q5,.i,.i,.b,.i,.i]
section
variable (x:List GC) (rcl rop rmo ren:Bool) (rla0 rla1 rla2:Int) (l:List GC) (q0:Nat) (has:Bool) (y:List GC) (st0 st1:Int) (rtr:Bool) (C:LL)
def QC:Int:= bif rcl then 13 else bif !Qm (J2 x) || ren || J3 (xi x 0) && rmo && !(xi x 2 == rla0 && (xi x 3 == rla1 && xi x 4 == rla2)) then 1 else bif !rop && (!J3 (xi x 0) || xi x 16 == 0) then 0 else bif !rop then bif !ZJ (xi x 8) (xi x 17) (J2 x) then 14 else 0 else bif J3 (xi x 0) && xi x 16 == 0 then bif !ZJ (xi l 8) (xi l 17) (J2 x) || !has then 14 else JCu (J2 l) (J2 y) st0 st1 rtr else bif xi x 0 == 1 || xi x 0 == 11 || xi x 0 == 14 || J3 (xi x 0) && (xi x 8 != xi l 8 || xi x 16 != xi l 16 || xi x 17 != xi l 17) then 13 else bif !J3 (xi x 0) || !ZL (xi l 8) (J2 x) then bif Int.ofNat C.length == 8 then 10 else 0 else bif !has then JDE (J2 x) (J2 l) else JHP (J2 x) (J2 l) (J2 y) st0 st1 rtr
def YS:LL:= bif rcl then [] else bif !Qm (J2 x) || ren || J3 (xi x 0) && rmo && !(xi x 2 == rla0 && (xi x 3 == rla1 && xi x 4 == rla2)) then [] else bif !rop && (!J3 (xi x 0) || xi x 16 == 0) then [JFw x] else bif !rop then [] else bif J3 (xi x 0) && xi x 16 == 0 then bif !ZJ (xi l 8) (xi l 17) (J2 x) || !has then [] else JNs (J2 x) (J2 l) (J2 y) st0 st1 rtr C else bif xi x 0 == 1 || xi x 0 == 11 || xi x 0 == 14 || J3 (xi x 0) && (xi x 8 != xi l 8 || xi x 16 != xi l 16 || xi x 17 != xi l 17) then [] else bif !J3 (xi x 0) || !ZL (xi l 8) (J2 x) then [] else bif !has then JOT (J2 x) (J2 l) C else JUw (J2 x) (J2 l) (J2 y) st0 st1 rtr C
def JE6:Bool:= bif rcl then rop else bif !Qm (J2 x) || ren || J3 (xi x 0) && rmo && !(xi x 2 == rla0 && (xi x 3 == rla1 && xi x 4 == rla2)) then rop else bif !rop && (!J3 (xi x 0) || xi x 16 == 0) then rop else bif !rop then bif !ZJ (xi x 8) (xi x 17) (J2 x) then rop else true else bif J3 (xi x 0) && xi x 16 == 0 then bif !ZJ (xi l 8) (xi l 17) (J2 x) || !has then rop else Ja6 rop (J2 l) (J2 y) st0 st1 rtr else rop
def JDo:Bool:= bif rcl then rmo else bif !Qm (J2 x) || ren || J3 (xi x 0) && rmo && !(xi x 2 == rla0 && (xi x 3 == rla1 && xi x 4 == rla2)) then rmo else J3 (xi x 0) || rmo
def JEG:Bool:= bif rcl then ren else bif !Qm (J2 x) || ren || J3 (xi x 0) && rmo && !(xi x 2 == rla0 && (xi x 3 == rla1 && xi x 4 == rla2)) then ren else xi x 0 == 14
def JDV:Int:= bif rcl then rla0 else bif !Qm (J2 x) || ren || J3 (xi x 0) && rmo && !(xi x 2 == rla0 && (xi x 3 == rla1 && xi x 4 == rla2)) then rla0 else bif J3 (xi x 0) then xi x 5 else rla0
def JDy:Int:= bif rcl then rla1 else bif !Qm (J2 x) || ren || J3 (xi x 0) && rmo && !(xi x 2 == rla0 && (xi x 3 == rla1 && xi x 4 == rla2)) then rla1 else bif J3 (xi x 0) then xi x 6 else rla1
def JDw:Int:= bif rcl then rla2 else bif !Qm (J2 x) || ren || J3 (xi x 0) && rmo && !(xi x 2 == rla0 && (xi x 3 == rla1 && xi x 4 == rla2)) then rla2 else bif J3 (xi x 0) then xi x 7 else rla2
def QI:Int:= bif rcl then xi l q0 else bif !Qm (J2 x) || ren || J3 (xi x 0) && rmo && !(xi x 2 == rla0 && (xi x 3 == rla1 && xi x 4 == rla2)) then xi l q0 else bif !rop && (!J3 (xi x 0) || xi x 16 == 0) then xi l q0 else bif !rop then bif !ZJ (xi x 8) (xi x 17) (J2 x) then xi l q0 else xi x q0 else xi l q0
def JDq:Int:= QI x rcl rop rmo ren rla0 rla1 rla2 l 0
def JDx:Int:= QI x rcl rop rmo ren rla0 rla1 rla2 l 1
def JA2:Int:= QI x rcl rop rmo ren rla0 rla1 rla2 l 2
def kX:Int:= QI x rcl rop rmo ren rla0 rla1 rla2 l 3
def kw:Int:= QI x rcl rop rmo ren rla0 rla1 rla2 l 4
def kt:Int:= QI x rcl rop rmo ren rla0 rla1 rla2 l 5
def qF:Int:= QI x rcl rop rmo ren rla0 rla1 rla2 l 6
def qu:Int:= QI x rcl rop rmo ren rla0 rla1 rla2 l 7
def zV:Int:= QI x rcl rop rmo ren rla0 rla1 rla2 l 8
def zp:Int:= QI x rcl rop rmo ren rla0 rla1 rla2 l 9
def zT:Int:= QI x rcl rop rmo ren rla0 rla1 rla2 l 10
def qL:Int:= QI x rcl rop rmo ren rla0 rla1 rla2 l 11
def kv:Int:= QI x rcl rop rmo ren rla0 rla1 rla2 l 12
def Ze:Bool:= bif rcl then xb l q0 else bif !Qm (J2 x) || ren || J3 (xi x 0) && rmo && !(xi x 2 == rla0 && (xi x 3 == rla1 && xi x 4 == rla2)) then xb l q0 else bif !rop && (!J3 (xi x 0) || xi x 16 == 0) then xb l q0 else bif !rop then bif !ZJ (xi x 8) (xi x 17) (J2 x) then xb l q0 else xb x q0 else xb l q0
def qH:Bool:= Ze x rcl rop rmo ren rla0 rla1 rla2 l 13
def qp:Int:= QI x rcl rop rmo ren rla0 rla1 rla2 l 14
def qZ:Bool:= Ze x rcl rop rmo ren rla0 rla1 rla2 l 15
def zR:Int:= QI x rcl rop rmo ren rla0 rla1 rla2 l 16
def qS:Int:= QI x rcl rop rmo ren rla0 rla1 rla2 l 17
def zJ:Int:= QI x rcl rop rmo ren rla0 rla1 rla2 l 18
def qy:Int:= QI x rcl rop rmo ren rla0 rla1 rla2 l 19
def qm:Int:= QI x rcl rop rmo ren rla0 rla1 rla2 l 20
def qU:Bool:= Ze x rcl rop rmo ren rla0 rla1 rla2 l 21
def qi:Bool:= bif rcl then has else bif !Qm (J2 x) || ren || J3 (xi x 0) && rmo && !(xi x 2 == rla0 && (xi x 3 == rla1 && xi x 4 == rla2)) then has else bif !rop && (!J3 (xi x 0) || xi x 16 == 0) then has else bif !rop then !ZJ (xi x 8) (xi x 17) (J2 x) && has else bif J3 (xi x 0) && xi x 16 == 0 then bif !ZJ (xi l 8) (xi l 17) (J2 x) || !has then has else JRA (J2 l) has (J2 y) st0 st1 rtr else bif xi x 0 == 1 || xi x 0 == 11 || xi x 0 == 14 || J3 (xi x 0) && (xi x 8 != xi l 8 || xi x 16 != xi l 16 || xi x 17 != xi l 17) then has else bif !J3 (xi x 0) || !ZL (xi l 8) (J2 x) then has else bif !has then JSM (J2 x) (J2 l) has else has
end
section
variable (x:List GC) (rcl rop rmo ren:Bool) (rla0 rla1 rla2:Int) (l:List GC) (has:Bool) (y:List GC) (st0 st1:Int) (rtr:Bool) (q0:Nat) (q1 q2:Int)
def QF:Int:= bif rcl then xi y q0 else bif !Qm (J2 x) || ren || J3 (xi x 0) && rmo && !(xi x 2 == rla0 && (xi x 3 == rla1 && xi x 4 == rla2)) then xi y q0 else bif !rop && (!J3 (xi x 0) || xi x 16 == 0) then xi y q0 else bif !rop then xi y q0 else bif J3 (xi x 0) && xi x 16 == 0 then xi y q0 else bif xi x 0 == 1 || xi x 0 == 11 || xi x 0 == 14 || J3 (xi x 0) && (xi x 8 != xi l 8 || xi x 16 != xi l 16 || xi x 17 != xi l 17) then xi y q0 else bif !J3 (xi x 0) || !ZL (xi l 8) (J2 x) then xi y q0 else bif !has then q1 else q2
def JA6:Int:= QF x rcl rop rmo ren rla0 rla1 rla2 l has y 0 (JRR (J2 x) (J2 l) (J2 y)) (JXf (J2 x) (J2 l) (J2 y) st0 st1 rtr)
def zZ:Int:= QF x rcl rop rmo ren rla0 rla1 rla2 l has y 1 (JQi (J2 x) (J2 l) (J2 y)) (JZM (J2 x) (J2 l) (J2 y) st0 st1 rtr)
def kT:Int:= QF x rcl rop rmo ren rla0 rla1 rla2 l has y 2 (JQs (J2 x) (J2 l) (J2 y)) (JZt (J2 x) (J2 l) (J2 y) st0 st1 rtr)
def ke:Int:= QF x rcl rop rmo ren rla0 rla1 rla2 l has y 3 (JPu (J2 x) (J2 l) (J2 y)) (JYt (J2 x) (J2 l) (J2 y) st0 st1 rtr)
def ql:Int:= QF x rcl rop rmo ren rla0 rla1 rla2 l has y 4 (JRQ (J2 x) (J2 l) (J2 y)) (JaS (J2 x) (J2 l) (J2 y) st0 st1 rtr)
def kc:Int:= QF x rcl rop rmo ren rla0 rla1 rla2 l has y 5 (JQE (J2 x) (J2 l) (J2 y)) (JY0 (J2 x) (J2 l) (J2 y) st0 st1 rtr)
def kM:Int:= QF x rcl rop rmo ren rla0 rla1 rla2 l has y 6 (JSg (J2 x) (J2 l) (J2 y)) (JWN (J2 x) (J2 l) (J2 y) st0 st1 rtr)
def qV:Int:= QF x rcl rop rmo ren rla0 rla1 rla2 l has y 7 (JS1 (J2 x) (J2 l) (J2 y)) (JYx (J2 x) (J2 l) (J2 y) st0 st1 rtr)
def zm:Int:= QF x rcl rop rmo ren rla0 rla1 rla2 l has y 8 (JRt (J2 x) (J2 l) (J2 y)) (JWY (J2 x) (J2 l) (J2 y) st0 st1 rtr)
def zQ:Int:= QF x rcl rop rmo ren rla0 rla1 rla2 l has y 9 (JQH (J2 x) (J2 l) (J2 y)) (JXI (J2 x) (J2 l) (J2 y) st0 st1 rtr)
def zF:Int:= QF x rcl rop rmo ren rla0 rla1 rla2 l has y 10 (JSc (J2 x) (J2 l) (J2 y)) (JXV (J2 x) (J2 l) (J2 y) st0 st1 rtr)
def zz:Int:= QF x rcl rop rmo ren rla0 rla1 rla2 l has y 11 (JRw (J2 x) (J2 l) (J2 y)) (JVu (J2 x) (J2 l) (J2 y) st0 st1 rtr)
def zj:Int:= QF x rcl rop rmo ren rla0 rla1 rla2 l has y 12 (JPq (J2 x) (J2 l) (J2 y)) (JYT (J2 x) (J2 l) (J2 y) st0 st1 rtr)
end
section
variable (x:List GC) (rcl rop rmo ren:Bool) (rla0 rla1 rla2:Int) (l:List GC) (has:Bool) (y:List GC) (st0 st1:Int) (rtr:Bool) (C:LL) (pn1 pn0:Int) (q0:Nat) (q1 q2:Bool)
def ZY:Bool:= bif rcl then xb y q0 else bif !Qm (J2 x) || ren || J3 (xi x 0) && rmo && !(xi x 2 == rla0 && (xi x 3 == rla1 && xi x 4 == rla2)) then xb y q0 else bif !rop && (!J3 (xi x 0) || xi x 16 == 0) then xb y q0 else bif !rop then xb y q0 else bif J3 (xi x 0) && xi x 16 == 0 then xb y q0 else bif xi x 0 == 1 || xi x 0 == 11 || xi x 0 == 14 || J3 (xi x 0) && (xi x 8 != xi l 8 || xi x 16 != xi l 16 || xi x 17 != xi l 17) then xb y q0 else bif !J3 (xi x 0) || !ZL (xi l 8) (J2 x) then xb y q0 else bif !has then q1 else q2
def kr:Bool:= ZY x rcl rop rmo ren rla0 rla1 rla2 l has y 13 (JQr (J2 x) (J2 l) (J2 y)) (Jau (J2 x) (J2 l) (J2 y) st0 st1 rtr)
def kN:Int:= QF x rcl rop rmo ren rla0 rla1 rla2 l has y 14 (JRZ (J2 x) (J2 l) (J2 y)) (JZ8 (J2 x) (J2 l) (J2 y) st0 st1 rtr)
def zP:Bool:= ZY x rcl rop rmo ren rla0 rla1 rla2 l has y 15 (JQd (J2 x) (J2 l) (J2 y)) (Jah (J2 x) (J2 l) (J2 y) st0 st1 rtr)
def zq:Int:= QF x rcl rop rmo ren rla0 rla1 rla2 l has y 16 (JSa (J2 x) (J2 l) (J2 y)) (JaM (J2 x) (J2 l) (J2 y) st0 st1 rtr)
def kh:Int:= QF x rcl rop rmo ren rla0 rla1 rla2 l has y 17 (JSX (J2 x) (J2 l) (J2 y)) (JZH (J2 x) (J2 l) (J2 y) st0 st1 rtr)
def kx:Int:= QF x rcl rop rmo ren rla0 rla1 rla2 l has y 18 (JRj (J2 x) (J2 l) (J2 y)) (JYl (J2 x) (J2 l) (J2 y) st0 st1 rtr)
def zo:Int:= QF x rcl rop rmo ren rla0 rla1 rla2 l has y 19 (JPn (J2 x) (J2 l) (J2 y)) (JWV (J2 x) (J2 l) (J2 y) st0 st1 rtr)
def qP:Int:= QF x rcl rop rmo ren rla0 rla1 rla2 l has y 20 (JSv (J2 x) (J2 l) (J2 y)) (JYk (J2 x) (J2 l) (J2 y) st0 st1 rtr)
def qN:Bool:= ZY x rcl rop rmo ren rla0 rla1 rla2 l has y 21 (JSI (J2 x) (J2 l) (J2 y)) (JaV (J2 x) (J2 l) (J2 y) st0 st1 rtr)
def kb:Int:= bif rcl then st0 else bif !Qm (J2 x) || ren || J3 (xi x 0) && rmo && !(xi x 2 == rla0 && (xi x 3 == rla1 && xi x 4 == rla2)) then st0 else bif !rop && (!J3 (xi x 0) || xi x 16 == 0) then st0 else bif !rop then st0 else bif J3 (xi x 0) && xi x 16 == 0 then st0 else bif xi x 0 == 1 || xi x 0 == 11 || xi x 0 == 14 || J3 (xi x 0) && (xi x 8 != xi l 8 || xi x 16 != xi l 16 || xi x 17 != xi l 17) then st0 else bif !J3 (xi x 0) || !ZL (xi l 8) (J2 x) then st0 else bif !has then JFg (J2 x) (J2 l) st0 else JWp (J2 x) (J2 l) (J2 y) st0 st1 rtr
def kl:Int:= bif rcl then st1 else bif !Qm (J2 x) || ren || J3 (xi x 0) && rmo && !(xi x 2 == rla0 && (xi x 3 == rla1 && xi x 4 == rla2)) then st1 else bif !rop && (!J3 (xi x 0) || xi x 16 == 0) then st1 else bif !rop then st1 else bif J3 (xi x 0) && xi x 16 == 0 then st1 else bif xi x 0 == 1 || xi x 0 == 11 || xi x 0 == 14 || J3 (xi x 0) && (xi x 8 != xi l 8 || xi x 16 != xi l 16 || xi x 17 != xi l 17) then st1 else bif !J3 (xi x 0) || !ZL (xi l 8) (J2 x) then st1 else bif !has then JFo (J2 x) (J2 l) st1 else JaX (J2 x) (J2 l) (J2 y) st0 st1 rtr
def zY:Bool:= bif rcl then rtr else bif !Qm (J2 x) || ren || J3 (xi x 0) && rmo && !(xi x 2 == rla0 && (xi x 3 == rla1 && xi x 4 == rla2)) then rtr else bif !rop && (!J3 (xi x 0) || xi x 16 == 0) then rtr else bif !rop then rtr else bif J3 (xi x 0) && xi x 16 == 0 then rtr else bif xi x 0 == 1 || xi x 0 == 11 || xi x 0 == 14 || J3 (xi x 0) && (xi x 8 != xi l 8 || xi x 16 != xi l 16 || xi x 17 != xi l 17) then rtr else bif !J3 (xi x 0) || !ZL (xi l 8) (J2 x) then rtr else bif !has then JSo (J2 x) (J2 l) rtr else JVh (J2 x) (J2 l) (J2 y) st0 st1 rtr
def zU:Int:= bif rcl then pn0 else bif !Qm (J2 x) || ren || J3 (xi x 0) && rmo && !(xi x 2 == rla0 && (xi x 3 == rla1 && xi x 4 == rla2)) then pn0 else bif !rop && (!J3 (xi x 0) || xi x 16 == 0) then pn0 else bif !rop then pn0 else bif J3 (xi x 0) && xi x 16 == 0 then bif !ZJ (xi l 8) (xi l 17) (J2 x) || !has then pn0 else JSz (J2 l) (J2 y) st0 st1 rtr pn0 else bif xi x 0 == 1 || xi x 0 == 11 || xi x 0 == 14 || J3 (xi x 0) && (xi x 8 != xi l 8 || xi x 16 != xi l 16 || xi x 17 != xi l 17) then pn0 else bif !J3 (xi x 0) || !ZL (xi l 8) (J2 x) then pn0 else bif !has then JFg (J2 x) (J2 l) pn0 else JaW (J2 x) (J2 l) (J2 y) st0 st1 rtr pn0
def zn:Int:= bif rcl then pn1 else bif !Qm (J2 x) || ren || J3 (xi x 0) && rmo && !(xi x 2 == rla0 && (xi x 3 == rla1 && xi x 4 == rla2)) then pn1 else bif !rop && (!J3 (xi x 0) || xi x 16 == 0) then pn1 else bif !rop then pn1 else bif J3 (xi x 0) && xi x 16 == 0 then bif !ZJ (xi l 8) (xi l 17) (J2 x) || !has then pn1 else JSC (J2 l) (J2 y) st0 st1 rtr pn1 else bif xi x 0 == 1 || xi x 0 == 11 || xi x 0 == 14 || J3 (xi x 0) && (xi x 8 != xi l 8 || xi x 16 != xi l 16 || xi x 17 != xi l 17) then pn1 else bif !J3 (xi x 0) || !ZL (xi l 8) (J2 x) then pn1 else bif !has then JFo (J2 x) (J2 l) pn1 else JXQ (J2 x) (J2 l) (J2 y) st0 st1 rtr pn1
def W6:LL:= bif rcl then C else bif !Qm (J2 x) || ren || J3 (xi x 0) && rmo && !(xi x 2 == rla0 && (xi x 3 == rla1 && xi x 4 == rla2)) then C else bif !rop && (!J3 (xi x 0) || xi x 16 == 0) then C else bif !rop then bif !ZJ (xi x 8) (xi x 17) (J2 x) then C else [] else bif J3 (xi x 0) && xi x 16 == 0 then bif !ZJ (xi l 8) (xi l 17) (J2 x) || !has then C else JFV (J2 l) (J2 y) st0 st1 rtr C else bif xi x 0 == 1 || xi x 0 == 11 || xi x 0 == 14 || J3 (xi x 0) && (xi x 8 != xi l 8 || xi x 16 != xi l 16 || xi x 17 != xi l 17) then C else bif !J3 (xi x 0) || !ZL (xi l 8) (J2 x) then bif Int.ofNat C.length == 8 then C else [] ++ C ++ [JFw x] else bif !has then JFu (J2 x) (J2 l) C else JIi (J2 x) (J2 l) (J2 y) st0 st1 rtr C
def JgT:Prop:= (!rop && (!J3 (xi x 0) || xi x 16 == 0)) = false
def JhH:Prop:= (J3 (xi x 0) && xi x 16 == 0) = false
def Jif:Prop:= (xi x 0 == 1 || xi x 0 == 11 || xi x 0 == 14 || J3 (xi x 0) && (xi x 8 != xi l 8 || xi x 16 != xi l 16 || xi x 17 != xi l 17)) = false
def Ji0:Prop:= (!J3 (xi x 0) || !ZL (xi l 8) (J2 x)) = false
def JER:List Prop:= [rcl = false → (!Qm (J2 x) || ren || J3 (xi x 0) && rmo && !(xi x 2 == rla0 && (xi x 3 == rla1 && xi x 4 == rla2))) = false → (JgT x rop → (!rop) = false → ((J3 (xi x 0) && xi x 16 == 0) = true → (!ZJ (xi l 8) (xi l 17) (J2 x) || !has) = false → C.length ≤ 1000) ∧ (JhH x → Jif x l → ((!J3 (xi x 0) || !ZL (xi l 8) (J2 x)) = true → (Int.ofNat C.length == 8) = false → (0 + C.length) * 176 ≤ 140737488355328 ∧ 0 + C.length ≤ 9223372036854775807 ∧ (([] ++ C).length + 1) * 176 ≤ 140737488355328 ∧ ([] ++ C).length + 1 ≤ 9223372036854775807) ∧ (Ji0 x l → (!has) = true → C.length ≤ 1000))) ∧ (JgT x rop → (!rop) = false → JhH x → Jif x l → Ji0 x l → (!has) = false → C.length ≤ 1000)]
end
theorem JeC (x:List GC) (rcl rop rmo ren:Bool) (rla0 rla1 rla2:Int) (l:List GC) (has:Bool) (y:List GC) (st0 st1:Int) (rtr:Bool) (C:LL) (h:C.length ≤ 8):(W6 x rcl rop rmo ren rla0 rla1 rla2 l has y st0 st1 rtr C).length ≤ 8 := by
  unfold W6
  exact WR h (WR h (WR h (WR (WR h (Nat.zero_le _)) (WR (WR h (Nat.le_trans (JbU _ _ _ _ _ _) h))
    (WR h (WR (JyZ h) (WR (Nat.le_trans (JbX _ _ _) h) (Nat.le_trans (Jf2 _ _ _ _ _ _ _) h))))))))
theorem JjE {x:List GC} {rcl:Bool} {rop:Bool} {rmo:Bool} {ren:Bool} {rla0:Int} {rla1:Int} {rla2:Int} {l:List GC} {has:Bool} {C:LL} (hW:∀ q ∈ ([C.length ≤ 8]:List Prop),q):∀ q ∈ (JER x rcl rop rmo ren rla0 rla1 rla2 l has C),q := by
  simp only [awc,awn,and_true] at hW
  unfold JER
  simp only [awc,awn,and_true]
  exact fun _ _ => ⟨fun _ _ => ⟨fun _ _ => by omega,fun _ _ => ⟨fun _ _ => ⟨by omega,by omega,by simp; omega,by simp; omega⟩,fun _ _ => by omega⟩⟩,fun _ _ _ _ _ _ => by omega⟩
def Jgx (x:List GC) (rcl rop:Bool) (rer:Int) (rmo ren:Bool) (rla0 rla1 rla2:Int) (l:List GC) (has:Bool) (y:List GC) (st0 st1:Int) (rtr:Bool) (pn0 pn1:Int) (C:LL):Jn :=
 [(79295,Obj.row false 40 22 (RowC.lst 79294 jI (YS x rcl rop rmo ren rla0 rla1 rla2 l has y st0 st1 rtr C))),(0,Obj.blk 74 [(2,Cb rcl),(79297,Cb (JE6 x rcl rop rmo ren rla0 rla1 rla2 l has y st0 st1 rtr)),(4,Ci rer),(79298,Cb (JDo x rcl rmo ren rla0 rla1 rla2)),(79299,Cb (JEG x rcl rmo ren rla0 rla1 rla2)),(79300,Ci (JDV x rcl rmo ren rla0 rla1 rla2)),(79301,Ci (JDy x rcl rmo ren rla0 rla1 rla2)),(79302,Ci (JDw x rcl rmo ren rla0 rla1 rla2)),(79303,Ci (JDq x rcl rop rmo ren rla0 rla1 rla2 l)),(79304,Ci (JDx x rcl rop rmo ren rla0 rla1 rla2 l)),(79305,Ci (JA2 x rcl rop rmo ren rla0 rla1 rla2 l)),(79306,Ci (kX x rcl rop rmo ren rla0 rla1 rla2 l)),(79307,Ci (kw x rcl rop rmo ren rla0 rla1 rla2 l)),(79308,Ci (kt x rcl rop rmo ren rla0 rla1 rla2 l)),(79309,Ci (qF x rcl rop rmo ren rla0 rla1 rla2 l)),(79310,Ci (qu x rcl rop rmo ren rla0 rla1 rla2 l)),(79311,Ci (zV x rcl rop rmo ren rla0 rla1 rla2 l)),(79312,Ci (zp x rcl rop rmo ren rla0 rla1 rla2 l)),(79313,Ci (zT x rcl rop rmo ren rla0 rla1 rla2 l)),(79314,Ci (qL x rcl rop rmo ren rla0 rla1 rla2 l)),(79315,Ci (kv x rcl rop rmo ren rla0 rla1 rla2 l)),(79316,Cb (qH x rcl rop rmo ren rla0 rla1 rla2 l)),(79317,Ci (qp x rcl rop rmo ren rla0 rla1 rla2 l)),(79318,Cb (qZ x rcl rop rmo ren rla0 rla1 rla2 l)),(79319,Ci (zR x rcl rop rmo ren rla0 rla1 rla2 l)),(79320,Ci (qS x rcl rop rmo ren rla0 rla1 rla2 l)),(79321,Ci (zJ x rcl rop rmo ren rla0 rla1 rla2 l)),(79322,Ci (qy x rcl rop rmo ren rla0 rla1 rla2 l)),(79323,Ci (qm x rcl rop rmo ren rla0 rla1 rla2 l)),(79324,Cb (qU x rcl rop rmo ren rla0 rla1 rla2 l)),(79293,SC.wh 79291),(79325,Cb (qi x rcl rop rmo ren rla0 rla1 rla2 l has y st0 st1 rtr)),(79326,Ci (JA6 x rcl rop rmo ren rla0 rla1 rla2 l has y st0 st1 rtr)),(79327,Ci (zZ x rcl rop rmo ren rla0 rla1 rla2 l has y st0 st1 rtr)),(79328,Ci (kT x rcl rop rmo ren rla0 rla1 rla2 l has y st0 st1 rtr)),(79329,Ci (ke x rcl rop rmo ren rla0 rla1 rla2 l has y st0 st1 rtr)),(79330,Ci (ql x rcl rop rmo ren rla0 rla1 rla2 l has y st0 st1 rtr)),(79331,Ci (kc x rcl rop rmo ren rla0 rla1 rla2 l has y st0 st1 rtr)),(79332,Ci (kM x rcl rop rmo ren rla0 rla1 rla2 l has y st0 st1 rtr)),(79333,Ci (qV x rcl rop rmo ren rla0 rla1 rla2 l has y st0 st1 rtr)),(79334,Ci (zm x rcl rop rmo ren rla0 rla1 rla2 l has y st0 st1 rtr)),(79335,Ci (zQ x rcl rop rmo ren rla0 rla1 rla2 l has y st0 st1 rtr)),(79336,Ci (zF x rcl rop rmo ren rla0 rla1 rla2 l has y st0 st1 rtr)),(79337,Ci (zz x rcl rop rmo ren rla0 rla1 rla2 l has y st0 st1 rtr)),(79338,Ci (zj x rcl rop rmo ren rla0 rla1 rla2 l has y st0 st1 rtr)),(79339,Cb (kr x rcl rop rmo ren rla0 rla1 rla2 l has y st0 st1 rtr)),(79340,Ci (kN x rcl rop rmo ren rla0 rla1 rla2 l has y st0 st1 rtr)),(79341,Cb (zP x rcl rop rmo ren rla0 rla1 rla2 l has y st0 st1 rtr)),(79342,Ci (zq x rcl rop rmo ren rla0 rla1 rla2 l has y st0 st1 rtr)),(79343,Ci (kh x rcl rop rmo ren rla0 rla1 rla2 l has y st0 st1 rtr)),(79344,Ci (kx x rcl rop rmo ren rla0 rla1 rla2 l has y st0 st1 rtr)),(79345,Ci (zo x rcl rop rmo ren rla0 rla1 rla2 l has y st0 st1 rtr)),(79346,Ci (qP x rcl rop rmo ren rla0 rla1 rla2 l has y st0 st1 rtr)),(79347,Cb (qN x rcl rop rmo ren rla0 rla1 rla2 l has y st0 st1 rtr)),(79348,Ci (kb x rcl rop rmo ren rla0 rla1 rla2 l has y st0 st1 rtr)),(79349,Ci (kl x rcl rop rmo ren rla0 rla1 rla2 l has y st0 st1 rtr)),(79350,Cb (zY x rcl rop rmo ren rla0 rla1 rla2 l has y st0 st1 rtr)),(79351,Ci (zU x rcl rop rmo ren rla0 rla1 rla2 l has y st0 st1 rtr pn0)),(79352,Ci (zn x rcl rop rmo ren rla0 rla1 rla2 l has y st0 st1 rtr pn1))]),(79291,Obj.row true 40 22 (RowC.lst 79296 jI (W6 x rcl rop rmo ren rla0 rla1 rla2 l has y st0 st1 rtr C))),(1,Obj.row true 40 22
 (RowC.lst 61 jI C))]
theorem JkC (x:List GC) (rcl rop:Bool) (rer:Int) (rmo ren:Bool) (rla0 rla1 rla2:Int) (l:List GC) (has:Bool) (y:List GC) (st0 st1:Int) (rtr:Bool) (pn0 pn1:Int) (C:LL) (hNeeds:∀ pN ∈ (JER x rcl rop rmo ren rla0 rla1 rla2 l has C),pN):Runs (JHn (JC JdV) jQ 45) (JGX.args (Je JOO [.v x,.b rcl,.b rop,.i rer,.b rmo,.b ren,.i rla0,.i rla1,.i rla2,.v l,.b has,.v y,.i st0,.i st1,.b rtr,.i pn0,.i pn1])) (JGX.memo (Je JOO [.v x,.b rcl,.b rop,.i rer,.b rmo,.b ren,.i rla0,.i rla1,.i rla2,.v l,.b has,.v y,.i st0,.i st1,.b rtr,.i pn0,.i pn1]) [C]) JGX.n (SV.tup [(false,[SC.wh 79295]),(false,[Ci (QC x rcl rop rmo ren rla0 rla1 rla2 l has y st0 st1 rtr C)])]) (Jgx x rcl rop rer rmo ren rla0 rla1 rla2 l has y st0 st1 rtr pn0 pn1 C) :=
  Runs.of1 (ps := (JER x rcl rop rmo ren rla0 rla1 rla2 l has C)) (by kernel_rfl) hNeeds
def JS9:List Gm → Qs → Option CRes
  | [.v x,.b rcl,.b rop,.i rer,.b rmo,.b ren,.i rla0,.i rla1,.i rla2,.v l,.b has,.v y,.i st0,.i st1,.b rtr,.i pn0,.i pn1],[C] => some ⟨SV.tup [(false,[SC.wh 79295]),(false,[Ci (QC x rcl rop rmo ren rla0 rla1 rla2 l has y st0 st1 rtr C)])],Jgx x rcl rop rer rmo ren rla0 rla1 rla2 l has y st0 st1 rtr pn0 pn1 C,[C.length ≤ 8],[],79353⟩
  | _,_ => none
theorem JsR:Ql Tryz.prog 45 (Z7 JOO JGX JS9) := by
  refine Qg (KI JTb 45) fun ps ls r hr hn _ => ?_
  unfold JS9 at hr
  split at hr
  · cases hr; exact ⟨_,JkC _ _ _ _ _ _ _ _ _ _ _ _ _ _ _ _ _ _ (JjE (by exact hn)),fun _ => rfl⟩
  · cases hr
def Jdf:List (Nat × JY) := (45,Z7 JOO JGX JS9) :: JdV
theorem JUR:Known Tryz.prog (JC Jdf) jQ := J7 JTb JsR
end
end Go.Proofs.YtmbfbhimdkjkoaaGreat
