/-
  CutterPlays: for every input the law returns true; each argument reads afterwards as it read before. Conditions: none.
-/
import Derived.Test.YtmbfbhimdkjkoaaGreatM0952d8ad
import Derived.Test.YtmbfbhimdkjkoaaGreatM1f55bd71
import Derived.ProofKit
import Derived.Carry
import Derived.ChangeOld
import Derived.ChangeArms
import Derived.DataElems
set_option linter.all false
set_option maxRecDepth 1000000
namespace Go.Proofs.YtmbfbhimdkjkoaaGreat
noncomputable section
open Go.SX Go.RowKit
theorem JGt {a m q r:Int} (hm:0 < m) (h0:0 ≤ r) (h1:r < m) (e:r + m * q = a):a / m = q := ((Int.ediv_emod_unique hm).2 ⟨e,h0,h1⟩).1
theorem Ja5 {x:Int} (h0:0 ≤ x) (h1:x ≤ 4611686018427387904):Ya x false = x := by
  unfold Ya
  rw [decide_eq_true (show x < 9223372036854775808 by omega)]
  simp only [Bool.false_and,cond_false,Bool.not_false,Bool.and_self,cond_true]
  rw [Zy (by omega) (by omega)]
theorem JhE {x:Int} (h0:0 ≤ x) (h1:x ≤ 4611686018427387904):Ya x true = -x := by
  unfold Ya
  rw [decide_eq_true (show x ≤ 9223372036854775808 by omega)]
  simp only [Bool.and_self,cond_true]
  by_cases hz:x = 0
  · rw [hz]; rfl
  · rw [JBi]
    have:(0 - x) % 18446744073709551616 = 18446744073709551616 - x := by omega
    rw [this]
    unfold IntKind.wrap
    simp only [IntKind.bits,IntKind.signed]
    simp
    omega
theorem Jkw (more:Int) (some ng:Bool):JBe 2 more some ng = (decide (more > 0) || more == 0 && !ng) := rfl
theorem JvF {d k n:Int} (hd:bd n d) (hk:0 ≤ k ∧ k ≤ n) (hn:1 ≤ n ∧ n ≤ 4194304):X8 d k n 2 = (2 * d * k + n) / (2 * n) := by
  obtain ⟨p,p0,p1,pa,_⟩ := JvX d
  have sd:J6 d = p := by rw [Xl d ⟨by omega,by omega⟩]; split <;> omega
  have sk:J6 k = k := by rw [Xl k ⟨by omega,by omega⟩,if_neg (by omega)]
  have sn:J6 n = n := by rw [Xl n ⟨by omega,by omega⟩,if_neg (by omega)]
  have hP := Ke 4194304 4194304 (x := p) (y := k) ⟨p0,by omega⟩ ⟨hk.1,by omega⟩ (by omega)
  have e0:QJ p k = 0 := by rw [JAI _ _ ⟨by omega,by omega⟩ ⟨by omega,by omega⟩]; omega
  have e1:Qa p k = p * k := by rw [zx]; omega
  have hs := JJO d k
  have hdk:d * k = p * k ∨ d * k = -(p * k) := by
    rcases p1 with rfl | rfl
    · exact .inl rfl
    · right; rw [Int.neg_mul]
  have hdk0:0 ≤ d → d * k = p * k := fun h => by rw [pa h]
  have e2:2 * d * k = 2 * (d * k) := Int.mul_assoc _ _ _
  have hneg:d < 0 → d * k = -(p * k) := fun h => by
    have:d = -p := by omega
    rw [this,Int.neg_mul]
  rw [e2]
  generalize d * k = D at *
  generalize p * k = P at *
  obtain ⟨f0,f1⟩ := JKI (a := 0) (b := P) (c := n) (by omega) (by omega) (by omega) (by omega) (by omega)
  rw [show (0:Int) * 18446744073709551616 + P = P by omega] at f0 f1
  have dm := Int.mul_ediv_add_emod P n
  have m0 := Int.emod_nonneg P (show n ≠ 0 by omega)
  have m1 := Int.emod_lt_of_pos P (show 0 < n by omega)
  have q0 := Int.ediv_nonneg hP.1 (show 0 ≤ n by omega)
  have q1 := Int.ediv_le_self n hP.1
  unfold X8 JFq ja JFF
  rw [sd,sk,sn,e0,e1,f0,f1,Jkw]
  generalize P / n = q at *
  generalize P % n = m at *
  have g1:(n == 0 || !((2:Int) == 0 || (2:Int) == 1 || (2:Int) == 2)) = false := by
    rw [show (n == 0) = false by simp; omega]; rfl
  have g2:decide ((0:Int) ≥ n) = false := decide_eq_false (by omega)
  have g3:(!decide (Qe d k < 0) == decide (n < 0) && Qe d k != 0) = decide (Qe d k < 0) := by
    rw [decide_eq_false (show ¬ n < 0 by omega)]
    rcases hs with ⟨h1,_⟩ | ⟨h1,_⟩ | ⟨h1,_⟩ <;> rw [h1] <;> rfl
  have g4:IntKind.u64.wrap (n - m) = n - m := Yy (by omega) (by omega)
  have g5:IntKind.u64.wrap (q + 1) = q + 1 := Yy (by omega) (by omega)
  have g6:(q + 1 == 0) = false := by simp; omega
  rw [g1,g2,g3,g4,g5,g6]
  simp only [cond_false]
  have nq:n * q = P - m := by omega
  have hmq:∀ x:Int,2 * n * x = 2 * (n * x) := fun x => Int.mul_assoc _ _ _
  have nq1:n * (q + 1) = P - m + n := by rw [Int.mul_add,Int.mul_one]; omega
  have nqn:n * -q = -(P - m) := by rw [Int.mul_neg,nq]
  have nqn1:n * -(q + 1) = -(P - m + n) := by rw [Int.mul_neg,nq1]
  have hmore:∀ ng:Bool,(decide ((bif decide (m > n - m) then (1:Int) else bif decide (m < n - m) then -1 else 0) > 0) || (bif decide (m > n - m) then (1:Int) else bif decide (m < n - m) then -1 else 0) == 0 && !ng) = (decide (2 * m > n) || decide (2 * m = n) && !ng) := fun ng => by
    by_cases h1:m > n - m
    · rw [decide_eq_true h1,decide_eq_true (show 2 * m > n by omega)]; rfl
    · rw [decide_eq_false h1,decide_eq_false (show ¬ 2 * m > n by omega)]
      by_cases h2:m < n - m
      · rw [decide_eq_true h2,decide_eq_false (show ¬ 2 * m = n by omega)]; rfl
      · rw [decide_eq_false h2,decide_eq_true (show 2 * m = n by omega)]; rfl
  rw [hmore]
  by_cases hsg:Qe d k < 0
  · rw [decide_eq_true hsg]
    have hD:D = -P := by rcases hs with ⟨h1,h2⟩ | ⟨h1,h2,_⟩ | ⟨h1,h2,_⟩ <;> rcases hdk with h | h <;> omega
    by_cases h1:2 * m > n
    · rw [decide_eq_true h1]
      simp only [Bool.true_or,cond_true]
      rw [JhE (by omega) (by omega)]
      exact (JGt (r := 3 * n - 2 * m) (by omega) (by omega) (by omega) (by rw [hmq,nqn1]; omega)).symm
    · rw [decide_eq_false h1]
      simp only [Bool.not_true,Bool.and_false,Bool.or_self,cond_false]
      rw [JhE (by omega) (by omega)]
      exact (JGt (r := n - 2 * m) (by omega) (by omega) (by omega) (by rw [hmq,nqn]; omega)).symm
  · rw [decide_eq_false hsg]
    have hD:D = P := by
      rcases hs with ⟨h1,h2⟩ | ⟨h1,h2,_⟩ | ⟨h1,h2,_⟩
      · rcases hdk with h | h <;> omega
      · rcases hdk with h | h <;> omega
      · exfalso; omega
    by_cases h1:2 * m > n
    · rw [decide_eq_true h1]
      simp only [Bool.true_or,cond_true]
      rw [Ja5 (by omega) (by omega)]
      exact (JGt (r := 2 * m - n) (by omega) (by omega) (by omega) (by rw [hmq,nq1]; omega)).symm
    · rw [decide_eq_false h1]
      by_cases h2:2 * m = n
      · rw [decide_eq_true h2]
        simp only [Bool.not_false,Bool.and_self,Bool.or_true,cond_true]
        rw [Ja5 (by omega) (by omega)]
        exact (JGt (r := 2 * m - n) (by omega) (by omega) (by omega) (by rw [hmq,nq1]; omega)).symm
      · rw [decide_eq_false h2]
        simp only [Bool.false_and,Bool.or_self,cond_false]
        rw [Ja5 (by omega) (by omega)]
        exact (JGt (r := 2 * m + n) (by omega) (by omega) (by omega) (by rw [hmq,nq]; omega)).symm
theorem JvJ {a m:Int} (hm:0 < m) (ha:bd 4611686018427387904 a):JCc a m = a / m := by
  unfold JCc
  by_cases h:0 ≤ a
  · have t1:a.tdiv m = a / m := Int.tdiv_eq_ediv_of_nonneg h
    have t2:a.tmod m = a % m := Int.tmod_eq_emod_of_nonneg h
    have m0 := Int.emod_nonneg a (show m ≠ 0 by omega)
    have q0 := Int.ediv_nonneg h (show 0 ≤ m by omega)
    have q1 := Int.ediv_le_self m h
    rw [t1,t2,decide_eq_false (by omega),cond_false,Zy (by omega) (by omega)]
  · obtain ⟨b,rfl⟩:∃ b,a = -b := ⟨-a,by omega⟩
    have hb:0 ≤ b := by omega
    have t1:(-b).tdiv m = -(b / m) := by rw [Int.neg_tdiv,Int.tdiv_eq_ediv_of_nonneg hb]
    have t2:(-b).tmod m = -(b % m) := by rw [Int.neg_tmod,Int.tmod_eq_emod_of_nonneg hb]
    have m0 := Int.emod_nonneg b (show m ≠ 0 by omega)
    have m1 := Int.emod_lt_of_pos b hm
    have q0 := Int.ediv_nonneg hb (show 0 ≤ m by omega)
    have q1 := Int.ediv_le_self m hb
    have dm := Int.mul_ediv_add_emod b m
    rw [t1,t2]
    by_cases h2:b % m = 0
    · rw [decide_eq_false (by omega),cond_false,Zy (by omega) (by omega)]
      exact (JGt (r := 0) hm (by omega) hm (by rw [Int.mul_neg]; omega)).symm
    · rw [decide_eq_true (by omega),cond_true,Zy (x := -(b / m)) (by omega) (by omega),Zy (by omega) (by omega)]
      have e:m * (-(b / m) - 1) = -(m * (b / m)) - m := by rw [Int.mul_sub,Int.mul_neg,Int.mul_one]
      exact (JGt (r := m - b % m) hm (by omega) (by omega) (by rw [e]; omega)).symm
theorem Jva {d k n:Int} (hd:bd n d) (hk:0 ≤ k ∧ k ≤ n) (hn:1 ≤ n ∧ n ≤ 4194304):bd (n + 1) ((2 * d * k + n) / (2 * n)) ∧ bd 35184380477440 (2 * d * k + n) := by
  have e2:2 * d * k = 2 * (d * k) := Int.mul_assoc _ _ _
  have h1 := JGf hd (show bd n k by omega) (by omega) (by omega)
  have h2 := Ke 4194304 4194304 (x := n) (y := n) ⟨by omega,hn.2⟩ ⟨by omega,hn.2⟩ (by omega)
  have e3:(n + 1) * (2 * n) = 2 * (n * n) + 2 * n := by grind
  have e4:(-(n + 1)) * (2 * n) = -(2 * (n * n) + 2 * n) := by rw [Int.neg_mul,e3]
  rw [e2]
  refine ⟨⟨?_,?_⟩,by omega⟩
  · exact (Int.le_ediv_iff_mul_le (show 0 < 2 * n by omega)).2 (by rw [e4]; omega)
  · have:(2 * (d * k) + n) / (2 * n) < n + 1 + 1 := (Int.ediv_lt_iff_lt_mul (show 0 < 2 * n by omega)).2 (by
      have e5:(n + 1 + 1) * (2 * n) = 2 * (n * n) + 4 * n := by grind
      rw [e5]; omega)
    omega
theorem JU2 {l h k n:Int} (hl:bd 1048576 l) (hd:bd n (h - l)) (hk:0 ≤ k ∧ k ≤ n) (hn:1 ≤ n ∧ n ≤ 4194304):JI l (X8 (h - l) k n 2) = ZP l h k n ∧ JI l (X8 (h - l) k n 2) = l + (2 * (h - l) * k + n) / (2 * n) := by
  obtain ⟨b1,b2⟩ := Jva hd hk hn
  have e2:2 * (h - l) * k = 2 * ((h - l) * k) := Int.mul_assoc _ _ _
  rw [JvF hd hk hn,JXc (by omega) (by omega)]
  refine ⟨?_,rfl⟩
  unfold ZP
  rw [Zy (x := h - l) (by omega) (by omega),Zy (x := 2 * (h - l)) (by omega) (by omega),Zy (x := 2 * (h - l) * k) (by omega) (by omega),Zy (x := 2 * (h - l) * k + n) (by omega) (by omega),Zy (x := 2 * n) (by omega) (by omega),JvJ (by omega) (by omega),Zy (by omega) (by omega)]
theorem JXV {P Q:Int → Bool}:∀ (f:Nat) (a b:Int),0 ≤ a → (∀ k,a ≤ k → k ≤ b → P k = Q k) → bs P f a b = bs Q f a b
  | 0,_,_,_,_ => rfl
  | f + 1,a,b,h0,h => by
    unfold bs
    by_cases g:b - a > 1
    · obtain ⟨m1,m2⟩ := JUr h0 g
      rw [h _ (by omega) (by omega),JXV f a _ h0 (fun k k1 k2 => h k k1 (by omega)),JXV f _ b (by omega) (fun k k1 k2 => h k (by omega) k2)]
    · rw [decide_eq_false g]; rfl
theorem JoE {P Q:Int → Bool} {n:Int} (h:∀ k,0 ≤ k → k ≤ n → P k = Q k):bsF P (bs0 n) = bsF Q (bs0 n) := JXV _ 0 n (by omega) h
theorem Jm4 {P Q:Int → Int → Bool} {d z:Int} {full:Bool} (hz:XT z) (h:∀ u w,P u w = Q u w):∀ (f:Nat) (s:CvS),cv P d z full f s = rcv Q d z full f s
  | 0,_ => rfl
  | f + 1,s => by
    have e1:(full && Int.ofNat s.i == 0) = !(!full || decide (Int.ofNat s.i > 0)) := by
      have:(Int.ofNat s.i == 0) = !decide (Int.ofNat s.i > 0) := by
        by_cases g:s.i = 0
        · rw [g]; rfl
        · have:(0:Int) < Int.ofNat s.i := by simp; omega
          rw [decide_eq_true this,show (Int.ofNat s.i == 0) = false by simp; omega]; rfl
      rw [this]
      cases full <;> cases decide (Int.ofNat s.i > 0) <;> rfl
    have e2:JIG s.a0 s.a1 s.b0 s.b1 = !JMM s := by
      unfold JIG JMM
      rw [Bool.not_and]
    have m0:JTt d z full s = Jg2 d z full s := by
      unfold JTt Jg2
      rw [e1,(Jar _ _ _ _ _ hz).1]
      cases (!full || decide (Int.ofNat s.i > 0)) <;> rfl
    have m1:JTv d z full s = Jgd d z full s := by
      unfold JTv Jgd
      rw [e1,(Jar _ _ _ _ _ hz).2]
      cases (!full || decide (Int.ofNat s.i > 0)) <;> rfl
    have en:cvN P d z full s = rcN Q d z full s := by
      unfold cvN rcN
      rw [m0,m1,h]
    unfold cv rcv
    rw [e1,e2,en,Jm4 hz h f]
    cases (!full || decide (Int.ofNat s.i > 0)) <;> cases JMM s <;> rfl
theorem JWf (a b c d:Int):((0 < JE a b c d ∨ JE a b c d = 0 ∧ 0 < J8 a b c d) ∧ KB a b c d = 0) ∨ (¬ (0 < JE a b c d ∨ JE a b c d = 0 ∧ 0 < J8 a b c d) ∧ KB a b c d = 1) := by
  unfold KB
  by_cases h1:0 < JE a b c d
  · left; exact ⟨.inl h1,by simp [h1]⟩
  · by_cases h2:JE a b c d = 0
    · by_cases h3:0 < J8 a b c d
      · left; exact ⟨.inr ⟨h2,h3⟩,by simp [h2,h3]⟩
      · right; exact ⟨by omega,by simp [h2,h3]⟩
    · right; exact ⟨by omega,by rw [show decide (JE a b c d > 0) = false from decide_eq_false h1,show (JE a b c d == 0) = false by simpa using h2]; rfl⟩
theorem JHy (a b c d e:Int):((0 < IntKind.i64.wrap (JE a b c d * e) ∨ IntKind.i64.wrap (JE a b c d * e) = 0 ∧ 0 < J8 a b c d) ∧ KM a b c d e = 0) ∨ (¬ (0 < IntKind.i64.wrap (JE a b c d * e) ∨ IntKind.i64.wrap (JE a b c d * e) = 0 ∧ 0 < J8 a b c d) ∧ KM a b c d e = 1) := by
  unfold KM
  generalize IntKind.i64.wrap (JE a b c d * e) = w
  by_cases h1:0 < w
  · left; exact ⟨.inl h1,by simp [h1]⟩
  · by_cases h2:w = 0
    · by_cases h3:0 < J8 a b c d
      · left; exact ⟨.inr ⟨h2,h3⟩,by simp [h2,h3]⟩
      · right; exact ⟨by omega,by simp [h2,h3]⟩
    · right; exact ⟨by omega,by rw [show decide (w > 0) = false from decide_eq_false h1,show (w == 0) = false by simpa using h2]; rfl⟩
theorem Jbx (a0 a1 b0 b1 p0 p1:Int):K7 a0 a1 b0 b1 p0 p1 = QK a0 a1 b0 b1 p0 p1 1 false := by
  have e:∀ x,XT x → IntKind.i64.wrap (x * 1) = x := fun x h => by rw [Int.mul_one]; exact Zy h.1 h.2
  have r:∀ a b c d,KM a b c d 1 = KB a b c d := fun a b c d => by
    unfold KM KB
    rw [e (JE a b c d) (Jk _)]
  unfold K7 QK
  rw [r,r,e (JE p0 p1 b0 b1) (Jk _)]
  generalize KB a0 a1 p0 p1 = h
  generalize KB a0 a1 b0 b1 = k
  generalize JE p0 p1 b0 b1 = x
  by_cases h1:h = k
  · subst h1; simp
  · by_cases h2:h < k
    · rw [decide_eq_true h2,show (h != k) = true by simpa using h1]; rfl
    · rw [decide_eq_false h2,show (h != k) = true by simpa using h1,show (h == k) = false by simpa using h1]; rfl
theorem Jg7 {a0 a1 b0 b1 p0 p1:Int} (ha0:b9 a0) (ha1:b9 a1) (hb0:b9 b0) (hb1:b9 b1) (hp0:b9 p0) (hp1:b9 p1) (ha:a0 ≠ 0 ∨ a1 ≠ 0) (hb:b0 ≠ 0 ∨ b1 ≠ 0) (hp:p0 ≠ 0 ∨ p1 ≠ 0) :
    K7 b0 b1 a0 a1 p0 p1 = QK a0 a1 b0 b1 p0 p1 (-1) false := by
  have hN := JWU ha
  have bnd:∀ {a b c d:Int},b9 a → b9 b → b9 c → b9 d → bd 2000000000000000000 (JE a b c d) := fun {a b c d} h1 h2 h3 h4 => by
    have q1 := JGf h1 h4 (by omega) (by omega)
    have q2 := JGf h2 h3 (by omega) (by omega)
    rw [Zx h1 h2 h3 h4]
    generalize a * d = s at *
    generalize b * c = t at *
    omega
  have neg:∀ x,bd 2000000000000000000 x → IntKind.i64.wrap (x * -1) = -x := fun x h => by rw [show x * -1 = -x by omega]; exact Zy (by omega) (by omega)
  have eC:JE p0 p1 b0 b1 * (a0 * a0 + a1 * a1) = J8 a0 a1 p0 p1 * JE a0 a1 b0 b1 - JE a0 a1 p0 p1 * J8 a0 a1 b0 b1 := by
    rw [Zx hp0 hp1 hb0 hb1,Kf ha0 ha1 hp0 hp1,Zx ha0 ha1 hb0 hb1,Zx ha0 ha1 hp0 hp1,Kf ha0 ha1 hb0 hb1]
    grind
  have eD:J8 b0 b1 p0 p1 * (a0 * a0 + a1 * a1) = J8 a0 a1 p0 p1 * J8 a0 a1 b0 b1 + JE a0 a1 p0 p1 * JE a0 a1 b0 b1 := by
    rw [Kf hb0 hb1 hp0 hp1,Kf ha0 ha1 hp0 hp1,Zx ha0 ha1 hb0 hb1,Zx ha0 ha1 hp0 hp1,Kf ha0 ha1 hb0 hb1]
    grind
  have e1:JE b0 b1 p0 p1 = -JE p0 p1 b0 b1 := by rw [Zx hb0 hb1 hp0 hp1,Zx hp0 hp1 hb0 hb1]; grind
  have e2:JE b0 b1 a0 a1 = -JE a0 a1 b0 b1 := by rw [Zx hb0 hb1 ha0 ha1,Zx ha0 ha1 hb0 hb1]; grind
  have e3:J8 b0 b1 a0 a1 = J8 a0 a1 b0 b1 := by rw [Kf hb0 hb1 ha0 ha1,Kf ha0 ha1 hb0 hb1]; grind
  have e4:JE p0 p1 a0 a1 = -JE a0 a1 p0 p1 := by rw [Zx hp0 hp1 ha0 ha1,Zx ha0 ha1 hp0 hp1]; grind
  have nz:∀ {q0 q1:Int},b9 q0 → b9 q1 → (q0 ≠ 0 ∨ q1 ≠ 0) → J8 a0 a1 q0 q1 ≠ 0 ∨ JE a0 a1 q0 q1 ≠ 0 := fun {q0 q1} h0 h1 hq => by
    have hM := JWU hq
    have e:J8 a0 a1 q0 q1 * J8 a0 a1 q0 q1 + JE a0 a1 q0 q1 * JE a0 a1 q0 q1 = (a0 * a0 + a1 * a1) * (q0 * q0 + q1 * q1) := by
      rw [Kf ha0 ha1 h0 h1,Zx ha0 ha1 h0 h1]
      grind
    have hpos := Int.mul_pos hN hM
    rw [← e] at hpos
    by_cases q1:J8 a0 a1 q0 q1 = 0
    · right
      intro q2
      rw [q1,q2] at hpos
      simp at hpos
    · exact .inl q1
  have core := Jjp (x := J8 a0 a1 p0 p1) (y := JE a0 a1 p0 p1) (u := J8 a0 a1 b0 b1) (v := JE a0 a1 b0 b1) (c := JE p0 p1 b0 b1) (d := J8 b0 b1 p0 p1) (nz hp0 hp1 hp) (nz hb0 hb1 hb)
    ⟨fun h => by rw [← eC]; exact JW6 hN h,fun h => by rw [← eC] at h; exact qD hN h⟩ ⟨fun h => by rw [← eC]; exact Jiu hN h,fun h => by rw [← eC] at h; exact JaT hN h⟩ ⟨fun h => by rw [← eD]; exact JW6 hN h,fun h => by rw [← eD] at h; exact qD hN h⟩
  have o1 := JWf b0 b1 p0 p1
  have o2 := JWf b0 b1 a0 a1
  have o3 := JHy a0 a1 p0 p1 (-1)
  have o4 := JHy a0 a1 b0 b1 (-1)
  rw [neg _ (bnd ha0 ha1 hp0 hp1)] at o3
  rw [neg _ (bnd ha0 ha1 hb0 hb1)] at o4
  rw [e1] at o1
  rw [e2,e3] at o2
  unfold K7 QK
  rw [neg _ (bnd hp0 hp1 hb0 hb1),e4]
  clear eC eD e1 e2 e3 e4
  generalize KB b0 b1 p0 p1 = q at *
  generalize KB b0 b1 a0 a1 = k at *
  generalize KM a0 a1 p0 p1 (-1) = h at *
  generalize KM a0 a1 b0 b1 (-1) = k' at *
  generalize JE p0 p1 b0 b1 = c at *
  generalize J8 b0 b1 p0 p1 = d at *
  generalize JE a0 a1 p0 p1 = y at *
  generalize J8 a0 a1 p0 p1 = x at *
  generalize JE a0 a1 b0 b1 = v at *
  generalize J8 a0 a1 b0 b1 = u at *
  clear nz neg bnd ha hb hp hN ha0 ha1 hb0 hb1 hp0 hp1
  have Q1:((c < 0 ∨ c = 0 ∧ 0 < d) ∧ q = 0) ∨ (¬ (c < 0 ∨ c = 0 ∧ 0 < d) ∧ q = 1) := by
    rcases o1 with ⟨g1,g2⟩ | ⟨g1,g2⟩
    · exact .inl ⟨by omega,g2⟩
    · exact .inr ⟨by omega,g2⟩
  have Q2:((v < 0 ∨ v = 0 ∧ 0 < u) ∧ k = 0 ∧ k' = 0) ∨ (¬ (v < 0 ∨ v = 0 ∧ 0 < u) ∧ k = 1 ∧ k' = 1) := by
    rcases o2 with ⟨g1,g2⟩ | ⟨g1,g2⟩ <;> rcases o4 with ⟨g3,g4⟩ | ⟨g3,g4⟩
    · exact .inl ⟨by omega,g2,g4⟩
    · exfalso; omega
    · exfalso; omega
    · exact .inr ⟨by omega,g2,g4⟩
  have Q3:((y < 0 ∨ y = 0 ∧ 0 < x) ∧ h = 0) ∨ (¬ (y < 0 ∨ y = 0 ∧ 0 < x) ∧ h = 1) := by
    rcases o3 with ⟨g1,g2⟩ | ⟨g1,g2⟩
    · exact .inl ⟨by omega,g2⟩
    · exact .inr ⟨by omega,g2⟩
  clear o1 o2 o3 o4
  generalize (c < 0 ∨ c = 0 ∧ 0 < d) = Q at *
  generalize (v < 0 ∨ v = 0 ∧ 0 < u) = K at *
  generalize (y < 0 ∨ y = 0 ∧ 0 < x) = H at *
  rcases Q1 with ⟨A,rfl⟩ | ⟨A,rfl⟩ <;> rcases Q2 with ⟨B,rfl,rfl⟩ | ⟨B,rfl,rfl⟩ <;> rcases Q3 with ⟨D,rfl⟩ | ⟨D,rfl⟩ <;>
    simp only [A,B,D,true_and,false_and,not_true_eq_false,not_false_eq_true,false_or,or_false,true_or,or_true,and_true,iff_true,true_iff,iff_false,false_iff] at core <;>
    rw [Bool.eq_iff_iff] <;> simp <;> omega
theorem vc0 (a b:Int):JE a b 0 0 = 0 := by unfold JE; rw [Int.mul_zero,Int.mul_zero]; rfl
theorem JwF (a b:Int):JE 0 0 a b = 0 := by unfold JE; rw [Int.zero_mul,Int.zero_mul]; rfl
theorem vi0 (a b:Int):J8 a b 0 0 = 0 := by unfold J8; rw [Int.mul_zero,Int.mul_zero]; rfl
theorem Jap {a0 a1 b0 b1:Int} (ha0:b9 a0) (ha1:b9 a1) (hb0:b9 b0) (hb1:b9 b1):K7 b0 b1 a0 a1 0 0 = QK a0 a1 b0 b1 0 0 (-1) false := by
  have q1 := JGf ha0 hb1 (by omega) (by omega)
  have q2 := JGf ha1 hb0 (by omega) (by omega)
  have o2 := JWf b0 b1 a0 a1
  have o4 := JHy a0 a1 b0 b1 (-1)
  have e2:JE b0 b1 a0 a1 = -JE a0 a1 b0 b1 := by rw [Zx hb0 hb1 ha0 ha1,Zx ha0 ha1 hb0 hb1]; grind
  have e3:J8 b0 b1 a0 a1 = J8 a0 a1 b0 b1 := by rw [Kf hb0 hb1 ha0 ha1,Kf ha0 ha1 hb0 hb1]; grind
  have e4:IntKind.i64.wrap (JE a0 a1 b0 b1 * -1) = -JE a0 a1 b0 b1 := by
    rw [Zx ha0 ha1 hb0 hb1,show (a0 * b1 - a1 * b0) * -1 = -(a0 * b1 - a1 * b0) by omega]
    generalize a0 * b1 = x at *
    generalize a1 * b0 = y at *
    exact Zy (by omega) (by omega)
  rw [e2,e3] at o2
  rw [e4] at o4
  have c1:KB b0 b1 0 0 = 1 := by unfold KB; rw [vc0,vi0]; rfl
  have c2:KM a0 a1 0 0 (-1) = 1 := by unfold KM; rw [vc0,vi0]; rfl
  unfold K7 QK
  rw [c1,c2,JwF,JwF]
  have w:IntKind.i64.wrap (0 * -1) = 0 := rfl
  rw [w]
  generalize KB b0 b1 a0 a1 = h at *
  generalize KM a0 a1 b0 b1 (-1) = k at *
  rcases o2 with ⟨g1,rfl⟩ | ⟨g1,rfl⟩ <;> rcases o4 with ⟨g3,rfl⟩ | ⟨g3,rfl⟩
  · rfl
  · exact absurd g1 g3
  · exact absurd g3 g1
  · rfl
theorem JrA (a0 a1 b0 b1 u w d:Int) (e7:Bool):QK a0 a1 b0 b1 u w d e7 = (e7 || QK a0 a1 b0 b1 u w d false) := by cases e7 <;> rfl
theorem Jhz {e0 e1 e2 e3 e4 e5 e6:Int} (e7:Bool) {u w:Int} (y z:Int) (E:EP e0 e1 e2 e3 e4 e5 e6) (hu:bd 1048576 u) (hw:bd 1048576 w) :
    JHW e0 e1 e2 e3 e4 e5 e6 e7 u w y z = bif e6 == 0 then decide (J8 (J0 u y) (J0 w z) (J0 e2 e0) (J0 e3 e1) > 0) else
      (QK (J0 e0 e4) (J0 e1 e5) (J0 e2 e4) (J0 e3 e5) (J0 u e4) (J0 w e5) e6 e7 && !XF (J0 e0 e4) (J0 e1 e5) (J0 u e4) (J0 w e5)) := by
  unfold JHW
  cases h6:e6 == 0
  · rw [cond_false,cond_false]
    have hne:e6 ≠ 0 := by simpa using h6
    have c0 := E.c0
    have c1 := E.c1
    have c2 := E.c2
    have c3 := E.c3
    have c4 := E.c4
    have c5 := E.c5
    have hs:(JE (J0 e0 e4) (J0 e1 e5) (J0 u e4) (J0 w e5) != 0 || decide (J8 (J0 e0 e4) (J0 e1 e5) (J0 u e4) (J0 w e5) ≤ 0)) = !XF (J0 e0 e4) (J0 e1 e5) (J0 u e4) (J0 w e5) := by
      unfold XF
      generalize JE (J0 e0 e4) (J0 e1 e5) (J0 u e4) (J0 w e5) = x
      generalize J8 (J0 e0 e4) (J0 e1 e5) (J0 u e4) (J0 w e5) = i
      rw [Bool.eq_iff_iff]
      simp only [Bool.or_eq_true,Bool.not_eq_true',Bool.and_eq_false_iff,bne_iff_ne,decide_eq_true_eq,beq_eq_false_iff_ne,decide_eq_false_iff_not]
      omega
    rw [hs,JrA]
    have m:∀ {a b:Int},bd 1048576 a → bd 1048576 b → J0 a b = a - b := fun {a b} h1 h2 => XR (by omega) (by omega)
    have z1 := E.s1 hne
    have z2 := E.s2 hne
    rcases E.dir with h | rfl | rfl
    · exact absurd h hne
    · have ei:KG e0 e1 0 e2 e3 0 17 (JN e4 1) (JN e5 1) 0 (Jo 1) (JMv 1 e7) (J0 u e4) (J0 w e5) = (e7 || K7 (J0 e0 e4) (J0 e1 e5) (J0 e2 e4) (J0 e3 e5) (J0 u e4) (J0 w e5)) := rfl
      rw [ei,Jbx]
    · have ei:KG e0 e1 0 e2 e3 0 17 (JN e4 (-1)) (JN e5 (-1)) 0 (Jo (-1)) (JMv (-1) e7) (J0 u e4) (J0 w e5) = (e7 || K7 (J0 e2 e4) (J0 e3 e5) (J0 e0 e4) (J0 e1 e5) (J0 u e4) (J0 w e5)) := rfl
      rw [ei,m (a := e0) (by omega) c4,m (a := e1) (by omega) c5,m (a := e2) (by omega) c4,m (a := e3) (by omega) c5,m hu c4,m hw c5]
      by_cases hz:u - e4 = 0 ∧ w - e5 = 0
      · rw [hz.1,hz.2,Jap (by omega) (by omega) (by omega) (by omega)]
      · rw [Jg7 (by omega) (by omega) (by omega) (by omega) (by omega) (by omega) z1 z2 (by omega)]
  · rw [cond_true,cond_true]
theorem Jlr (d k:Int):X8 d k 0 2 = 0 := by
  unfold X8
  have:((0:Int) == 0 || !((2:Int) == 0 || (2:Int) == 1 || (2:Int) == 2)) = true := rfl
  rw [this,cond_true]
theorem JjT {e0 e1 e2 e3 e4 e5 e6 f0 f1 f2 f3 f4 f5 f6 l0 l1 h0 h1 r:Int} (e7 f7:Bool) (hd:Jtk e6) (F:EP f0 f1 f2 f3 f4 f5 f6) (hr:bd 1000000000 r) (b0:bd 1048576 l0) (b1:bd 1048576 l1) (b2:bd 1048576 h0) (b3:bd 1048576 h1) :
    (bif f6 == 0 then JCP l0 l1 h0 h1 e0 e1 e2 e3 e4 e5 e6 e7 r else JIg f0 f1 f2 f3 f4 f5 f6 f7 l0 l1 h0 h1 r e0 e1 e2 e3 e4 e5 e6 e7 r) = JNV e0 e1 e2 e3 e4 e5 e6 e7 f0 f1 f2 f3 f4 f5 f6 f7 l0 l1 h0 h1 r ∧
    (bif f6 == 0 then JD2 l0 l1 h0 h1 e0 e1 e2 e3 e4 e5 e6 e7 r else JJV f0 f1 f2 f3 f4 f5 f6 f7 l0 l1 h0 h1 r e0 e1 e2 e3 e4 e5 e6 e7 r) = JMi e0 e1 e2 e3 e4 e5 e6 e7 f0 f1 f2 f3 f4 f5 f6 f7 l0 l1 h0 h1 r := by
  unfold JNV JMi
  cases h6:f6 == 0
  · simp only [cond_false]
    have sp':∀ a b c:Int,JF a b c false = J0 a c := fun _ _ _ => rfl
    have c0 := F.c0
    have c1 := F.c1
    have c4 := F.c4
    have c5 := F.c5
    have m0:J0 f0 f4 = f0 - f4 := XR (by omega) (by omega)
    have m1:J0 f1 f5 = f1 - f5 := XR (by omega) (by omega)
    have hv:J8 (J0 f0 f4) (J0 f1 f5) (J0 f0 f4) (J0 f1 f5) = (f0 - f4) * (f0 - f4) + (f1 - f5) * (f1 - f5) := by rw [m0,m1,Kf (by omega) (by omega) (by omega) (by omega)]
    have hz := (Jnp (n := J8 (J0 f0 f4) (J0 f1 f5) (J0 f0 f4) (J0 f1 f5)) (m := 2) (by rw [hv]; exact Jw6 _ _) (JhX _ _ _ _) (.inr (.inr rfl))).1
    simp only [sp']
    rw [← hz]
    unfold JIg JJV
    have key:∀ {Z:Int},XT Z → (crF Z f0 f1 f2 f3 f4 f5 f6 f7 e0 e1 e2 e3 e4 e5 e6 e7 r).fin (cv0 (J0 l0 f4) (J0 l1 f5) (J0 h0 f4) (J0 h1 f5)) = (faF Z f0 f1 f2 f3 f4 f5 f6 f7 e0 e1 e2 e3 e4 e5 e6 e7 r).fin (cv0 (J0 l0 f4) (J0 l1 f5) (J0 h0 f4) (J0 h1 f5)) := fun {Z} hZ =>
      Jm4 hZ (fun u w => JLq _ _ hd hr) _ _
    rw [key (Jk _)]
    exact ⟨rfl,rfl⟩
  · simp only [cond_true]
    obtain ⟨en,n0,n1,n2,n3⟩ := JmX b0 b1 b2 b3
    have en':Z6 l0 l1 h0 h1 = Yc l0 l1 h0 h1 := by
      unfold Z6 JOl JOQ Yc
      rw [Zy (x := l0 - h0) (by omega) (by omega),Zy (x := h0 - l0) (by omega) (by omega),Zy (x := h1 - l1) (by omega) (by omega),Zy (x := l1 - h1) (by omega) (by omega),show l0 - h0 = 0 - (h0 - l0) by omega,show l1 - h1 = 0 - (h1 - l1) by omega]
    have d0:J0 h0 l0 = h0 - l0 := XR (by omega) (by omega)
    have d1:J0 h1 l1 = h1 - l1 := XR (by omega) (by omega)
    unfold JCP JD2
    rw [en,en',d0,d1]
    generalize Yc l0 l1 h0 h1 = n at *
    by_cases hn:n = 0
    · have e1:l0 = h0 := by omega
      have e2:l1 = h1 := by omega
      rw [hn,Jlr,Jlr,JXc (by omega) (by omega),JXc (by omega) (by omega)]
      exact ⟨show l0 + 0 = h0 by omega,show l1 + 0 = h1 by omega⟩
    · have hn':(n == 0) = false := by simpa using hn
      have hn1:1 ≤ n ∧ n ≤ 4194304 := by omega
      have hB:(stF l0 l1 (h0 - l0) (h1 - l1) n e0 e1 e2 e3 e4 e5 e6 e7 r).fin (bs0 n) = (fdF l0 l1 h0 h1 n e0 e1 e2 e3 e4 e5 e6 e7 r).fin (bs0 n) := by
        refine JoE fun k k0 k1 => ?_
        show ZW e0 e1 e2 e3 e4 e5 e6 (JI l0 (X8 (h0 - l0) k n 2)) (JI l1 (X8 (h1 - l1) k n 2)) r = X9 e0 e1 e2 e3 e4 e5 e6 (ZP l0 h0 k n) (ZP l1 h1 k n) r
        rw [(JU2 b0 n2 ⟨k0,k1⟩ hn1).1,(JU2 b1 n3 ⟨k0,k1⟩ hn1).1,JLq _ _ hd hr]
      have hR:0 ≤ (fdF l0 l1 h0 h1 n e0 e1 e2 e3 e4 e5 e6 e7 r).fin (bs0 n) ∧ (fdF l0 l1 h0 h1 n e0 e1 e2 e3 e4 e5 e6 e7 r).fin (bs0 n) ≤ n := JmZ _ n0
      rw [hB,hn',cond_false,cond_false]
      exact ⟨(JU2 b0 n2 hR hn1).1,(JU2 b1 n3 hR hn1).1⟩
theorem JpH {e0 e1 e2 e3 e4 e5 e6 f0 f1 f2 f3 f4 f5 f6 r:Int} (e7 f7:Bool) (E:EP e0 e1 e2 e3 e4 e5 e6) (F:EP f0 f1 f2 f3 f4 f5 f6) (hr:bd 1000000000 r) :
    JMK e0 e1 e2 e3 e4 e5 e6 e7 f0 f1 f2 f3 f4 f5 f6 f7 r = j5 e0 e1 e2 e3 e4 e5 e6 e7 f0 f1 f2 f3 f4 f5 f6 f7 r ∧ JMe e0 e1 e2 e3 e4 e5 e6 e7 f0 f1 f2 f3 f4 f5 f6 f7 r = j9 e0 e1 e2 e3 e4 e5 e6 e7 f0 f1 f2 f3 f4 f5 f6 f7 r ∧ JQS e0 e1 e2 e3 e4 e5 e6 e7 f0 f1 f2 f3 f4 f5 f6 f7 r = JDm e0 e1 e2 e3 e4 e5 e6 e7 f0 f1 f2 f3 f4 f5 f6 f7 r := by
  obtain ⟨x0,x1,x2,x3,x4⟩ := JS6 r E
  obtain ⟨y0,y1,y2,y3,y4⟩ := JS6 r F
  obtain ⟨b0,b1,b2,b3⟩ := JFk f0 f1 f2 f3 f4 f5 f6 r
  have fs := JjT (e0 := e0) (e1 := e1) (e2 := e2) (e3 := e3) (e4 := e4) (e5 := e5) e7 f7 E.dir F hr b0 b1 b2 b3
  have s0:JAv e0 e1 e2 e3 e4 e5 e6 e7 f0 f1 f2 f3 f4 f5 f6 f7 r = K1 e0 e1 e2 e3 e4 e5 e6 e7 f0 f1 f2 f3 f4 f5 f6 f7 r := by
    unfold JAv K1
    rw [fs.1,y0,y1,y2,y3]
  have s1:JBo e0 e1 e2 e3 e4 e5 e6 e7 f0 f1 f2 f3 f4 f5 f6 f7 r = K9 e0 e1 e2 e3 e4 e5 e6 e7 f0 f1 f2 f3 f4 f5 f6 f7 r := by
    unfold JBo K9
    rw [fs.2,y0,y1,y2,y3]
  have hw:∀ a b,QN a b = (Jc a 1048576 && Jc b 1048576) := fun _ _ => rfl
  have sp:∀ a b c:Int,JF a b c true = J0 b c := fun _ _ _ => rfl
  have sp':∀ a b c:Int,JF a b c false = J0 a c := fun _ _ _ => rfl
  unfold JMK JMe JQS j5 j9 JDm JOR
  rw [s0,s1,x0,x1,x4,y2,y3,y4,JLq _ _ E.dir hr]
  simp only [hw,sp,sp']
  generalize K1 e0 e1 e2 e3 e4 e5 e6 e7 f0 f1 f2 f3 f4 f5 f6 f7 r = u at *
  generalize K9 e0 e1 e2 e3 e4 e5 e6 e7 f0 f1 f2 f3 f4 f5 f6 f7 r = w at *
  cases (QX e0 e1 e2 e3 e4 e5 e6 r != 0)
  · cases (QX f0 f1 f2 f3 f4 f5 f6 r != 0)
    · cases (!X9 e0 e1 e2 e3 e4 e5 e6 (Xf f0 f1 f2 f3 f4 f5 f6 r) (Xe f0 f1 f2 f3 f4 f5 f6 r) r)
      · simp only [cond_false]
        cases hu:Jc u 1048576
        · exact ⟨rfl,rfl,rfl⟩
        · cases hv:Jc w 1048576
          · exact ⟨rfl,rfl,rfl⟩
          · have h1 := (Wm (by omega) (by omega)).1 hu
            have h2 := (Wm (by omega) (by omega)).1 hv
            rw [Jhz e7 _ _ E h1 h2]
            simp only [Bool.not_true,Bool.or_self,Bool.and_self,cond_false]
            cases e6 == 0
            · simp only [cond_false,Bool.not_and,Bool.not_not]
              exact ⟨trivial,trivial,trivial⟩
            · simp only [cond_true]
              have:∀ x:Int,(!decide (x > 0)) = decide (x ≤ 0) := fun x => by
                by_cases h:x > 0
                · rw [decide_eq_true h,decide_eq_false (by omega)]; rfl
                · rw [decide_eq_false h,decide_eq_true (by omega)]; rfl
              simp only [this]
              exact ⟨trivial,trivial,trivial⟩
      · exact ⟨rfl,rfl,rfl⟩
    · exact ⟨rfl,rfl,rfl⟩
  · exact ⟨rfl,rfl,rfl⟩
theorem Jji {c b:Bool} (h:(bif c then false else b) = true):c = false ∧ b = true := by
  cases c
  · exact ⟨rfl,h⟩
  · cases h
theorem JLw {a b c:Int} (h:XG a b c = true):bd 1048576 a ∧ bd 1048576 b ∧ bd 1048576 c := by
  unfold XG at h
  simp only [Bool.and_eq_true,decide_eq_true_eq] at h
  exact ⟨⟨by omega,by omega⟩,⟨by omega,by omega⟩,⟨by omega,by omega⟩⟩
theorem JeN {a b c:Int} (p:Int) (h:bd 1048576 a ∧ bd 1048576 b ∧ bd 1048576 c):bd 1048576 (J3 p a b c) ∧ bd 1048576 (J4 p a b c) ∧ bd 1048576 (J9 p a b c) := by
  obtain ⟨h1,h2,h3⟩ := h
  have z:bd 1048576 0 := by decide
  unfold J3 J4 J9
  cases p == 17 <;> cases p == 18 <;> cases p == 19 <;> exact ⟨by assumption,by assumption,by assumption⟩
theorem JGe {x:List GC} (hv:QY x = true) (hm:J5 (xi x 0) = true) :
    (bd 1048576 (xi x 2) ∧ bd 1048576 (xi x 3) ∧ bd 1048576 (xi x 4)) ∧ (bd 1048576 (xi x 5) ∧ bd 1048576 (xi x 6) ∧ bd 1048576 (xi x 7)) ∧
    ((xi x 16 == 0) = true → xi x 17 = 0 ∧ (xi x 8 = 0 ∨ xi x 0 = 3)) ∧
    ((xi x 16 == 0) = false → (xi x 0 = 1 ∨ xi x 0 = 2 ∨ xi x 0 = 3) ∧ Kg (xi x 8) = true ∧ (xi x 16 = 1 ∨ xi x 16 = -1) ∧ 0 ≤ xi x 17 ∧ xi x 17 ≤ 32768) ∧
    (xi x 0 = 3 → XZ (xi x 0) (xi x 2) (xi x 3) (xi x 4) (xi x 5) (xi x 6) (xi x 7) (xi x 8) (xi x 9) (xi x 10) (xi x 11) (xi x 12) (xb x 13) = 0) := by
  unfold QY at hv
  obtain ⟨_,hv⟩ := Jji hv
  rw [hm,cond_true] at hv
  obtain ⟨h2,hv⟩ := Jji hv
  simp only [Bool.or_eq_false_iff,Bool.not_eq_false'] at h2
  obtain ⟨⟨⟨⟨w1,w2⟩,_⟩,_⟩,w3⟩ := h2
  refine ⟨JLw w1,JLw w2,fun h => ?_,fun h => ?_,fun h => ?_⟩
  · rw [h,cond_true] at w3
    simp only [Bool.and_eq_true,Bool.or_eq_true,beq_iff_eq] at w3
    exact w3
  · rw [h,cond_false] at w3
    simp only [Bool.and_eq_true,Bool.or_eq_true,beq_iff_eq,decide_eq_true_eq] at w3
    obtain ⟨⟨⟨⟨a,b⟩,c⟩,d⟩,e⟩ := w3
    refine ⟨?_,b,c,by omega,e⟩
    rcases a with (a | a) | a
    · exact .inl a
    · exact .inr (.inl a)
    · exact .inr (.inr a)
  · rw [show (xi x 0 == 3) = true by simp [h],cond_true] at hv
    obtain ⟨h3,_⟩ := Jji hv
    simpa using h3
theorem WL {k f0 f1 f2 t0 t1 t2 p c0 c1 c2 d:Int} {fu:Bool} (h:XZ k f0 f1 f2 t0 t1 t2 p c0 c1 c2 d fu = 0) :
    k = 3 ∧ Kg p = true ∧ (bd 1048576 c0 ∧ bd 1048576 c1 ∧ bd 1048576 c2) ∧ (d = 1 ∨ d = -1) ∧ J9 p f0 f1 f2 = J9 p c0 c1 c2 ∧
    (J3 p f0 f1 f2 - J3 p c0 c1 c2 ≠ 0 ∨ J4 p f0 f1 f2 - J4 p c0 c1 c2 ≠ 0) ∧ (J3 p t0 t1 t2 - J3 p c0 c1 c2 ≠ 0 ∨ J4 p t0 t1 t2 - J4 p c0 c1 c2 ≠ 0) ∧
    64 ≤ J8 (Jf f0 f1 f2 p c0 c1 c2) (Ji f0 f1 f2 p c0 c1 c2) (Jf f0 f1 f2 p c0 c1 c2) (Ji f0 f1 f2 p c0 c1 c2) ∧
    (fu = false → XF (Jf f0 f1 f2 p c0 c1 c2) (Ji f0 f1 f2 p c0 c1 c2) (Jf t0 t1 t2 p c0 c1 c2) (Ji t0 t1 t2 p c0 c1 c2) = false) := by
  unfold XZ at h
  obtain ⟨h1,h⟩ := jv (by decide) h
  simp only [Bool.or_eq_false_iff,bne_eq_false_iff_eq,Bool.not_eq_false',Bool.and_eq_false_iff] at h1
  obtain ⟨⟨⟨⟨⟨⟨k1,k2⟩,_⟩,_⟩,k5⟩,k6⟩,k7⟩ := h1
  have h2 := (jv (by decide) h).1
  simp only [Bool.or_eq_false_iff,decide_eq_false_iff_not,Int.not_lt] at h2
  obtain ⟨⟨⟨⟨m1,m2⟩,_⟩,_⟩,m5⟩ := h2
  have nz:∀ a b:Int,64 ≤ J8 (IntKind.i64.wrap a) (IntKind.i64.wrap b) (IntKind.i64.wrap a) (IntKind.i64.wrap b) → a ≠ 0 ∨ b ≠ 0 := fun a b h => by
    by_cases ha:a = 0
    · by_cases hb:b = 0
      · subst ha; subst hb
        exact absurd h (by decide)
      · exact .inr hb
    · exact .inl ha
  refine ⟨k1,k2,JLw k5,?_,k7,nz _ _ m1,nz _ _ m2,m1,fun hf => ?_⟩
  · exact k6
  · rw [hf] at m5; simpa using m5
structure LI (l:List GC):Prop where
  n:J1 l = l
  k:xi l 0 = 2
  pl:Kg (xi l 8) = true
  sd:xi l 16 = 1 ∨ xi l 16 = -1
  ra:0 ≤ xi l 17 ∧ xi l 17 ≤ 32768
  hh:J9 (xi l 8) (xi l 2) (xi l 3) (xi l 4) = J9 (xi l 8) (xi l 5) (xi l 6) (xi l 7)
structure YI (l y:List GC):Prop where
  n:J1 y = y
  k:xi y 0 = 2 ∨ xi y 0 = 3
  p:xi y 8 = xi l 8
  E:EP (J3 (xi l 8) (xi y 2) (xi y 3) (xi y 4)) (J4 (xi l 8) (xi y 2) (xi y 3) (xi y 4)) (J3 (xi l 8) (xi y 5) (xi y 6) (xi y 7)) (J4 (xi l 8) (xi y 5) (xi y 6) (xi y 7)) (JL (xi l 8) y) (JM (xi l 8) y) (JJ y)
  A:xi y 0 = 3 → XZ (xi y 0) (xi y 2) (xi y 3) (xi y 4) (xi y 5) (xi y 6) (xi y 7) (xi y 8) (xi y 9) (xi y 10) (xi y 11) (xi y 12) (xb y 13) = 0
theorem Jl6 (p:Int) (x:List GC):ZH p x = (xb x 13 || !(J3 p (xi x 2) (xi x 3) (xi x 4) == J3 p (xi x 5) (xi x 6) (xi x 7) && J4 p (xi x 2) (xi x 3) (xi x 4) == J4 p (xi x 5) (xi x 6) (xi x 7))) := rfl
theorem Ju2 {x:List GC} (hx:J1 x = x) (hv:QY x = true) (hm:J5 (xi x 0) = true) (hs:(xi x 16 == 0) = false) (hd:JZ x (xi x 8) (xi x 17) = true):LI x := by
  obtain ⟨_,_,_,h4,_⟩ := JGe hv hm
  obtain ⟨_,h5,h6,h7⟩ := h4 hs
  unfold JZ at hd
  simp only [Bool.and_eq_true,beq_iff_eq] at hd
  exact ⟨hx,hd.1.1.1,h5,h6,h7,hd.1.1.2⟩
theorem JV5 {x:List GC} (h:xi x 0 = 2) (p:Int):JL p x = 0 ∧ JM p x = 0 ∧ JJ x = 0 ∧ QF x = false := by
  have e:(xi x 0 == 3) = false := by rw [h]; rfl
  unfold JL JM JJ QF
  rw [e]; exact ⟨rfl,rfl,rfl,rfl⟩
theorem JGx {x:List GC} (h:xi x 0 = 3) (p:Int):JL p x = J3 p (xi x 9) (xi x 10) (xi x 11) ∧ JM p x = J4 p (xi x 9) (xi x 10) (xi x 11) ∧ JJ x = xi x 12 ∧ QF x = xb x 13 := by
  have e:(xi x 0 == 3) = true := by rw [h]; rfl
  unfold JL JM JJ QF
  rw [e]; exact ⟨rfl,rfl,rfl,rfl⟩
theorem Jm6 {x l:List GC} (hx:J1 x = x) (hv:QY x = true) (hm:J5 (xi x 0) = true) (hs:(xi x 16 == 0) = false) (h1:xi x 0 ≠ 1) (hp:xi x 8 = xi l 8):YI l x := by
  obtain ⟨a,b,_,h4,h5⟩ := JGe hv hm
  obtain ⟨hk,_⟩ := h4 hs
  obtain ⟨p1,p2,_⟩ := JeN (xi l 8) a
  obtain ⟨q1,q2,_⟩ := JeN (xi l 8) b
  have z:bd 1048576 0 := by decide
  rcases hk with hk | hk | hk
  · exact absurd hk h1
  · obtain ⟨e1,e2,e3,_⟩ := JV5 hk (xi l 8)
    exact ⟨hx,.inl hk,hp,by rw [e1,e2,e3]; exact ⟨p1,p2,q1,q2,z,z,.inl rfl,fun h => absurd rfl h,fun h => absurd rfl h⟩,fun h => by rw [hk] at h; exact absurd h (by decide)⟩
  · obtain ⟨e1,e2,e3,_⟩ := JGx hk (xi l 8)
    have hA := h5 hk
    obtain ⟨_,_,m3,m4,_,m6,m7,_⟩ := WL hA
    obtain ⟨r1,r2,_⟩ := JeN (xi l 8) m3
    rw [hp] at m6 m7
    exact ⟨hx,.inr hk,hp,by rw [e1,e2,e3]; exact ⟨p1,p2,q1,q2,r1,r2,.inr m4,fun _ => m6,fun _ => m7⟩,fun _ => hA⟩
theorem Jkk {x:List GC} {p:Int} (hv:QY x = true) (hm:J5 (xi x 0) = true) (hs:(xi x 16 == 0) = false) (h1:xi x 0 ≠ 1) (hp:xi x 8 = p) (hr:ZH p x = false):xi x 0 = 2 := by
  obtain ⟨_,_,_,h4,h5⟩ := JGe hv hm
  obtain ⟨hk,_⟩ := h4 hs
  rcases hk with hk | hk | hk
  · exact absurd hk h1
  · exact hk
  · exfalso
    rw [Jl6] at hr
    simp only [Bool.or_eq_false_iff,Bool.not_eq_false',Bool.and_eq_true,beq_iff_eq] at hr
    obtain ⟨hf,e0,e1⟩ := hr
    obtain ⟨_,_,_,_,_,_,_,m8,m9⟩ := WL (h5 hk)
    have m9 := m9 hf
    subst hp
    have w0:Jf (xi x 5) (xi x 6) (xi x 7) (xi x 8) (xi x 9) (xi x 10) (xi x 11) = Jf (xi x 2) (xi x 3) (xi x 4) (xi x 8) (xi x 9) (xi x 10) (xi x 11) := by unfold Jf; rw [e0]
    have w1:Ji (xi x 5) (xi x 6) (xi x 7) (xi x 8) (xi x 9) (xi x 10) (xi x 11) = Ji (xi x 2) (xi x 3) (xi x 4) (xi x 8) (xi x 9) (xi x 10) (xi x 11) := by unfold Ji; rw [e1]
    rw [w0,w1] at m9
    unfold XF at m9
    have v0:∀ a b:Int,JE a b a b = 0 := fun a b => by unfold JE; rw [Int.mul_comm b a,Int.sub_self]; rfl
    rw [v0] at m9
    simp only [beq_self_eq_true,Bool.true_and,decide_eq_false_iff_not] at m9
    omega
theorem JSL {p:Int} (h:Kg p = true):p = 17 ∨ p = 18 ∨ p = 19 := by
  unfold Kg at h
  simpa using h
theorem JWe {p:Int} (h:Kg p = true) (a b c:Int):JR p (J3 p a b c) (J4 p a b c) (J9 p a b c) = a ∧ JP p (J3 p a b c) (J4 p a b c) (J9 p a b c) = b ∧ JQ p (J3 p a b c) (J4 p a b c) (J9 p a b c) = c := by
  rcases JSL h with rfl | rfl | rfl <;> exact ⟨rfl,rfl,rfl⟩
theorem JZ8 {p:Int} (h:Kg p = true) (u w k:Int):J3 p (JR p u w k) (JP p u w k) (JQ p u w k) = u ∧ J4 p (JR p u w k) (JP p u w k) (JQ p u w k) = w ∧ J9 p (JR p u w k) (JP p u w k) (JQ p u w k) = k := by
  rcases JSL h with rfl | rfl | rfl <;> exact ⟨rfl,rfl,rfl⟩
theorem JV3 {l y:List GC} (Y:YI l y) (w:Bool) :
    Z2 (xi y 0) (xi y 2) (xi y 3) (xi y 4) (xi y 5) (xi y 6) (xi y 7) (xi y 8) (xi y 9) (xi y 10) (xi y 11) (xi y 12) w = Qj (J3 (xi l 8) (xi y 2) (xi y 3) (xi y 4)) (J4 (xi l 8) (xi y 2) (xi y 3) (xi y 4)) (J3 (xi l 8) (xi y 5) (xi y 6) (xi y 7)) (J4 (xi l 8) (xi y 5) (xi y 6) (xi y 7)) (JM (xi l 8) y) (JJ y) w ∧
    Z3 (xi y 0) (xi y 2) (xi y 3) (xi y 4) (xi y 5) (xi y 6) (xi y 7) (xi y 8) (xi y 9) (xi y 10) (xi y 11) (xi y 12) w = Qh (J3 (xi l 8) (xi y 2) (xi y 3) (xi y 4)) (J4 (xi l 8) (xi y 2) (xi y 3) (xi y 4)) (J3 (xi l 8) (xi y 5) (xi y 6) (xi y 7)) (J4 (xi l 8) (xi y 5) (xi y 6) (xi y 7)) (JL (xi l 8) y) (JJ y) w := by
  obtain ⟨h0,h1⟩ := JQn w Y.E.dir Y.E.c0 Y.E.c1 Y.E.c2 Y.E.c3 Y.E.c4 Y.E.c5
  rw [Y.p]
  rcases Y.k with hk | hk
  · obtain ⟨e1,e2,e3,_⟩ := JV5 hk (xi l 8)
    rw [hk,e1,e2,e3]
    exact ⟨rfl,rfl⟩
  · obtain ⟨_,_,_,m4,_⟩ := WL (Y.A hk)
    obtain ⟨e1,e2,e3,_⟩ := JGx hk (xi l 8)
    rw [hk]
    rw [e1,e2,e3] at h0 h1 ⊢
    rcases m4 with h | h
    · rw [h] at h0 h1 ⊢; exact ⟨h0,h1⟩
    · rw [h] at h0 h1 ⊢; exact ⟨h0,h1⟩
theorem JKv {f0 f1 f2 t0 t1 t2 p c0 c1 c2 d u w:Int} (hd:d = 1 ∨ d = -1) (A0:b9 (Jf f0 f1 f2 p c0 c1 c2)) (A1:b9 (Ji f0 f1 f2 p c0 c1 c2)) (B0:b9 (Jf t0 t1 t2 p c0 c1 c2)) (B1:b9 (Ji t0 t1 t2 p c0 c1 c2))
    (ha:Jf f0 f1 f2 p c0 c1 c2 ≠ 0 ∨ Ji f0 f1 f2 p c0 c1 c2 ≠ 0) (hb:Jf t0 t1 t2 p c0 c1 c2 ≠ 0 ∨ Ji t0 t1 t2 p c0 c1 c2 ≠ 0) (hu:b9 u) (hw:b9 w) :
    KG f0 f1 f2 t0 t1 t2 p c0 c1 c2 d false u w = QK (Jf f0 f1 f2 p c0 c1 c2) (Ji f0 f1 f2 p c0 c1 c2) (Jf t0 t1 t2 p c0 c1 c2) (Ji t0 t1 t2 p c0 c1 c2) u w d false := by
  unfold KG
  rcases hd with rfl | rfl
  · exact Jbx ..
  · by_cases hp:u = 0 ∧ w = 0
    · obtain ⟨rfl,rfl⟩ := hp
      exact Jap A0 A1 B0 B1
    · exact Jg7 A0 A1 B0 B1 hu hw ha hb (by omega)
theorem JTW (a b:Int):JE a b a b = 0 := by unfold JE; rw [Int.mul_comm b a,Int.sub_self]; rfl
theorem JhU {a0 a1:Int} (b0 b1 d:Int) (h:64 ≤ J8 a0 a1 a0 a1):QK a0 a1 b0 b1 a0 a1 d false = true := by
  unfold QK
  have h0:KM a0 a1 a0 a1 d = 0 := by
    rcases JHy a0 a1 a0 a1 d with ⟨_,h1⟩ | ⟨h1,_⟩
    · exact h1
    · rw [JTW,Int.zero_mul] at h1
      exact absurd (.inr ⟨rfl,by omega⟩) h1
  rw [h0]
  rcases JHy a0 a1 b0 b1 d with ⟨h1,h2⟩ | ⟨_,h2⟩
  · rw [h2]
    show decide (_ ≥ (0:Int)) = true
    rw [decide_eq_true_eq]
    rcases h1 with h1 | ⟨h1,_⟩ <;> omega
  · rw [h2]; rfl
theorem JoY (s0 s1 b0 b1 d:Int):QK s0 s1 b0 b1 b0 b1 d false = true := by
  unfold QK
  rw [bne_self_eq_false,JTW,Int.zero_mul]
  rfl
theorem Jaw {α:Type} {c d:Bool} {k:Int} {z x:α} (h:k = 0 → c = d):(bif c then z else bif k != 0 then z else x) = (bif d then z else bif k != 0 then z else x) := by
  by_cases hk:k = 0
  · rw [h hk]
  · have:(k != 0) = true := by simpa using hk
    rw [this]; cases c <;> cases d <;> rfl
theorem JIY {a b:Int} (ha:bd 4000000 a) (hb:bd 1048576 b):b9 (IntKind.i64.wrap (a - b)) ∧ IntKind.i64.wrap (a - b) = a - b := by
  have e:IntKind.i64.wrap (a - b) = a - b := Zy (by omega) (by omega)
  rw [e]; exact ⟨⟨by omega,by omega⟩,rfl⟩
theorem bd4 {a:Int} (h:bd 1048576 a):bd 4000000 a := ⟨by omega,by omega⟩
theorem JcF {l y:List GC} (L:LI l) (Y:YI l y) (hk:xi y 0 = 2) (u w a0 a1:Int) (Xi tr:Bool) :
    Jz u w Xi l y a0 a1 tr = Q7 u w Xi l y a0 a1 tr ∧ ZO u w Xi l y a0 a1 tr = Zj u w Xi l y a0 a1 tr [] := by
  obtain ⟨e1,e2,e3,e4⟩ := JV5 hk (xi l 8)
  have k2:(xi y 0 == 2) = true := by rw [hk]; rfl
  have k3:(xi y 0 != 3) = true := by rw [hk]; rfl
  have es:JJc u w l y a0 a1 = kc u w l y a0 a1 := rfl
  have eo:(tr || Xi) = (Xi || tr) := Bool.or_comm ..
  constructor
  · unfold Jz Q7
    rw [Y.n,e3,k2,es,eo]
    rfl
  · unfold ZO Zj
    rw [Y.n,L.n,e3,k2,es,eo]
    show (bif _ then [] else _) = (bif _ then [] else _)
    cases (Xi || tr) && decide (kc u w l y a0 a1 ≤ 0)
    · rw [cond_false,cond_false]
      unfold YN Zq
      show (bif xi y 0 == 2 && (JR (xi l 8) a0 a1 _ == JR (xi l 8) u w _ && (JP (xi l 8) a0 a1 _ == JP (xi l 8) u w _ && JQ (xi l 8) a0 a1 _ == JQ (xi l 8) u w _)) then [] else _) = _
      rw [k2,Bool.true_and,Bool.false_or]
      unfold KW XI XK XN
      rw [k3]
      cases (JR (xi l 8) a0 a1 (J9 (xi l 8) (xi y 2) (xi y 3) (xi y 4)) == JR (xi l 8) u w (J9 (xi l 8) (xi y 5) (xi y 6) (xi y 7)) && (JP (xi l 8) a0 a1 (J9 (xi l 8) (xi y 2) (xi y 3) (xi y 4)) == JP (xi l 8) u w (J9 (xi l 8) (xi y 5) (xi y 6) (xi y 7)) && JQ (xi l 8) a0 a1 (J9 (xi l 8) (xi y 2) (xi y 3) (xi y 4)) == JQ (xi l 8) u w (J9 (xi l 8) (xi y 5) (xi y 6) (xi y 7))))
      · rfl
      · rfl
    · rfl
theorem Jpo {l y:List GC} (L:LI l) (Y:YI l y) (hk:xi y 0 = 3) (a0 a1:Int):KW y = (bif xi y 0 != 3 then 0 else xi y 8) ∧ XI y a0 a1 l = xi y 9 ∧ XK y a0 a1 l = xi y 10 ∧ XN y a0 a1 l = xi y 11 := by
  have k3:(xi y 0 != 3) = false := by rw [hk]; rfl
  obtain ⟨_,_,_,_,m5,_⟩ := WL (Y.A hk)
  rw [Y.p] at m5
  obtain ⟨s0,s1,s2⟩ := JWe L.pl (xi y 9) (xi y 10) (xi y 11)
  obtain ⟨_,_,q2⟩ := JZ8 L.pl a0 a1 (J9 (xi l 8) (xi y 2) (xi y 3) (xi y 4))
  refine ⟨rfl,?_,?_,?_⟩
  · unfold XI; rw [k3,cond_false,q2,m5,s0]
  · unfold XK; rw [k3,cond_false,q2,m5,s1]
  · unfold XN; rw [k3,cond_false,q2,m5,s2]
theorem JUs {l y:List GC} (L:LI l) (Y:YI l y) (hk:xi y 0 = 3) {u w a0 a1:Int} (hu:bd 4000000 u) (hw:bd 4000000 w) (h0:bd 4000000 a0) (h1:bd 4000000 a1) (Xi tr:Bool) (hc:(Xi || tr) = true) (hf:xb y 13 = false)
    (hK:XZ (xi y 0) (JR (xi l 8) a0 a1 (J9 (xi l 8) (xi y 2) (xi y 3) (xi y 4))) (JP (xi l 8) a0 a1 (J9 (xi l 8) (xi y 2) (xi y 3) (xi y 4))) (JQ (xi l 8) a0 a1 (J9 (xi l 8) (xi y 2) (xi y 3) (xi y 4))) (JR (xi l 8) u w (J9 (xi l 8) (xi y 5) (xi y 6) (xi y 7))) (JP (xi l 8) u w (J9 (xi l 8) (xi y 5) (xi y 6) (xi y 7))) (JQ (xi l 8) u w (J9 (xi l 8) (xi y 5) (xi y 6) (xi y 7))) (bif xi y 0 != 3 then 0 else xi y 8) (xi y 9) (xi y 10) (xi y 11) (xi y 12) false = 0) :
    (!QK (Xb l y) (XU l y) (XY l y) (XV l y) (bif tr then J0 a0 (JL (xi l 8) y) else Xb l y) (bif tr then J0 a1 (JM (xi l 8) y) else XU l y) (JJ y) false ||
      !QK (bif tr then J0 a0 (JL (xi l 8) y) else Xb l y) (bif tr then J0 a1 (JM (xi l 8) y) else XU l y) (XY l y) (XV l y) (bif Xi then J0 u (JL (xi l 8) y) else XY l y) (bif Xi then J0 w (JM (xi l 8) y) else XV l y) (JJ y) false) =
    !W6 u w Xi l y a0 a1 tr := by
  obtain ⟨e1,e2,e3,e4⟩ := JGx hk (xi l 8)
  have k3:(xi y 0 != 3) = false := by rw [hk]; rfl
  obtain ⟨_,_,m3,m4,_,m6,m7,m8,_⟩ := WL (Y.A hk)
  rw [k3,cond_false,Y.p] at hK
  obtain ⟨_,_,_,_,_,n6,_⟩ := WL hK
  obtain ⟨q0,q1,_⟩ := JZ8 L.pl a0 a1 (J9 (xi l 8) (xi y 2) (xi y 3) (xi y 4))
  rw [q0,q1] at n6
  have E := Y.E
  rw [e1,e2,e3] at E
  have S0 := JIY h0 E.c4
  have S1 := JIY h1 E.c5
  have T0 := JIY hu E.c4
  have T1 := JIY hw E.c5
  have A0 := JIY (bd4 E.c0) E.c4
  have A1 := JIY (bd4 E.c1) E.c5
  have B0 := JIY (bd4 E.c2) E.c4
  have B1 := JIY (bd4 E.c3) E.c5
  rw [Y.p] at m6 m7 m8
  have r1:Xb l y = Jf (xi y 2) (xi y 3) (xi y 4) (xi l 8) (xi y 9) (xi y 10) (xi y 11) := by unfold Xb; rw [Y.n,e1]; rfl
  have r2:XU l y = Ji (xi y 2) (xi y 3) (xi y 4) (xi l 8) (xi y 9) (xi y 10) (xi y 11) := by unfold XU; rw [Y.n,e2]; rfl
  have r3:XY l y = Jf (xi y 5) (xi y 6) (xi y 7) (xi l 8) (xi y 9) (xi y 10) (xi y 11) := by unfold XY; rw [Y.n,e1]; rfl
  have r4:XV l y = Ji (xi y 5) (xi y 6) (xi y 7) (xi l 8) (xi y 9) (xi y 10) (xi y 11) := by unfold XV; rw [Y.n,e2]; rfl
  have za:Jf (xi y 2) (xi y 3) (xi y 4) (xi l 8) (xi y 9) (xi y 10) (xi y 11) ≠ 0 ∨ Ji (xi y 2) (xi y 3) (xi y 4) (xi l 8) (xi y 9) (xi y 10) (xi y 11) ≠ 0 := by
    unfold Jf Ji; rw [A0.2,A1.2]; exact m6
  have zb:Jf (xi y 5) (xi y 6) (xi y 7) (xi l 8) (xi y 9) (xi y 10) (xi y 11) ≠ 0 ∨ Ji (xi y 5) (xi y 6) (xi y 7) (xi l 8) (xi y 9) (xi y 10) (xi y 11) ≠ 0 := by
    unfold Jf Ji; rw [B0.2,B1.2]; exact m7
  have ia:∀ p q:Int,b9 p → b9 q → KG (xi y 2) (xi y 3) (xi y 4) (xi y 5) (xi y 6) (xi y 7) (xi l 8) (xi y 9) (xi y 10) (xi y 11) (xi y 12) false p q = QK (Jf (xi y 2) (xi y 3) (xi y 4) (xi l 8) (xi y 9) (xi y 10) (xi y 11)) (Ji (xi y 2) (xi y 3) (xi y 4) (xi l 8) (xi y 9) (xi y 10) (xi y 11)) (Jf (xi y 5) (xi y 6) (xi y 7) (xi l 8) (xi y 9) (xi y 10) (xi y 11)) (Ji (xi y 5) (xi y 6) (xi y 7) (xi l 8) (xi y 9) (xi y 10) (xi y 11)) p q (xi y 12) false :=
    fun p q hp hq => JKv m4 A0.1 A1.1 B0.1 B1.1 za zb hp hq
  have w0:Jf (JR (xi l 8) a0 a1 (J9 (xi l 8) (xi y 2) (xi y 3) (xi y 4))) (JP (xi l 8) a0 a1 (J9 (xi l 8) (xi y 2) (xi y 3) (xi y 4))) (JQ (xi l 8) a0 a1 (J9 (xi l 8) (xi y 2) (xi y 3) (xi y 4))) (xi l 8) (xi y 9) (xi y 10) (xi y 11) = IntKind.i64.wrap (a0 - J3 (xi l 8) (xi y 9) (xi y 10) (xi y 11)) := by unfold Jf; rw [q0]
  have w1:Ji (JR (xi l 8) a0 a1 (J9 (xi l 8) (xi y 2) (xi y 3) (xi y 4))) (JP (xi l 8) a0 a1 (J9 (xi l 8) (xi y 2) (xi y 3) (xi y 4))) (JQ (xi l 8) a0 a1 (J9 (xi l 8) (xi y 2) (xi y 3) (xi y 4))) (xi l 8) (xi y 9) (xi y 10) (xi y 11) = IntKind.i64.wrap (a1 - J4 (xi l 8) (xi y 9) (xi y 10) (xi y 11)) := by unfold Ji; rw [q1]
  have ip:KG (JR (xi l 8) a0 a1 (J9 (xi l 8) (xi y 2) (xi y 3) (xi y 4))) (JP (xi l 8) a0 a1 (J9 (xi l 8) (xi y 2) (xi y 3) (xi y 4))) (JQ (xi l 8) a0 a1 (J9 (xi l 8) (xi y 2) (xi y 3) (xi y 4))) (xi y 5) (xi y 6) (xi y 7) (xi l 8) (xi y 9) (xi y 10) (xi y 11) (xi y 12) false (jf u l y) (jd w l y) = QK (IntKind.i64.wrap (a0 - J3 (xi l 8) (xi y 9) (xi y 10) (xi y 11))) (IntKind.i64.wrap (a1 - J4 (xi l 8) (xi y 9) (xi y 10) (xi y 11))) (Jf (xi y 5) (xi y 6) (xi y 7) (xi l 8) (xi y 9) (xi y 10) (xi y 11)) (Ji (xi y 5) (xi y 6) (xi y 7) (xi l 8) (xi y 9) (xi y 10) (xi y 11)) (jf u l y) (jd w l y) (xi y 12) false := by
    have := JKv (f0 := JR (xi l 8) a0 a1 (J9 (xi l 8) (xi y 2) (xi y 3) (xi y 4))) (f1 := JP (xi l 8) a0 a1 (J9 (xi l 8) (xi y 2) (xi y 3) (xi y 4))) (f2 := JQ (xi l 8) a0 a1 (J9 (xi l 8) (xi y 2) (xi y 3) (xi y 4))) (t0 := xi y 5) (t1 := xi y 6) (t2 := xi y 7) (p := xi l 8) (c0 := xi y 9) (c1 := xi y 10) (c2 := xi y 11) (u := jf u l y) (w := jd w l y) m4 (by rw [w0]; exact S0.1) (by rw [w1]; exact S1.1) B0.1 B1.1 (by rw [w0,w1,S0.2,S1.2]; exact n6) zb T0.1 T1.1
    rw [w0,w1] at this
    exact this
  have st := JhU (Jf (xi y 5) (xi y 6) (xi y 7) (xi l 8) (xi y 9) (xi y 10) (xi y 11)) (Ji (xi y 5) (xi y 6) (xi y 7) (xi l 8) (xi y 9) (xi y 10) (xi y 11)) (xi y 12) m8
  unfold W6
  rw [r1,r2,r3,r4,e1,e2,e3,hf,Y.p,ip,ia _ _ S0.1 S1.1,ia _ _ (show b9 (jf u l y) from T0.1) (show b9 (jd w l y) from T1.1)]
  have f0:J0 u (J3 (xi l 8) (xi y 9) (xi y 10) (xi y 11)) = jf u l y := rfl
  have f1:J0 w (J4 (xi l 8) (xi y 9) (xi y 10) (xi y 11)) = jd w l y := rfl
  have g0:J0 a0 (J3 (xi l 8) (xi y 9) (xi y 10) (xi y 11)) = IntKind.i64.wrap (a0 - J3 (xi l 8) (xi y 9) (xi y 10) (xi y 11)) := rfl
  have g1:J0 a1 (J4 (xi l 8) (xi y 9) (xi y 10) (xi y 11)) = IntKind.i64.wrap (a1 - J4 (xi l 8) (xi y 9) (xi y 10) (xi y 11)) := rfl
  rw [f0,f1,g0,g1]
  cases tr
  · have:Xi = true := by simpa using hc
    rw [this]
    simp only [cond_true,cond_false,st,Bool.not_true,Bool.false_or]
  · cases Xi
    · simp only [cond_true,cond_false,JoY,Bool.not_true,Bool.or_false,Bool.not_false,Bool.true_or]
      generalize QK _ _ _ _ _ _ _ _ = X
      cases X <;> rfl
    · simp only [cond_true,cond_false]
      generalize QK (Jf (xi y 2) (xi y 3) (xi y 4) (xi l 8) (xi y 9) (xi y 10) (xi y 11)) _ _ _ _ _ _ _ = X
      generalize QK (IntKind.i64.wrap (a0 - J3 (xi l 8) (xi y 9) (xi y 10) (xi y 11))) _ _ _ _ _ _ _ = Z
      cases X <;> cases Z <;> rfl
theorem Jh3 {l y:List GC} (L:LI l) (Y:YI l y) (hk:xi y 0 = 3) {u w a0 a1:Int} (hu:bd 4000000 u) (hw:bd 4000000 w) (h0:bd 4000000 a0) (h1:bd 4000000 a1) (Xi tr:Bool) :
    Jz u w Xi l y a0 a1 tr = Q7 u w Xi l y a0 a1 tr ∧ ZO u w Xi l y a0 a1 tr = Zj u w Xi l y a0 a1 tr [] := by
  obtain ⟨e1,e2,e3,e4⟩ := JGx hk (xi l 8)
  obtain ⟨b2,b3,b4,b5⟩ := Jpo L Y hk a0 a1
  obtain ⟨_,_,_,m4,_⟩ := WL (Y.A hk)
  have k2:(xi y 0 == 2) = false := by rw [hk]; rfl
  have d0:(JJ y == 0) = false := by rw [e3]; rcases m4 with h | h <;> rw [h] <;> rfl
  have ck:∀ F,W2 (xi y 0) (JR (xi l 8) a0 a1 (J9 (xi l 8) (xi y 2) (xi y 3) (xi y 4))) (JP (xi l 8) a0 a1 (J9 (xi l 8) (xi y 2) (xi y 3) (xi y 4))) (JQ (xi l 8) a0 a1 (J9 (xi l 8) (xi y 2) (xi y 3) (xi y 4))) (JR (xi l 8) u w (J9 (xi l 8) (xi y 5) (xi y 6) (xi y 7))) (JP (xi l 8) u w (J9 (xi l 8) (xi y 5) (xi y 6) (xi y 7))) (JQ (xi l 8) u w (J9 (xi l 8) (xi y 5) (xi y 6) (xi y 7))) (KW y) (XI y a0 a1 l) (XK y a0 a1 l) (XN y a0 a1 l) (xi y 12) F = XZ (xi y 0) (JR (xi l 8) a0 a1 (J9 (xi l 8) (xi y 2) (xi y 3) (xi y 4))) (JP (xi l 8) a0 a1 (J9 (xi l 8) (xi y 2) (xi y 3) (xi y 4))) (JQ (xi l 8) a0 a1 (J9 (xi l 8) (xi y 2) (xi y 3) (xi y 4))) (JR (xi l 8) u w (J9 (xi l 8) (xi y 5) (xi y 6) (xi y 7))) (JP (xi l 8) u w (J9 (xi l 8) (xi y 5) (xi y 6) (xi y 7))) (JQ (xi l 8) u w (J9 (xi l 8) (xi y 5) (xi y 6) (xi y 7))) (bif xi y 0 != 3 then 0 else xi y 8) (xi y 9) (xi y 10) (xi y 11) (xi y 12) F := fun F => by rw [b2,b3,b4,b5,JYs]
  have eo:(tr || Xi) = (Xi || tr) := Bool.or_comm ..
  unfold Jz Q7 ZO Zj
  have s1:JXH y = (bif xi y 0 != 3 then 0 else xi y 8) := rfl
  rw [L.n,Y.n,d0,k2,eo,ck,ck,s1,b2,b3,b4,b5]
  simp only [cond_false]
  cases hc:(Xi || tr)
  · obtain ⟨h2,h3⟩:Xi = false ∧ tr = false := by simpa using hc
    rw [h2,h3]
    simp only [cond_false,Bool.false_and,Bool.not_false,Bool.and_true,List.nil_append]
    exact ⟨trivial,rfl⟩
  · have ff:(xb y 13 && !Xi && !tr) = false := by cases Xi <;> cases tr <;> simp_all
    rw [ff]
    simp only [cond_true,Bool.true_and,e4,List.nil_append]
    cases hf:xb y 13
    · simp only [Bool.not_false,Bool.true_and]
      exact ⟨Jaw fun hK => JUs L Y hk hu hw h0 h1 Xi tr hc hf hK,Jaw fun hK => JUs L Y hk hu hw h0 h1 Xi tr hc hf hK⟩
    · simp only [Bool.not_true,Bool.false_and,cond_false]
      exact ⟨trivial,rfl⟩
theorem Yt {l y:List GC} (L:LI l) (Y:YI l y) {u w a0 a1:Int} (hu:bd 4000000 u) (hw:bd 4000000 w) (h0:bd 4000000 a0) (h1:bd 4000000 a1) (Xi tr:Bool) :
    Jz u w Xi l y a0 a1 tr = Q7 u w Xi l y a0 a1 tr ∧ ZO u w Xi l y a0 a1 tr = Zj u w Xi l y a0 a1 tr [] := by
  rcases Y.k with hk | hk
  · exact JcF L Y hk u w a0 a1 Xi tr
  · exact Jh3 L Y hk hu hw h0 h1 Xi tr
theorem JiD {l:List GC} (L:LI l):bd 1000000000 (JO l) := by
  unfold JO
  obtain ⟨r1,r2⟩ := L.ra
  rcases L.sd with h | h <;> rw [h]
  · rw [Zy (by omega) (by omega)]; exact ⟨by omega,by omega⟩
  · rw [Zy (by omega) (by omega)]; exact ⟨by omega,by omega⟩
theorem JC5 {l y:List GC} (Y:YI l y):WX y l = nE l y ∧ Yr y l = n0 l y ∧ Yj y l = n1 l y ∧ WQ l y = nE l y ∧ QS l y = f0 l y ∧ QR l y = f1 l y ∧ YS l y = nE l y := by
  obtain ⟨h0,h1,h2,h3,h4⟩ := JS6 (JO l) Y.E
  exact ⟨h4.symm,h0.symm,h1.symm,h4.symm,h2.symm,h3.symm,h4.symm⟩
theorem JbP {l y x:List GC} (L:LI l) (Y:YI l y) (X:YI l x) :
    j5 (J3 (xi l 8) (xi y 2) (xi y 3) (xi y 4)) (J4 (xi l 8) (xi y 2) (xi y 3) (xi y 4)) (J3 (xi l 8) (xi y 5) (xi y 6) (xi y 7)) (J4 (xi l 8) (xi y 5) (xi y 6) (xi y 7)) (JL (xi l 8) y) (JM (xi l 8) y) (JJ y) (QF y) (J3 (xi l 8) (xi x 2) (xi x 3) (xi x 4)) (J4 (xi l 8) (xi x 2) (xi x 3) (xi x 4)) (J3 (xi l 8) (xi x 5) (xi x 6) (xi x 7)) (J4 (xi l 8) (xi x 5) (xi x 6) (xi x 7)) (JL (xi l 8) x) (JM (xi l 8) x) (JJ x) (QF x) (JO l) = tr0 l y x ∧
    j9 (J3 (xi l 8) (xi y 2) (xi y 3) (xi y 4)) (J4 (xi l 8) (xi y 2) (xi y 3) (xi y 4)) (J3 (xi l 8) (xi y 5) (xi y 6) (xi y 7)) (J4 (xi l 8) (xi y 5) (xi y 6) (xi y 7)) (JL (xi l 8) y) (JM (xi l 8) y) (JJ y) (QF y) (J3 (xi l 8) (xi x 2) (xi x 3) (xi x 4)) (J4 (xi l 8) (xi x 2) (xi x 3) (xi x 4)) (J3 (xi l 8) (xi x 5) (xi x 6) (xi x 7)) (J4 (xi l 8) (xi x 5) (xi x 6) (xi x 7)) (JL (xi l 8) x) (JM (xi l 8) x) (JJ x) (QF x) (JO l) = tr1 l y x ∧
    JDm (J3 (xi l 8) (xi y 2) (xi y 3) (xi y 4)) (J4 (xi l 8) (xi y 2) (xi y 3) (xi y 4)) (J3 (xi l 8) (xi y 5) (xi y 6) (xi y 7)) (J4 (xi l 8) (xi y 5) (xi y 6) (xi y 7)) (JL (xi l 8) y) (JM (xi l 8) y) (JJ y) (QF y) (J3 (xi l 8) (xi x 2) (xi x 3) (xi x 4)) (J4 (xi l 8) (xi x 2) (xi x 3) (xi x 4)) (J3 (xi l 8) (xi x 5) (xi x 6) (xi x 7)) (J4 (xi l 8) (xi x 5) (xi x 6) (xi x 7)) (JL (xi l 8) x) (JM (xi l 8) x) (JJ x) (QF x) (JO l) = trE l y x := by
  obtain ⟨h0,h1,h2⟩ := JpH (QF y) (QF x) Y.E X.E (JiD L)
  exact ⟨h0.symm,h1.symm,h2.symm⟩
theorem JqE (e0 e1 e2 e3 e4 e5 e6:Int) (e7:Bool) (f0 f1 f2 f3 f4 f5 f6:Int) (f7:Bool) (r:Int):bd 1048576 (j5 e0 e1 e2 e3 e4 e5 e6 e7 f0 f1 f2 f3 f4 f5 f6 f7 r) ∧ bd 1048576 (j9 e0 e1 e2 e3 e4 e5 e6 e7 f0 f1 f2 f3 f4 f5 f6 f7 r) := by
  have z:bd 1048576 0 := by decide
  have key:∀ (a b c d p q s:Bool) (x:Int),(d = false → bd 1048576 x) → bd 1048576 (bif a then 0 else bif b then 0 else bif c then 0 else bif d then 0 else bif p then (bif q then 0 else x) else bif s then 0 else x) := fun a b c d p q s x h => by
    cases a
    · cases b
      · cases c
        · cases d
          · have := h rfl
            cases p <;> cases q <;> cases s <;> first | exact z | exact this
          · exact z
        · exact z
      · exact z
    · exact z
  have w:∀ u v:Int,(!QN u v) = false → bd 1048576 u ∧ bd 1048576 v := fun u v h => by
    have h':QN u v = true := by simpa using h
    unfold QN at h'
    simp only [Bool.and_eq_true] at h'
    exact ⟨(Wm (by omega) (by omega)).1 h'.1,(Wm (by omega) (by omega)).1 h'.2⟩
  exact ⟨key _ _ _ _ _ _ _ _ fun h => (w _ _ h).1,key _ _ _ _ _ _ _ _ fun h => (w _ _ h).2⟩
theorem JuQ {l y x:List GC} (L:LI l) (Y:YI l y) (X:YI l x):bd 4000000 (tr0 l y x) ∧ bd 4000000 (tr1 l y x) := by
  obtain ⟨h0,h1,_⟩ := JbP L Y X
  rw [← h0,← h1]
  obtain ⟨a,b⟩ := JqE (J3 (xi l 8) (xi y 2) (xi y 3) (xi y 4)) (J4 (xi l 8) (xi y 2) (xi y 3) (xi y 4)) (J3 (xi l 8) (xi y 5) (xi y 6) (xi y 7)) (J4 (xi l 8) (xi y 5) (xi y 6) (xi y 7)) (JL (xi l 8) y) (JM (xi l 8) y) (JJ y) (QF y) (J3 (xi l 8) (xi x 2) (xi x 3) (xi x 4)) (J4 (xi l 8) (xi x 2) (xi x 3) (xi x 4)) (J3 (xi l 8) (xi x 5) (xi x 6) (xi x 7)) (J4 (xi l 8) (xi x 5) (xi x 6) (xi x 7)) (JL (xi l 8) x) (JM (xi l 8) x) (JJ x) (QF x) (JO l)
  exact ⟨bd4 a,bd4 b⟩
theorem JhZ (l y:List GC):bd 4000000 (n0 l y) ∧ bd 4000000 (n1 l y) ∧ bd 4000000 (f0 l y) ∧ bd 4000000 (f1 l y) := by
  unfold n0 n1 f0 f1
  exact ⟨bd4 (JFk ..).1,bd4 (JFk ..).2.1,bd4 (JFk ..).2.2.1,bd4 (JFk ..).2.2.2⟩
theorem qU {l y x:List GC} (Y:YI l y) (X:YI l x):Jv x l y = kd l y x := by
  obtain ⟨a0,a1⟩ := JV3 Y true
  obtain ⟨b0,b1⟩ := JV3 X false
  unfold kd
  rw [a0,a1,b0,b1,Jgj]
  rfl
theorem JWQ {l y x:List GC} (L:LI l) (Y:YI l y) (X:YI l x) :
    JuC x l y = (bif kd l y x == 2 then trE l y x else bif nE l y == 0 then nE l x else nE l y) ∧
    Xm x l y = (bif kd l y x == 2 then tr0 l y x else f0 l y) ∧ Xo x l y = (bif kd l y x == 2 then tr1 l y x else f1 l y) ∧
    JAH x l y = (bif kd l y x == 2 then tr0 l y x else bif nE l y == 0 then n0 l x else 0) ∧ JAB x l y = (bif kd l y x == 2 then tr1 l y x else bif nE l y == 0 then n1 l x else 0) := by
  obtain ⟨t0,t1,t2⟩ := JbP L Y X
  obtain ⟨x0,x1,x2,_⟩ := JC5 X
  obtain ⟨_,_,_,_,y4,y5,y6⟩ := JC5 Y
  rw [← qU Y X,← t0,← t1,← t2,← x0,← x1,← x2,← y4,← y5,← y6]
  exact ⟨rfl,rfl,rfl,rfl,rfl⟩
theorem Jqy {x s:Int} (hx:XT x) (hs:s = 1 ∨ s = -1):(IntKind.i64.wrap (x * IntKind.i64.wrap (0 - s)) == 0) = (x == 0) := by
  obtain ⟨h1,h2⟩ := hx
  have e:∀ z:Int,(z == 0) = decide (z = 0) := fun z => rfl
  rcases hs with rfl | rfl
  · rw [show IntKind.i64.wrap (0 - 1) = -1 from by decide,Int.mul_neg_one]
    by_cases hm:x = -9223372036854775808
    · subst hm; decide
    · rw [Zy (by omega) (by omega),e,e]
      exact decide_eq_decide.2 (by omega)
  · rw [show IntKind.i64.wrap (0 - -1) = 1 from by decide,Int.mul_one,Zy h1 h2]
theorem JgM {l x:List GC} (L:LI l) (u0 u1 v0 v1:Int) (ou:Bool) (O:LL):j0 x v0 v1 ou l u0 u1 O = O ++ WS x u0 u1 v0 v1 ou l := by
  have e1:j6 x v0 v1 l u0 u1 = Kr x u0 u1 v0 v1 l := rfl
  have e0:(Kr x u0 u1 v0 v1 l == 0) = (Kt x u0 u1 v0 v1 l == 0) := Jqy (Jk _) L.sd
  unfold j0 WS
  rw [e1,e0]
  rw [show J8 (Xq x l u0) (Xv x l u1) (Xs x v0 l) (Xr x v1 l) = Yd x u0 u1 v0 v1 l from rfl,show J8 (Xq x l u0) (Xv x l u1) (Xq x l u0) (Xv x l u1) = ZM x u0 u1 l from rfl,show J8 (Xs x v0 l) (Xr x v1 l) (Xs x v0 l) (Xr x v1 l) = ZM x v0 v1 l from rfl]
  generalize (ou && (decide (Kr x u0 u1 v0 v1 l > 0) || Kt x u0 u1 v0 v1 l == 0 && decide (Yd x u0 u1 v0 v1 l < 0)) && decide (ZM x u0 u1 l ≥ 64) && decide (ZM x v0 v1 l ≥ 64)) = c
  cases c
  · simp only [cond_false]
    unfold Zq YN
    rw [L.n,Bool.false_or]
    show (bif !(JR (xi l 8) u0 u1 (J9 (xi l 8) (xi x 2) (xi x 3) (xi x 4)) == JR (xi l 8) v0 v1 (J9 (xi l 8) (xi x 2) (xi x 3) (xi x 4)) && (JP (xi l 8) u0 u1 (J9 (xi l 8) (xi x 2) (xi x 3) (xi x 4)) == JP (xi l 8) v0 v1 (J9 (xi l 8) (xi x 2) (xi x 3) (xi x 4)) && JQ (xi l 8) u0 u1 (J9 (xi l 8) (xi x 2) (xi x 3) (xi x 4)) == JQ (xi l 8) v0 v1 (J9 (xi l 8) (xi x 2) (xi x 3) (xi x 4)))) then _ else _) = O ++ (bif true && (JR (xi l 8) u0 u1 (J9 (xi l 8) (xi x 2) (xi x 3) (xi x 4)) == JR (xi l 8) v0 v1 (J9 (xi l 8) (xi x 2) (xi x 3) (xi x 4)) && (JP (xi l 8) u0 u1 (J9 (xi l 8) (xi x 2) (xi x 3) (xi x 4)) == JP (xi l 8) v0 v1 (J9 (xi l 8) (xi x 2) (xi x 3) (xi x 4)) && JQ (xi l 8) u0 u1 (J9 (xi l 8) (xi x 2) (xi x 3) (xi x 4)) == JQ (xi l 8) v0 v1 (J9 (xi l 8) (xi x 2) (xi x 3) (xi x 4)))) then [] else _)
    rw [Bool.true_and]
    cases (JR (xi l 8) u0 u1 (J9 (xi l 8) (xi x 2) (xi x 3) (xi x 4)) == JR (xi l 8) v0 v1 (J9 (xi l 8) (xi x 2) (xi x 3) (xi x 4)) && (JP (xi l 8) u0 u1 (J9 (xi l 8) (xi x 2) (xi x 3) (xi x 4)) == JP (xi l 8) v0 v1 (J9 (xi l 8) (xi x 2) (xi x 3) (xi x 4)) && JQ (xi l 8) u0 u1 (J9 (xi l 8) (xi x 2) (xi x 3) (xi x 4)) == JQ (xi l 8) v0 v1 (J9 (xi l 8) (xi x 2) (xi x 3) (xi x 4))))
    · rfl
    · exact (List.append_nil _).symm
  · rfl
def CI (C:LL):Prop := ∀ r ∈ C,J5 (r.getD 0 0) = true → r.getD 0 0 = 2
theorem JnP (l:List GC) (a0 a1:Int) (O:LL) (r:List Int) (hl:J1 l = l) (h:J5 (r.getD 0 0) = true → r.getD 0 0 = 2):JTp l a0 a1 O r = rfS l a0 a1 O r := by
  unfold JTp rfS
  cases hm:J5 (r.getD 0 0)
  · rfl
  · rw [cond_true,cond_true]
    have hk := h hm
    unfold Zq Ys
    rw [hl,Bool.false_or]
    have k2:(xi (Jpn l (JX r) a0 a1 a0 a1) 0 == 2) = true := by show (r.getD 0 0 == 2) = true; rw [hk]; rfl
    rw [k2,Bool.true_and]
    have k3:(r.getD 0 0 != 3) = true := by rw [hk]; rfl
    have c9:XI (JX r) a0 a1 l = r.getD 9 0 := by unfold XI; show (bif r.getD 0 0 != 3 then _ else _) = _; rw [k3]; rfl
    have c10:XK (JX r) a0 a1 l = r.getD 10 0 := by unfold XK; show (bif r.getD 0 0 != 3 then _ else _) = _; rw [k3]; rfl
    have c11:XN (JX r) a0 a1 l = r.getD 11 0 := by unfold XN; show (bif r.getD 0 0 != 3 then _ else _) = _; rw [k3]; rfl
    unfold Jpn
    rw [hl,c9,c10,c11]
    show (bif !(JR (xi l 8) a0 a1 (J9 (xi l 8) (r.getD 2 0) (r.getD 3 0) (r.getD 4 0)) == JR (xi l 8) a0 a1 (J9 (xi l 8) (r.getD 5 0) (r.getD 6 0) (r.getD 7 0)) && (JP (xi l 8) a0 a1 (J9 (xi l 8) (r.getD 2 0) (r.getD 3 0) (r.getD 4 0)) == JP (xi l 8) a0 a1 (J9 (xi l 8) (r.getD 5 0) (r.getD 6 0) (r.getD 7 0)) && (JQ (xi l 8) a0 a1 (J9 (xi l 8) (r.getD 2 0) (r.getD 3 0) (r.getD 4 0)) == JQ (xi l 8) a0 a1 (J9 (xi l 8) (r.getD 5 0) (r.getD 6 0) (r.getD 7 0))))) then _ else _) = (bif (JR (xi l 8) a0 a1 (J9 (xi l 8) (r.getD 2 0) (r.getD 3 0) (r.getD 4 0)) == JR (xi l 8) a0 a1 (J9 (xi l 8) (r.getD 5 0) (r.getD 6 0) (r.getD 7 0)) && (JP (xi l 8) a0 a1 (J9 (xi l 8) (r.getD 2 0) (r.getD 3 0) (r.getD 4 0)) == JP (xi l 8) a0 a1 (J9 (xi l 8) (r.getD 5 0) (r.getD 6 0) (r.getD 7 0)) && (JQ (xi l 8) a0 a1 (J9 (xi l 8) (r.getD 2 0) (r.getD 3 0) (r.getD 4 0)) == JQ (xi l 8) a0 a1 (J9 (xi l 8) (r.getD 5 0) (r.getD 6 0) (r.getD 7 0))))) then _ else _)
    cases (JR (xi l 8) a0 a1 (J9 (xi l 8) (r.getD 2 0) (r.getD 3 0) (r.getD 4 0)) == JR (xi l 8) a0 a1 (J9 (xi l 8) (r.getD 5 0) (r.getD 6 0) (r.getD 7 0)) && (JP (xi l 8) a0 a1 (J9 (xi l 8) (r.getD 2 0) (r.getD 3 0) (r.getD 4 0)) == JP (xi l 8) a0 a1 (J9 (xi l 8) (r.getD 5 0) (r.getD 6 0) (r.getD 7 0)) && (JQ (xi l 8) a0 a1 (J9 (xi l 8) (r.getD 2 0) (r.getD 3 0) (r.getD 4 0)) == JQ (xi l 8) a0 a1 (J9 (xi l 8) (r.getD 5 0) (r.getD 6 0) (r.getD 7 0))))) <;> rfl
theorem JhK (x:List GC) (O:LL):Ys x O = O ++ Ys x [] := by
  unfold Ys
  cases (_:Bool) && _
  · rfl
  · exact (List.append_nil _).symm
theorem Jts (l:List GC) (a b:Int) (O:LL) (r:List Int):rfS l a b O r = O ++ rfS l a b [] r := by
  unfold rfS
  cases J5 (r.getD 0 0)
  · rfl
  · exact JhK ..
theorem JQe (l:List GC) (a b:Int):∀ (C O:LL),C.foldl (rfS l a b) O = O ++ C.foldl (rfS l a b) []
  | [],O => (List.append_nil _).symm
  | r :: C,O => by
    rw [List.foldl_cons,List.foldl_cons,JQe l a b C,JQe l a b C (rfS l a b [] r),Jts l a b O,List.append_assoc]
theorem Jc0 (l:List GC) (a0 a1:Int) (hl:J1 l = l):∀ (C O:LL),CI C → JWw l a0 a1 O C = C.foldl (rfS l a0 a1) O
  | [],O,_ => rfl
  | r :: C,O,h => by
    show JWw l a0 a1 (JTp l a0 a1 O r) C = _
    rw [JnP l a0 a1 O r hl (h r (List.mem_cons_self ..)),Jc0 l a0 a1 hl C _ fun q hq => h q (List.mem_cons_of_mem _ hq)]
    rfl
theorem JBK {l:List GC} (hl:J1 l = l) (a0 a1:Int) {C:LL} (O:LL) (h:CI C):QT l a0 a1 C O = O ++ Z8 l a0 a1 C := by
  unfold QT Z8 rfL
  rw [hl,Jc0 l a0 a1 hl C O h,JQe]
theorem Jfd {l:List GC} (L:LI l) (u w:Int):Zq l u w (J9 (xi l 8) (xi l 2) (xi l 3) (xi l 4)) (J9 (xi l 8) (xi l 2) (xi l 3) (xi l 4)) true l (J3 (xi l 8) (xi l 2) (xi l 3) (xi l 4)) (J4 (xi l 8) (xi l 2) (xi l 3) (xi l 4)) [] = [Jvt l (J3 (xi l 8) (xi l 2) (xi l 3) (xi l 4)) (J4 (xi l 8) (xi l 2) (xi l 3) (xi l 4)) u w] := by
  have k3:(xi l 0 != 3) = true := by rw [L.k]; rfl
  have c9:XI l (J3 (xi l 8) (xi l 2) (xi l 3) (xi l 4)) (J4 (xi l 8) (xi l 2) (xi l 3) (xi l 4)) l = xi l 9 := by unfold XI; rw [k3]; rfl
  have c10:XK l (J3 (xi l 8) (xi l 2) (xi l 3) (xi l 4)) (J4 (xi l 8) (xi l 2) (xi l 3) (xi l 4)) l = xi l 10 := by unfold XK; rw [k3]; rfl
  have c11:XN l (J3 (xi l 8) (xi l 2) (xi l 3) (xi l 4)) (J4 (xi l 8) (xi l 2) (xi l 3) (xi l 4)) l = xi l 11 := by unfold XN; rw [k3]; rfl
  unfold Zq Jvt
  rw [c9,c10,c11,← L.hh]
  rfl
theorem Jed {l x:List GC} (L:LI l) (hv:QY x = true) (hm:J5 (xi x 0) = true) (hs:(xi x 16 == 0) = true) (hd:JZ x (xi l 8) (xi l 17) = true) (u w:Int) (O:LL) :
    Zq x (J3 (xi l 8) (xi x 5) (xi x 6) (xi x 7)) (J4 (xi l 8) (xi x 5) (xi x 6) (xi x 7)) (J9 (xi l 8) (xi x 5) (xi x 6) (xi x 7)) (J9 (xi l 8) (xi x 5) (xi x 6) (xi x 7)) true l u w O = O ++ [JtF x l u w] := by
  obtain ⟨_,_,h3,_⟩ := JGe hv hm
  obtain ⟨r0,p0⟩ := h3 hs
  unfold JZ at hd
  simp only [Bool.and_eq_true,beq_iff_eq] at hd
  obtain ⟨⟨⟨hk,hh⟩,_⟩,_⟩ := hd
  have s0:xi x 16 = 0 := by simpa using hs
  have p0:xi x 8 = 0 := by
    rcases p0 with h | h
    · exact h
    · rw [hk] at h; exact absurd h (by decide)
  obtain ⟨q0,q1,q2⟩ := JWe L.pl (xi x 5) (xi x 6) (xi x 7)
  unfold Zq JtF
  rw [q0,q1,q2,hh,s0,r0,p0,hk]
  rfl
theorem JHO (x:List GC) (p r:Int):JZ x p r = ZI p r x := by
  unfold JZ ZI
  rw [show J8 (JEu x p) (JFK x p) (JEu x p) (JFK x p) = JFP p x from rfl]
  cases xi x 0 == 2 <;> cases decide (JFP p x > 0) <;> cases decide (JFP p x ≥ IntKind.i64.wrap (r * r)) <;> cases (J9 p (xi x 2) (xi x 3) (xi x 4) == J9 p (xi x 5) (xi x 6) (xi x 7)) <;> rfl
structure Op (s:St) (t:Rt):Prop where
  l:s.l = t.l
  L:LI s.l
  C:s.C = t.C
  ci:CI s.C
  h:t.has = (xi s.y 0 != 0)
  z:t.has = false → s.tr = false
  e:t.has = true → s.y = t.y ∧ YI s.l s.y ∧ s.a0 = t.st0 ∧ s.a1 = t.st1 ∧ bd 4000000 s.a0 ∧ bd 4000000 s.a1 ∧ s.tr = t.tr
structure Rel (s:St) (t:Rt):Prop where
  cl:s.cl = t.cl
  er:s.er = t.er
  sl:J1 s.l = s.l
  sy:J1 s.y = s.y
  tl:J1 t.l = t.l
  ty:J1 t.y = t.y
  C8:s.C.length ≤ 8
  D8:t.C.length ≤ 8
  ok:s.er = 0 → s.op = t.op ∧ s.mo = t.mo ∧ s.en = t.en ∧ s.la0 = t.la0 ∧ s.la1 = t.la1 ∧ s.la2 = t.la2 ∧ (s.op = true → Op s t)
def JtZ (x:List GC) (t:Rt):Int := Q8 x t.cl t.op t.mo t.en t.la0 t.la1 t.la2 t.l t.has t.y t.st0 t.st1 t.tr t.C
theorem Jml (a:Int):(bif a != 0 then a else 0) = a := JCC a
theorem Jtb {x:List GC} {t:Rt} (hx:J1 x = x) (he:t.er = 0) (hl:J1 t.l = t.l) (hy:J1 t.y = t.y):rE x t = JtZ x t := by
  unfold rE ZA Qx JtZ
  rw [he,bne_self_eq_false,cond_false,Jml,hx,hl,hy,hl,hy]
theorem JsP {x:List GC} {t:Rt} (he:t.er ≠ 0):rE x t = t.er := by
  unfold rE ZA
  rw [show (t.er != 0) = true by simpa using he]; rfl
theorem JwE (x:List GC) (t:Rt):(rS x t).cl = t.cl := by
  unfold rS JBL
  simp only [Bool.cond_self]
theorem Jw4 (x:List GC) (t:Rt):(rS x t).er = rE x t := by
  unfold rS rE qh ZA
  show (bif t.er != 0 then t.er else bif (Qx ..) != 0 then _ else t.er) = _
  cases h:(t.er != 0)
  · have:t.er = 0 := by simpa using h
    rw [this]
  · rfl
theorem JqF {x:List GC} {t:Rt} (he:t.er ≠ 0):rO x t = [] := by
  unfold rO KJ
  rw [show (t.er != 0) = true by simpa using he]; rfl
theorem JvD {x:List GC} {t:Rt} (he:t.er = 0) (h:rE x t ≠ 0):rO x t = [] := by
  unfold rE ZA Qx at h
  rw [he,bne_self_eq_false,cond_false,Jml] at h
  unfold rO KJ
  rw [he,bne_self_eq_false,cond_false,bne_iff_ne.2 h]; rfl
theorem Jwn (x:List GC) (t:Rt):J1 (rS x t).l = (rS x t).l := by kernel_rfl
theorem Jwc (x:List GC) (t:Rt):J1 (rS x t).y = (rS x t).y := by kernel_rfl
theorem JuF (x:List GC) (s:St):J1 (XA x s).l = (XA x s).l := by kernel_rfl
theorem JuH (x:List GC) (s:St):J1 (XA x s).y = (XA x s).y := by kernel_rfl
theorem Jw8 (x:List GC) (t:Rt) (h:t.C.length ≤ 8):(rS x t).C.length ≤ 8 := by
  show (YR ..).length ≤ 8
  unfold YR
  exact WJ h (WJ h (JcG _ _ _ _ _ _ _ _ _ _ _ _ _ _ _ h))
theorem JvL (a b:Int):(bif a != 0 then a else bif b != 0 then b else 0) = (bif a == 0 then (bif b != 0 then b else 0) else (bif a != 0 then a else 0)) := by
  cases h:(a == 0)
  · have:(a != 0) = true := by simpa using h
    rw [this]; rfl
  · have:(a != 0) = false := by simpa using h
    rw [this]; rfl
theorem Jhb {x:List GC} {s:St} {t:Rt} (hx:J1 x = x) (hmo:s.mo = t.mo) (hen:s.en = t.en) (h0:s.la0 = t.la0) (h1:s.la1 = t.la1) (h2:s.la2 = t.la2):inv x s = JIm x t := by
  unfold inv JIm
  rw [JlC,hmo,hen,h0,h1,h2]
theorem JNq (x l:List GC):jE x l = (!J5 (xi x 0) || !ZH (xi l 8) x) := rfl
theorem Jt0 (x l:List GC):(xi x 0 == 1 || xi x 0 == 11 || xi x 0 == 14 || J5 (xi x 0) && (xi x 8 != xi l 8 || xi x 16 != xi l 16 || xi x 17 != xi l 17)) = (three x || odd x l) := rfl
theorem Jcs {x:List GC} {s:St} (hx:J1 x = x) (hi:inv x s = false) (hm:(J5 (xi x 0) && xi x 16 == 0) = false) (h3:three x = false) (ho:odd x s.l = false) (hmo:J5 (xi x 0) = true) :
    QY x = true ∧ (xi x 16 == 0) = false ∧ xi x 0 ≠ 1 ∧ xi x 8 = xi s.l 8 := by
  unfold inv at hi
  unfold three at h3
  unfold odd at ho
  rw [hx] at hi
  rw [hmo] at hm ho
  simp only [Bool.or_eq_false_iff,Bool.not_eq_false',Bool.true_and,beq_eq_false_iff_ne,ne_eq,bne_eq_false_iff_eq] at hi hm h3 ho
  exact ⟨hi.1.1,by simpa using hm,h3.1.1,ho.1.1⟩
theorem Jr9 {x:List GC} {s:St} {t:Rt} (hx:J1 x = x) (R:Rel s t) (he:s.er = 0):Jti x s = JtZ x t := by
  obtain ⟨hop,hmo,hen,h0,h1,h2,hO⟩ := R.ok he
  have hI := Jhb hx hmo hen h0 h1 h2
  unfold Jti JtZ Q8
  rw [← R.cl,← hop,hx]
  have hI2:(!Qr x || t.en || J5 (xi x 0) && t.mo && !(xi x 2 == t.la0 && (xi x 3 == t.la1 && xi x 4 == t.la2))) = JIm x t := by unfold JIm; rw [hx]
  rw [hI2,← hI]
  cases hcl:s.cl
  case true => rfl
  cases hi:inv x s
  case true => rfl
  simp only [cond_false]
  cases ho:s.op
  · simp only [Bool.not_false,Bool.true_and,cond_true]
    rw [JHO]
    have hne:(xi x 16 != 0) = !(xi x 16 == 0) := rfl
    rw [hne]
    cases J5 (xi x 0) <;> cases (xi x 16 == 0) <;> rfl
  · have O := hO ho
    simp only [Bool.not_true,Bool.false_and,cond_false]
    rw [← O.l]
    cases hm:(J5 (xi x 0) && xi x 16 == 0)
    · simp only [cond_false]
      rw [Jt0,← JNq]
      cases h3:three x
      case true => rfl
      cases hd:odd x s.l
      case true => rfl
      simp only [Bool.or_self,cond_false]
      rw [← O.C]
      cases hs:jE x s.l
      case true => rfl
      simp only [cond_false]
      have hmot:J5 (xi x 0) = true := by
        unfold jE at hs
        simp only [Bool.or_eq_false_iff,Bool.not_eq_false'] at hs
        exact hs.1
      obtain ⟨v1,v2,v3,v4⟩ := Jcs hx hi hm h3 hd hmot
      have X:YI s.l x := Jm6 hx v1 hmot v2 v3 v4
      obtain ⟨x0,_⟩ := JC5 X
      have hh:(xi s.y 0 == 0) = !t.has := by rw [O.h]; cases hq:(xi s.y 0 == 0) <;> simp_all
      rw [hh]
      cases hha:t.has
      · simp only [Bool.not_false,cond_true]
        unfold JCV
        rw [O.L.n,x0]
      · simp only [Bool.not_true,cond_false]
        obtain ⟨ey,Y,ea,eb,ba,bb,et⟩ := O.e hha
        obtain ⟨b0,s5,s6,_,_⟩ := JWQ O.L Y X
        rw [O.L.n,← ey,R.sy]
        unfold JHe
        rw [Jdn,JcC,O.L.n,R.sy,← ea,← eb,← et,qU Y X,b0,s5,s6]
        cases hk:(kd s.l s.y x == 2)
        · simp only [cond_false]
          obtain ⟨_,_,f1,f2⟩ := JhZ s.l s.y
          rw [(Yt O.L Y f1 f2 ba bb false s.tr).1]
          have hS:Q7 (f0 s.l s.y) (Go.Proofs.YtmbfbhimdkjkoaaGreat.f1 s.l s.y) false s.l s.y s.a0 s.a1 s.tr = shE (f0 s.l s.y) (Go.Proofs.YtmbfbhimdkjkoaaGreat.f1 s.l s.y) false s := by unfold shE; rw [R.sl,R.sy]
          rw [hS]
          cases hn:(nE s.l s.y == 0)
          · have:(nE s.l s.y != 0) = true := by simpa using hn
            rw [this]; simp only [cond_true,cond_false,this]
          · have:(nE s.l s.y != 0) = false := by simpa using hn
            rw [this]
            simp only [cond_true,cond_false]
            exact (JvL _ _).symm
        · simp only [cond_true]
          obtain ⟨f1,f2⟩ := JuQ O.L Y X
          rw [(Yt O.L Y f1 f2 ba bb true s.tr).1]
          have hS:Q7 (tr0 s.l s.y x) (tr1 s.l s.y x) true s.l s.y s.a0 s.a1 s.tr = shE (tr0 s.l s.y x) (tr1 s.l s.y x) true s := by unfold shE; rw [R.sl,R.sy]
          rw [hS]
          exact (JvL _ _).symm
    · simp only [cond_true]
      have hh:(xi s.y 0 == 0) = !t.has := by rw [O.h]; cases hq:(xi s.y 0 == 0) <;> simp_all
      rw [hh,JHO]
      cases hld:(!ZI (xi s.l 8) (xi s.l 17) x || !t.has)
      case true => rfl
      simp only [cond_false]
      have hha:t.has = true := by
        simp only [Bool.or_eq_false_iff,Bool.not_eq_false'] at hld
        exact hld.2
      obtain ⟨ey,Y,ea,eb,ba,bb,et⟩ := O.e hha
      obtain ⟨_,_,_,y3,y4,y5,_⟩ := JC5 Y
      rw [O.L.n,← ey,R.sy]
      unfold JD6
      have hs1:JC1 s.l s.y s.a0 s.a1 s.tr = Jz (QS s.l s.y) (QR s.l s.y) false (J1 s.l) (J1 s.y) s.a0 s.a1 s.tr := by kernel_rfl
      rw [← ea,← eb,← et,y3,hs1,y4,y5,O.L.n,R.sy]
      obtain ⟨_,_,f1,f2⟩ := JhZ s.l s.y
      rw [(Yt O.L Y f1 f2 ba bb false s.tr).1]
      have hS:Q7 (f0 s.l s.y) (Go.Proofs.YtmbfbhimdkjkoaaGreat.f1 s.l s.y) false s.l s.y s.a0 s.a1 s.tr = shE (f0 s.l s.y) (Go.Proofs.YtmbfbhimdkjkoaaGreat.f1 s.l s.y) false s := by unfold shE; rw [R.sl,R.sy]
      rw [hS]
      exact (JvL _ _).symm
def Rok (s:St) (t:Rt):Prop := s.op = t.op ∧ s.mo = t.mo ∧ s.en = t.en ∧ s.la0 = t.la0 ∧ s.la1 = t.la1 ∧ s.la2 = t.la2 ∧ (s.op = true → Op s t)
theorem JGn {x:List GC} {s:St} {t:Rt} (R:Rel s t) (hE:Ye x s = rE x t) (h:(XA x s).er = 0 → Rok (XA x s) (rS x t)):Rel (XA x s) (rS x t) :=
  ⟨by rw [JwE]; exact (show s.cl = t.cl from R.cl),by rw [← JXC,Jw4,hE],JuF x s,JuH x s,Jwn x t,Jwc x t,Je6 x s R.C8,Jw8 x t R.D8,h⟩
theorem JvM {s:St} {t:Rt} (x:List GC) (hmo:s.mo = t.mo) (h0:s.la0 = t.la0) (h1:s.la1 = t.la1) (h2:s.la2 = t.la2):(mvd x s).mo = (JJ7 x t).mo ∧ (mvd x s).en = (JJ7 x t).en ∧ (mvd x s).la0 = (JJ7 x t).la0 ∧ (mvd x s).la1 = (JJ7 x t).la1 ∧ (mvd x s).la2 = (JJ7 x t).la2 := by
  refine ⟨?_,rfl,?_,?_,?_⟩
  · show (_ || _) = (_ || _); rw [hmo]
  · show (bif _ then _ else _) = (bif _ then _ else _); rw [h0]
  · show (bif _ then _ else _) = (bif _ then _ else _); rw [h1]
  · show (bif _ then _ else _) = (bif _ then _ else _); rw [h2]
theorem JuM {c:Bool} {n:Int} (h:(c && n != 0) = false):(!c || n == 0) = true := by
  have:(n != 0) = !(n == 0) := rfl
  rw [this] at h
  clear this
  generalize (n == 0) = b at *
  cases c <;> cases b <;> simp_all
theorem Jtl {c:Bool} {n:Int} (h:(c && n != 0) = true):(!c || n == 0) = false ∧ c = true ∧ (n == 0) = false := by
  have:(n != 0) = !(n == 0) := rfl
  rw [this] at h
  clear this
  generalize (n == 0) = b at *
  cases c <;> cases b <;> simp_all
theorem JcL {l x:List GC} (X:YI l x):true = (xi x 0 != 0) := by
  rcases X.k with h | h <;> rw [h] <;> rfl
theorem JPl {x:List GC} {s:St} {t:Rt} (hx:J1 x = x) (R:Rel s t):Ye x s = rE x t ∧ Kn x s = rO x t ∧ Rel (XA x s) (rS x t) := by
  by_cases he:s.er = 0
  case neg =>
    have he':t.er ≠ 0 := by rw [← R.er]; exact he
    have hE:Ye x s = rE x t := by rw [JSW x s he,JsP he',R.er]
    refine ⟨hE,by rw [JhG x s he,JqF he'],JGn R hE fun h => ?_⟩
    rw [← JXC,JSW x s he] at h
    exact absurd h he
  have he':t.er = 0 := by rw [← R.er]; exact he
  have hE:Ye x s = rE x t := by rw [JZ6 x s he,Jtb hx he' R.tl R.ty,Jr9 hx R he]
  refine ⟨hE,?_⟩
  by_cases h:Ye x s = 0
  case neg =>
    have h':rE x t ≠ 0 := by rw [← hE]; exact h
    refine ⟨by rw [Jon x s h,JvD he' h'],JGn R hE fun q => ?_⟩
    rw [← JXC] at q
    exact absurd q h
  obtain ⟨hop,hmo,hen,l0,l1,l2,hO⟩ := R.ok he
  obtain ⟨hc,hi,hcase⟩ := JjV x s he h
  have hc':t.cl = false := by rw [← R.cl]; exact hc
  have hi':JIm x t = false := by rw [← Jhb hx hmo hen l0 l1 l2]; exact hi
  obtain ⟨m1,m2,m3,m4,m5⟩ := JvM x hmo l0 l1 l2
  rcases hcase with ⟨ho,hm⟩ | ⟨ho,hm,hd⟩ | ⟨ho,hm,hd,hn,hS⟩ | ⟨ho,hm,h3,hod,hcase⟩
  · obtain ⟨S1,O1⟩ := Jjc x s he R.sl R.sy hc hi ho hm
    obtain ⟨_,S2,O2⟩ := Jg4 x t hx he' R.tl R.ty hc' hi' (by rw [← hop]; exact ho) (JuM hm)
    refine ⟨by rw [O1,O2],JGn R hE fun _ => ?_⟩
    rw [S1,S2]
    exact ⟨hop,m1,m2,m3,m4,m5,fun q => by rw [show s.op = true from q] at ho; cases ho⟩
  · obtain ⟨hm',hmot,hs0⟩ := Jtl hm
    obtain ⟨S1,O1⟩ := Ji3 x s he R.sl R.sy hc hi ho hm hd
    rw [hx] at hd
    obtain ⟨_,S2,O2⟩ := JfW x t hx he' R.tl R.ty hc' hi' (by rw [← hop]; exact ho) hm' (by rw [← JHO]; exact hd)
    refine ⟨by rw [O1,O2],JGn R hE fun _ => ?_⟩
    rw [S1,S2]
    have hv:QY x = true := by
      unfold inv at hi
      rw [hx] at hi
      simp only [Bool.or_eq_false_iff,Bool.not_eq_false'] at hi
      exact hi.1.1
    exact ⟨rfl,m1,m2,m3,m4,m5,fun _ => ⟨hx,by rw [hx]; exact Ju2 hx hv hmot hs0 hd,rfl,(fun r hr => by cases hr),rfl,fun _ => rfl,fun q => by cases q⟩⟩
  · have O := hO ho
    obtain ⟨S1,O1⟩ := Jfz x s he R.sl R.sy hc hi ho hm hd hn hS
    simp only [Bool.or_eq_false_iff,Bool.not_eq_false',hx] at hd
    have hha:t.has = true := by rw [O.h]; show (!(xi s.y 0 == 0)) = true; rw [hd.2]; rfl
    obtain ⟨ey,Y,ea,eb,ba,bb,et⟩ := O.e hha
    obtain ⟨_,_,_,y3,y4,y5,_⟩ := JC5 Y
    obtain ⟨_,_,b2,b3⟩ := JhZ s.l s.y
    have st := Yt O.L Y b2 b3 ba bb false s.tr
    have hS':Q7 (f0 s.l s.y) (f1 s.l s.y) false s.l s.y s.a0 s.a1 s.tr = 0 := by rw [← hS]; unfold shE; rw [R.sl,R.sy]
    have hrl:ZI (xi s.l 8) (xi s.l 17) x = true := by rw [← JHO]; exact hd.1
    obtain ⟨_,S2,O2⟩ := Jgh x t hx he' R.tl R.ty hc' hi' (by rw [← hop]; exact ho) hm (by rw [← O.l,hrl,hha]; rfl) (by rw [← O.l,← ey,y3]; exact hn) (by rw [← O.l,← ey,← ea,← eb,← et,y4,y5,st.1]; exact hS')
    simp only [Bool.and_eq_true] at hm
    have hv:QY x = true := by
      unfold inv at hi
      rw [hx] at hi
      simp only [Bool.or_eq_false_iff,Bool.not_eq_false'] at hi
      exact hi.1.1
    refine ⟨?_,JGn R hE fun _ => ?_⟩
    · rw [O1,O2,← O.l,← ey,← ea,← eb,← et,← O.C,y4,y5,st.2,hx,O.L.n]
      rw [Jed O.L hv hm.1 hm.2 hd.1,JBK O.L.n _ _ _ O.ci]
      unfold shO
      rw [R.sl,R.sy]
    · rw [S1,S2]
      exact ⟨rfl,m1,m2,m3,m4,m5,fun q => by cases q⟩
  · have O := hO ho
    have ho':t.op = true := by rw [← hop]; exact ho
    have h3':(xi x 0 == 1 || xi x 0 == 11 || xi x 0 == 14 || J5 (xi x 0) && (xi x 8 != xi t.l 8 || xi x 16 != xi t.l 16 || xi x 17 != xi t.l 17)) = false := by rw [Jt0,← O.l,h3,hod]; rfl
    rcases hcase with ⟨hs,h8⟩ | ⟨hs,h0,hn⟩ | ⟨hs,h0,hk,hn,hS⟩ | ⟨hs,h0,hk,hn,hn',hS⟩
    · obtain ⟨S1,O1⟩ := Jiq x s he R.sl R.sy hc hi ho hm h3 hod hs h8
      obtain ⟨_,S2,O2⟩ := Jgv x t hx he' R.tl R.ty hc' hi' ho' hm h3' (by rw [← JNq,← O.l]; exact hs) (by rw [← O.C]; exact h8)
      refine ⟨by rw [O1,O2],JGn R hE fun _ => ?_⟩
      rw [S1,S2]
      refine ⟨hop,m1,m2,m3,m4,m5,fun _ => ⟨O.l,O.L,congrArg (· ++ [JHh x]) O.C,?_,O.h,O.z,O.e⟩⟩
      intro r hr hq
      rcases List.mem_append.1 hr with hr | hr
      · exact O.ci r hr hq
      · have hr':r = JHh x := by simpa using hr
        subst hr'
        have hmot:J5 (xi x 0) = true := hq
        obtain ⟨v1,v2,v3,v4⟩ := Jcs hx hi hm h3 hod hmot
        rw [JNq,hmot] at hs
        exact Jkk v1 hmot v2 v3 v4 (by simpa using hs)
    all_goals
      have hmot:J5 (xi x 0) = true := by
        unfold jE at hs
        simp only [Bool.or_eq_false_iff,Bool.not_eq_false'] at hs
        exact hs.1
      obtain ⟨v1,v2,v3,v4⟩ := Jcs hx hi hm h3 hod hmot
      have X:YI s.l x := Jm6 hx v1 hmot v2 v3 v4
      obtain ⟨x0,x1,x2,_⟩ := JC5 X
      obtain ⟨p0,p1,_,_⟩ := JhZ s.l x
      have hs':(!J5 (xi x 0) || !ZH (xi t.l 8) x) = false := by rw [← JNq,← O.l]; exact hs
    · have hha:t.has = false := by rw [O.h]; show (!(xi s.y 0 == 0)) = false; rw [h0]; rfl
      obtain ⟨S1,O1⟩ := Jix x s he R.sl R.sy hc hi ho hm h3 hod hs h0 hn
      obtain ⟨_,S2,O2⟩ := JgJ x t hx he' R.tl R.ty hc' hi' ho' hm h3' hs' hha (by rw [← O.l,x0]; exact hn)
      refine ⟨?_,JGn R hE fun _ => ?_⟩
      · rw [O1,O2,← O.l,← O.C,O.L.n,x1,x2,Jfd O.L,JBK O.L.n _ _ _ O.ci]
        rfl
      · rw [S1,S2]
        exact ⟨hop,m1,m2,m3,m4,m5,fun _ => ⟨O.l,O.L,rfl,(fun r hr => by cases hr),by rw [hx]; exact JcL X,(fun q => by cases q),fun _ => ⟨hx,by rw [hx]; exact X,by rw [← O.l]; exact x1.symm,by rw [← O.l]; exact x2.symm,p0,p1,O.z hha⟩⟩⟩
    · have hha:t.has = true := by rw [O.h]; show (!(xi s.y 0 == 0)) = true; rw [h0]; rfl
      obtain ⟨ey,Y,ea,eb,ba,bb,et⟩ := O.e hha
      obtain ⟨b0,s5,s6,s8,s9⟩ := JWQ O.L Y X
      obtain ⟨t0,t1⟩ := JuQ O.L Y X
      rw [hk,cond_true] at b0 s5 s6 s8 s9
      have st := Yt O.L Y t0 t1 ba bb true s.tr
      have hS':Q7 (tr0 s.l s.y x) (tr1 s.l s.y x) true s.l s.y s.a0 s.a1 s.tr = 0 := by rw [← hS]; unfold shE; rw [R.sl,R.sy]
      obtain ⟨S1,O1⟩ := JfR x s he R.sl R.sy hc hi ho hm h3 hod hs h0 hk hn hS
      obtain ⟨_,S2,O2⟩ := JVy x t hx he' R.tl R.ty hc' hi' ho' hm h3' hs' hha (by rw [← O.l,← ey,b0]; exact hn) (by rw [← O.l,← ey,← ea,← eb,← et,s5,s6,qU Y X,hk,st.1]; exact hS')
      refine ⟨?_,JGn R hE fun _ => ?_⟩
      · rw [O1,O2,← O.l,← ey,← ea,← eb,← et,← O.C,qU Y X,show (kd s.l s.y x != 2) = false by simpa using hk,cond_false]
        unfold JEg
        rw [s5,s6,qU Y X,hk,O.L.n,R.sy,st.2,JBK O.L.n _ _ _ O.ci]
        unfold shO
        rw [R.sl,R.sy]
      · rw [S1,S2]
        exact ⟨hop,m1,m2,m3,m4,m5,fun _ => ⟨O.l,O.L,rfl,(fun r hr => by cases hr),by rw [hx]; show t.has = _; rw [hha]; exact JcL X,fun q => absurd (show t.has = false from q) (by rw [hha]; decide),fun _ => ⟨hx,by rw [hx]; exact X,by rw [← O.l,← ey]; exact s8.symm,by rw [← O.l,← ey]; exact s9.symm,t0,t1,by rw [← O.l,← ey,qU Y X]; exact hk.symm⟩⟩⟩
    · have hha:t.has = true := by rw [O.h]; show (!(xi s.y 0 == 0)) = true; rw [h0]; rfl
      obtain ⟨ey,Y,ea,eb,ba,bb,et⟩ := O.e hha
      obtain ⟨b0,s5,s6,s8,s9⟩ := JWQ O.L Y X
      obtain ⟨_,_,q2,q3⟩ := JhZ s.l s.y
      rw [hk,cond_false] at b0 s5 s6 s8 s9
      rw [hn,beq_self_eq_true,cond_true] at b0 s8 s9
      have st := Yt O.L Y q2 q3 ba bb false s.tr
      have hS':Q7 (f0 s.l s.y) (f1 s.l s.y) false s.l s.y s.a0 s.a1 s.tr = 0 := by rw [← hS]; unfold shE; rw [R.sl,R.sy]
      obtain ⟨S1,O1⟩ := JeP x s he R.sl R.sy hc hi ho hm h3 hod hs h0 hk hn hn' hS
      obtain ⟨_,S2,O2⟩ := JVy x t hx he' R.tl R.ty hc' hi' ho' hm h3' hs' hha (by rw [← O.l,← ey,b0]; exact hn') (by rw [← O.l,← ey,← ea,← eb,← et,s5,s6,qU Y X,hk,st.1]; exact hS')
      refine ⟨?_,JGn R hE fun _ => ?_⟩
      · rw [O1,O2,← O.l,← ey,← ea,← eb,← et,← O.C,qU Y X,show (kd s.l s.y x != 2) = true by simpa using hk,cond_true]
        unfold JEg
        rw [s5,s6,s8,s9,qU Y X,hk,O.L.n,R.sy,hx,st.2,JgM O.L,JBK O.L.n _ _ _ O.ci]
        unfold shO
        rw [R.sl,R.sy]
      · rw [S1,S2]
        exact ⟨hop,m1,m2,m3,m4,m5,fun _ => ⟨O.l,O.L,rfl,(fun r hr => by cases hr),by rw [hx]; show t.has = _; rw [hha]; exact JcL X,fun q => absurd (show t.has = false from q) (by rw [hha]; decide),fun _ => ⟨hx,by rw [hx]; exact X,by rw [← O.l,← ey]; exact s8.symm,by rw [← O.l,← ey]; exact s9.symm,p0,p1,by rw [← O.l,← ey,qU Y X]; exact hk.symm⟩⟩⟩
theorem JkM:Runs (Jr (JB JeX) Wr 14) [.one (.wh 0),.one .nilsl] [(0,.row false 40 22 (.lit 1 []))] 2 (.one (.bool (.c true))) [(0,.row false 40 22 (.lit 1 []))] :=
  Runs.of1 (ps := []) (by kernel_rfl) (by simp)
def Jiv:JY := fun vs mem n => match vs,mem,n with
  | [.one (.wh 0),.one .nilsl],[(0,.row false 40 22 (.lst 1 ks xs))],2 => some ⟨.one (.bool (.c true)),[(0,.row false 40 22 (.lit 1 []))],[xs = []],[],10⟩
  | _,_,_ => none
theorem Jtg {θ:Th} {w:World} {id:Nat} {a b:SX.Obj} (h:QC θ w id a → QC θ w id b) (hm:Jh θ [(id,a)] w):Jh θ [(id,b)] w := by
  have l1:SX.JC [(id,a)] id = some a := by simp [SX.JT]
  refine ⟨fun i o ho => ?_,fun i i' o o' bk ho ho' hne => ?_⟩
  · rw [JT] at ho
    cases hb:Nat.beq id i
    · rw [hb] at ho; cases ho
    · rw [hb] at ho; cases ho
      have := Nat.eq_of_beq_eq_true hb; subst this
      exact h (hm.1 id a l1)
  · exfalso
    rw [JT] at ho ho'
    cases hb:Nat.beq id i
    · rw [hb] at ho; cases ho
    cases hb':Nat.beq id i'
    · rw [hb'] at ho'; cases ho'
    exact hne ((Nat.eq_of_beq_eq_true hb).symm.trans (Nat.eq_of_beq_eq_true hb'))
theorem JrI {n:Nat} {θ θ':Th} {w w':World} {id:Nat} {a b:SX.Obj} {m:Jn} (g:Grew n θ [(id,b)] w θ' m w'):Grew n θ [(id,a)] w θ' m w' := by
  have l1:SX.JC [(id,a)] id = some a := by simp [SX.JT]
  have key:∀ i o,SX.JC [(id,b)] i = some o → i = id := fun i o h => by
    rw [JT] at h
    cases hb:Nat.beq id i
    · rw [hb] at h; cases h
    · exact (Nat.eq_of_beq_eq_true hb).symm
  refine { g with heap := fun bk hb hno => g.heap bk hb fun i o ho => ?_,blks := fun i o bk hl hb => ?_,eyes := fun i o bk hl hb => ?_ }
  · rw [key i o ho]; exact hno id a l1
  · rcases g.blks i o bk hl hb with h | ⟨i0,o0,h1,h2⟩
    · exact .inl h
    · rw [key i0 o0 h1] at h2; exact .inr ⟨id,a,l1,h2⟩
  · rcases g.eyes i o bk hl hb with h | ⟨i0,o0,h1,h2⟩
    · exact .inl h
    · rw [key i0 o0 h1] at h2; exact .inr ⟨id,a,l1,h2⟩
theorem Jnu:Qg Tryz.prog 14 Jiv := by
  intro vs mem n r hr hn he hwf hids θ w hm
  unfold Jiv at hr
  split at hr
  · rename_i ks xs
    cases hr
    have hx:xs = [] := hn _ (by simp)
    subst hx
    obtain ⟨r',q1,q2,q3,q4,q5⟩ := JkM.run
    have hm':Jh θ [(0,SX.Obj.row false 40 22 (.lit 1 []))] w := Jtg (a := .row false 40 22 (.lst 1 ks [])) (b := .row false 40 22 (.lit 1 [])) (fun h => h) hm
    have hwf':Qz 2 [(0,SX.Obj.row false 40 22 (.lit 1 []))] := fun i o h => by
      rw [JT] at h
      cases hb:Nat.beq 0 i
      · rw [hb] at h; cases h
      · rw [hb] at h; cases h
        have := Nat.eq_of_beq_eq_true hb; subst this
        exact ⟨by decide,fun i hi => by cases hi⟩
    have := JD JSj 14 _ _ _ r' q1 q2 q3 hwf' hids θ w hm'
    rw [q4,q5] at this
    exact ⟨this.1,this.2.mono fun e w' ⟨θ',g1,g2,g3⟩ => ⟨θ',g1,JrI g2,g3⟩⟩
  · cases hr
def JKP:List (Nat × JY) := (14,orS (orS (JS JC6 JJk) JtY) Jiv) :: (2000000 + 20,JmO) :: (2000000 + 34,JmO) :: JeX
theorem JSH:Known Tryz.prog (JB JKP) Wr := J7 (J7 (J7 JSj (JeY _ _)) (JeY _ _)) (JLS (JLS JfK Jln) Jnu)
def JmG (g:Nat → Nat) (t:Rt) (c:Nat):List (Nat × SC) := Jk7 g t.cl t.op t.er t.mo t.en t.la0 t.la1 t.la2 t.l c t.has t.y t.st0 t.st1 t.tr t.pn0 t.pn1
structure TS where
  i:Nat
  s:St
  t:Rt
structure TF where
  bad:Bool
  s:St
  t:Rt
def KF:Rt := ⟨false,false,0,false,false,0,0,0,JW7,false,JW7,0,0,false,0,0,[]⟩
def tlN (X:LL):Nat → TS → TF
  | 0,a => ⟨false,a.s,a.t⟩
  | n + 1,a => tlN X n ⟨a.i + 1,XA (JX (X.getD a.i [])) a.s,rS (JX (X.getD a.i [])) a.t⟩
section
variable (k:Nat)
def tlG:Nat:= 1000000100 + k
def tlK:Nat:= 1000000200 + k
def tlH:Nat:= 700 + k
def tlI:Nat:= 800 + k
end
theorem Jbz (r:List Int):J1 (JX r) = JX r := by kernel_rfl
theorem JQr {s:St} {t:Rt} (R:Rel s t):QV s.op s.er s.C = QV t.op t.er t.C := by
  unfold QV
  rw [← R.er]
  by_cases h:s.er = 0
  · obtain ⟨hop,_,_,_,_,_,hO⟩ := R.ok h
    rw [← hop]
    cases ho:s.op
    · rw [Bool.not_false,Bool.or_true,cond_true,cond_true]
    · rw [(hO ho).C]
  · rw [show (s.er != 0) = true by simpa using h,Bool.true_or,Bool.true_or,cond_true,cond_true]
theorem Jvc:Rel ZU KF := ⟨rfl,rfl,rfl,rfl,rfl,rfl,Nat.zero_le _,Nat.zero_le _,fun _ => ⟨rfl,rfl,rfl,rfl,rfl,rfl,fun h => by cases h⟩⟩
theorem Jdb (X:LL):∀ (n:Nat) (a:TS),Rel a.s a.t → Rel (tlN X n a).s (tlN X n a).t
  | 0,a,h => h
  | n + 1,a,h => Jdb X n _ (JPl (Jbz _) h).2.2
theorem Jli (X:LL):∀ (n:Nat) (a:TS),(tlN X n a).bad = false
  | 0,a => rfl
  | n + 1,a => Jli X n _
theorem Jt4 {X:LL} {a:TS} (h:a.i < X.length):tlN X (X.length - a.i) a = tlN X (X.length - (a.i + 1)) ⟨a.i + 1,XA (JX (X.getD a.i [])) a.s,rS (JX (X.getD a.i [])) a.t⟩ := by
  have e:X.length - a.i = (X.length - (a.i + 1)) + 1 := by omega
  rw [e]; rfl
def JU (X:LL):Fam TS TF where
  k := 900
  E a := [(5,ent 1000000000 (.one (I (Int.ofNat a.i)))),(4,ent 141 (.one (.ptr 74 0))),(3,ent 140 (.one (.ptr 5 0))),(0,ent 0 (.one (.wh 0)))]
  M a := [(74,.blk 74 (JmG tlK a.t 520)),Jtp 520 1000000012 a.t.C,(5,.blk 66 (JU3 tlG a.s 510 511)),YM 510 1000000010 a.s.C,YM 511 1000000011 [],(0,.row false 40 22 (.lst 1 CKi X))]
  out t := .ite t.bad (.leaf .ret [(2,ent 600 (.one (.bool (.c false))))] [])
    (.leaf (.exit 0) [(4,ent 141 (.one (.ptr 74 0))),(3,ent 140 (.one (.ptr 5 0))),(0,ent 0 (.one (.wh 0)))] [(74,.blk 74 (JmG tlI t.t 520)),Jtp 520 612 t.t.C,(5,.blk 66 (JU3 tlH t.s 510 511)),YM 510 610 t.s.C,YM 511 611 [],(0,.row false 40 22 (.lst 1 CKi X))])
  fin a := tlN X (X.length - a.i) a
  next a _ := ⟨a.i + 1,XA (JX (X.getD a.i [])) a.s,rS (JX (X.getD a.i [])) a.t⟩
  J a := a.i ≤ X.length ∧ X.length ≤ 1000 ∧ Rel a.s a.t
  μ a := X.length - a.i
section
variable (X:LL) (a:TS)
def JhH:Prop:=
 decide (Int.ofNat a.i < Int.ofNat X.length) = true
def Jue:LL:=
 KS (JX (X.getD (Int.ofNat a.i).toNat [])) (J1 a.s.l) (J1 a.s.y) a.s.a0 a.s.a1 a.s.tr a.s.op a.s.cl a.s.en a.s.mo a.s.la0 a.s.la1 a.s.la2 a.s.er a.s.C []
def JuY:Bool:=
 j3 (JX (X.getD (Int.ofNat a.i).toNat [])) (J1 a.s.l) (J1 a.s.y) a.s.a0 a.s.a1 a.s.tr a.s.op a.s.cl a.s.en a.s.mo a.s.la0 a.s.la1 a.s.la2 a.s.er
def Juv:Int:=
 Kx (JX (X.getD (Int.ofNat a.i).toNat [])) (J1 a.s.l) (J1 a.s.y) a.s.a0 a.s.a1 a.s.tr a.s.op a.s.cl a.s.en a.s.mo a.s.la0 a.s.la1 a.s.la2 a.s.er a.s.C
def Jua:LL:=
 Yp (JX (X.getD (Int.ofNat a.i).toNat [])) (J1 a.s.l) (J1 a.s.y) a.s.a0 a.s.a1 a.s.tr a.s.op a.s.cl a.s.en a.s.mo a.s.la0 a.s.la1 a.s.la2 a.s.er a.s.C
def Juo:Bool:=
 JBD (JX (X.getD (Int.ofNat a.i).toNat [])) a.t.cl a.t.op a.t.er a.t.mo a.t.en a.t.la0 a.t.la1 a.t.la2 (J1 a.t.l) a.t.has (J1 a.t.y) a.t.st0 a.t.st1 a.t.tr a.t.C
def Jv6:Int:=
 qh (JX (X.getD (Int.ofNat a.i).toNat [])) a.t.cl a.t.op a.t.er a.t.mo a.t.en a.t.la0 a.t.la1 a.t.la2 (J1 a.t.l) a.t.has (J1 a.t.y) a.t.st0 a.t.st1 a.t.tr a.t.C
def Jug:LL:=
 YR (JX (X.getD (Int.ofNat a.i).toNat [])) a.t.cl a.t.op a.t.er a.t.mo a.t.en a.t.la0 a.t.la1 a.t.la2 (J1 a.t.l) a.t.has (J1 a.t.y) a.t.st0 a.t.st1 a.t.tr a.t.C
def JXU:List Prop:= [JhH X a → 0 ≤ Int.ofNat a.i ∧ (Int.ofNat a.i).toNat < X.length ∧ (Int.ofNat a.i).toNat < X.length ∧ a.s.C.length ≤ 1000 ∧ 0 ≤ 800000 ∧ 0 ≤ Int.ofNat a.i ∧ (Int.ofNat a.i).toNat < X.length ∧ (Int.ofNat a.i).toNat < X.length ∧ ((a.t.er != 0) = false → a.t.C.length ≤ 8) ∧ Jue X a = KJ (JX (X.getD (Int.ofNat a.i).toNat [])) a.t.cl a.t.op a.t.er a.t.mo a.t.en a.t.la0 a.t.la1 a.t.la2 (J1 a.t.l) a.t.has (J1 a.t.y) a.t.st0 a.t.st1 a.t.tr a.t.C ∧ (Jue X a).length ≤ 1000000,JhH X a → ((Yh (JX (X.getD (Int.ofNat a.i).toNat [])) (J1 a.s.l) (J1 a.s.y) a.s.a0 a.s.a1 a.s.tr a.s.op a.s.cl a.s.en a.s.mo a.s.la0 a.s.la1 a.s.la2 a.s.er a.s.C != ZA (JX (X.getD (Int.ofNat a.i).toNat [])) a.t.cl a.t.op a.t.er a.t.mo a.t.en a.t.la0 a.t.la1 a.t.la2 (J1 a.t.l) a.t.has (J1 a.t.y) a.t.st0 a.t.st1 a.t.tr a.t.C || QV (JuY X a) (Juv X a) (Jua X a) != QV (Juo X a) (Jv6 X a) (Jug X a)) = true → ((JU X).fin a).bad = false → False) ∧ ((Yh (JX (X.getD (Int.ofNat a.i).toNat [])) (J1 a.s.l) (J1 a.s.y) a.s.a0 a.s.a1 a.s.tr a.s.op a.s.cl a.s.en a.s.mo a.s.la0 a.s.la1 a.s.la2 a.s.er a.s.C != ZA (JX (X.getD (Int.ofNat a.i).toNat [])) a.t.cl a.t.op a.t.er a.t.mo a.t.en a.t.la0 a.t.la1 a.t.la2 (J1 a.t.l) a.t.has (J1 a.t.y) a.t.st0 a.t.st1 a.t.tr a.t.C || QV (JuY X a) (Juv X a) (Jua X a) != QV (Juo X a) (Jv6 X a) (Jug X a)) = false → (((JU X).next a 1).i ≤ X.length ∧ X.length ≤ 1000 ∧ YtmbfbhimdkjkoaaGreat.Rel ((JU X).next a 1).s ((JU X).next a 1).t) ∧ (JU X).μ ((JU X).next a 1) < (JU X).μ a ∧ (JU X).fin ((JU X).next a 1) = (JU X).fin a ∧ Int.ofNat ((JU X).next a 1).i = IntKind.i64.wrap (Int.ofNat a.i + 1) ∧ ((JU X).next a 1).t.cl = ((JU X).next a 1).t.cl ∧ ((JU X).next a 1).t.op = ((JU X).next a 1).t.op ∧ ((JU X).next a 1).t.er = ((JU X).next a 1).t.er ∧ ((JU X).next a 1).t.mo = ((JU X).next a 1).t.mo ∧ ((JU X).next a 1).t.en = ((JU X).next a 1).t.en ∧ ((JU X).next a 1).t.la0 = ((JU X).next a 1).t.la0 ∧ ((JU X).next a 1).t.la1 = ((JU X).next a 1).t.la1 ∧ ((JU X).next a 1).t.la2 = ((JU X).next a 1).t.la2 ∧ xi ((JU X).next a 1).t.l 0 = xi ((JU X).next a 1).t.l 0 ∧ xi ((JU X).next a 1).t.l 1 = xi ((JU X).next a 1).t.l 1 ∧ xi ((JU X).next a 1).t.l 2 = xi ((JU X).next a 1).t.l 2 ∧ xi ((JU X).next a 1).t.l 3 = xi ((JU X).next a 1).t.l 3 ∧ xi ((JU X).next a 1).t.l 4 = xi ((JU X).next a 1).t.l 4 ∧ xi ((JU X).next a 1).t.l 5 = xi ((JU X).next a 1).t.l 5 ∧ xi ((JU X).next a 1).t.l 6 = xi ((JU X).next a 1).t.l 6 ∧ xi ((JU X).next a 1).t.l 7 = xi ((JU X).next a 1).t.l 7 ∧ xi ((JU X).next a 1).t.l 8 = xi ((JU X).next a 1).t.l 8 ∧ xi ((JU X).next a 1).t.l 9 = xi ((JU X).next a 1).t.l 9 ∧ xi ((JU X).next a 1).t.l 10 = xi ((JU X).next a 1).t.l 10 ∧ xi ((JU X).next a 1).t.l 11 = xi ((JU X).next a 1).t.l 11 ∧ xi ((JU X).next a 1).t.l 12 = xi ((JU X).next a 1).t.l 12 ∧
 xb ((JU X).next a 1).t.l 13 = xb ((JU X).next a 1).t.l 13 ∧ xi ((JU X).next a 1).t.l 14 = xi ((JU X).next a 1).t.l 14 ∧ xb ((JU X).next a 1).t.l 15 = xb ((JU X).next a 1).t.l 15 ∧ xi ((JU X).next a 1).t.l 16 = xi ((JU X).next a 1).t.l 16 ∧ xi ((JU X).next a 1).t.l 17 = xi ((JU X).next a 1).t.l 17 ∧ xi ((JU X).next a 1).t.l 18 = xi ((JU X).next a 1).t.l 18 ∧ xi ((JU X).next a 1).t.l 19 = xi ((JU X).next a 1).t.l 19 ∧ xi ((JU X).next a 1).t.l 20 = xi ((JU X).next a 1).t.l 20 ∧ xb ((JU X).next a 1).t.l 21 = xb ((JU X).next a 1).t.l 21 ∧ ((JU X).next a 1).t.has = ((JU X).next a 1).t.has ∧ xi ((JU X).next a 1).t.y 0 = xi ((JU X).next a 1).t.y 0 ∧ xi ((JU X).next a 1).t.y 1 = xi ((JU X).next a 1).t.y 1 ∧ xi ((JU X).next a 1).t.y 2 = xi ((JU X).next a 1).t.y 2 ∧ xi ((JU X).next a 1).t.y 3 = xi ((JU X).next a 1).t.y 3 ∧ xi ((JU X).next a 1).t.y 4 = xi ((JU X).next a 1).t.y 4 ∧ xi ((JU X).next a 1).t.y 5 = xi ((JU X).next a 1).t.y 5 ∧ xi ((JU X).next a 1).t.y 6 = xi ((JU X).next a 1).t.y 6 ∧ xi ((JU X).next a 1).t.y 7 = xi ((JU X).next a 1).t.y 7 ∧ xi ((JU X).next a 1).t.y 8 = xi ((JU X).next a 1).t.y 8 ∧ xi ((JU X).next a 1).t.y 9 = xi ((JU X).next a 1).t.y 9 ∧ xi ((JU X).next a 1).t.y 10 = xi ((JU X).next a 1).t.y 10 ∧ xi ((JU X).next a 1).t.y 11 = xi ((JU X).next a 1).t.y 11 ∧ xi ((JU X).next a 1).t.y 12 = xi ((JU X).next a 1).t.y 12 ∧ xb ((JU X).next a 1).t.y 13 = xb ((JU X).next a 1).t.y 13 ∧ xi ((JU X).next a 1).t.y 14 = xi ((JU X).next a 1).t.y 14 ∧ xb ((JU X).next a 1).t.y 15 = xb ((JU X).next a 1).t.y 15 ∧ xi ((JU X).next a 1).t.y 16 = xi ((JU X).next a 1).t.y 16 ∧ xi ((JU X).next a 1).t.y 17 = xi ((JU X).next a 1).t.y 17 ∧ xi ((JU X).next a 1).t.y 18 = xi ((JU X).next a 1).t.y 18 ∧ xi ((JU X).next a 1).t.y 19 = xi ((JU X).next a 1).t.y 19 ∧ xi ((JU X).next a 1).t.y 20 = xi ((JU X).next a 1).t.y 20 ∧ xb ((JU X).next a 1).t.y 21 = xb ((JU X).next a 1).t.y 21 ∧ ((JU X).next a 1).t.st0 = ((JU X).next a 1).t.st0 ∧ ((JU X).next a 1).t.st1 = ((JU X).next a 1).t.st1 ∧ ((JU X).next a 1).t.tr = ((JU X).next a 1).t.tr ∧ ((JU X).next a 1).t.pn0 = ((JU X).next a 1).t.pn0 ∧ ((JU X).next a 1).t.pn1 = ((JU X).next a 1).t.pn1 ∧ ((JU X).next a 1).t.C = ((JU X).next a 1).t.C ∧ xi ((JU X).next a 1).s.l 0 = xi ((JU X).next a 1).s.l 0 ∧ xi ((JU X).next a 1).s.l 1 = xi ((JU X).next a 1).s.l 1 ∧ xi ((JU X).next a 1).s.l 2 = xi ((JU X).next a 1).s.l 2 ∧ xi ((JU X).next a 1).s.l 3 = xi ((JU X).next a 1).s.l 3 ∧ xi ((JU X).next a 1).s.l 4 = xi ((JU X).next a 1).s.l 4 ∧ xi ((JU X).next a 1).s.l 5 = xi ((JU X).next a 1).s.l 5 ∧ xi ((JU X).next a 1).s.l 6 = xi ((JU X).next a 1).s.l 6 ∧ xi ((JU X).next a 1).s.l 7 = xi ((JU X).next a 1).s.l 7 ∧ xi ((JU X).next a 1).s.l 8 = xi ((JU X).next a 1).s.l 8 ∧ xi ((JU X).next a 1).s.l 9 = xi ((JU X).next a 1).s.l 9 ∧ xi ((JU X).next a 1).s.l 10 = xi ((JU X).next a 1).s.l 10 ∧ xi ((JU X).next a 1).s.l 11 = xi ((JU X).next a 1).s.l 11 ∧
 xi ((JU X).next a 1).s.l 12 = xi ((JU X).next a 1).s.l 12 ∧ xb ((JU X).next a 1).s.l 13 = xb ((JU X).next a 1).s.l 13 ∧ xi ((JU X).next a 1).s.l 14 = xi ((JU X).next a 1).s.l 14 ∧ xb ((JU X).next a 1).s.l 15 = xb ((JU X).next a 1).s.l 15 ∧ xi ((JU X).next a 1).s.l 16 = xi ((JU X).next a 1).s.l 16 ∧ xi ((JU X).next a 1).s.l 17 = xi ((JU X).next a 1).s.l 17 ∧ xi ((JU X).next a 1).s.l 18 = xi ((JU X).next a 1).s.l 18 ∧ xi ((JU X).next a 1).s.l 19 = xi ((JU X).next a 1).s.l 19 ∧ xi ((JU X).next a 1).s.l 20 = xi ((JU X).next a 1).s.l 20 ∧ xb ((JU X).next a 1).s.l 21 = xb ((JU X).next a 1).s.l 21 ∧ xi ((JU X).next a 1).s.y 0 = xi ((JU X).next a 1).s.y 0 ∧ xi ((JU X).next a 1).s.y 1 = xi ((JU X).next a 1).s.y 1 ∧ xi ((JU X).next a 1).s.y 2 = xi ((JU X).next a 1).s.y 2 ∧ xi ((JU X).next a 1).s.y 3 = xi ((JU X).next a 1).s.y 3 ∧ xi ((JU X).next a 1).s.y 4 = xi ((JU X).next a 1).s.y 4 ∧ xi ((JU X).next a 1).s.y 5 = xi ((JU X).next a 1).s.y 5 ∧ xi ((JU X).next a 1).s.y 6 = xi ((JU X).next a 1).s.y 6 ∧ xi ((JU X).next a 1).s.y 7 = xi ((JU X).next a 1).s.y 7 ∧ xi ((JU X).next a 1).s.y 8 = xi ((JU X).next a 1).s.y 8 ∧ xi ((JU X).next a 1).s.y 9 = xi ((JU X).next a 1).s.y 9 ∧ xi ((JU X).next a 1).s.y 10 = xi ((JU X).next a 1).s.y 10 ∧ xi ((JU X).next a 1).s.y 11 = xi ((JU X).next a 1).s.y 11 ∧ xi ((JU X).next a 1).s.y 12 = xi ((JU X).next a 1).s.y 12 ∧ xb ((JU X).next a 1).s.y 13 = xb ((JU X).next a 1).s.y 13 ∧ xi ((JU X).next a 1).s.y 14 = xi ((JU X).next a 1).s.y 14 ∧ xb ((JU X).next a 1).s.y 15 = xb ((JU X).next a 1).s.y 15 ∧ xi ((JU X).next a 1).s.y 16 = xi ((JU X).next a 1).s.y 16 ∧ xi ((JU X).next a 1).s.y 17 = xi ((JU X).next a 1).s.y 17 ∧ xi ((JU X).next a 1).s.y 18 = xi ((JU X).next a 1).s.y 18 ∧ xi ((JU X).next a 1).s.y 19 = xi ((JU X).next a 1).s.y 19 ∧ xi ((JU X).next a 1).s.y 20 = xi ((JU X).next a 1).s.y 20 ∧ xb ((JU X).next a 1).s.y 21 = xb ((JU X).next a 1).s.y 21 ∧ ((JU X).next a 1).s.a0 = ((JU X).next a 1).s.a0 ∧ ((JU X).next a 1).s.a1 = ((JU X).next a 1).s.a1 ∧ ((JU X).next a 1).s.tr = ((JU X).next a 1).s.tr ∧ ((JU X).next a 1).s.op = ((JU X).next a 1).s.op ∧ ((JU X).next a 1).s.cl = a.s.cl ∧ ((JU X).next a 1).s.en = ((JU X).next a 1).s.en ∧ ((JU X).next a 1).s.mo = ((JU X).next a 1).s.mo ∧ ((JU X).next a 1).s.la0 = ((JU X).next a 1).s.la0 ∧ ((JU X).next a 1).s.la1 = ((JU X).next a 1).s.la1 ∧ ((JU X).next a 1).s.la2 = ((JU X).next a 1).s.la2 ∧ ((JU X).next a 1).s.er = ((JU X).next a 1).s.er ∧ ((JU X).next a 1).s.C = ((JU X).next a 1).s.C ∧ ([]:LL) = []),decide (Int.ofNat a.i < Int.ofNat X.length) = false → (((JU X).fin a).bad = true → False) ∧ (((JU X).fin a).bad = false → ((JU X).fin a).t.cl = a.t.cl ∧ ((JU X).fin a).t.op = a.t.op ∧ ((JU X).fin a).t.er = a.t.er ∧ ((JU X).fin a).t.mo = a.t.mo ∧ ((JU X).fin a).t.en = a.t.en ∧ ((JU X).fin a).t.la0 = a.t.la0 ∧ ((JU X).fin a).t.la1 = a.t.la1 ∧ ((JU X).fin a).t.la2 = a.t.la2 ∧
 xi ((JU X).fin a).t.l 0 = xi a.t.l 0 ∧ xi ((JU X).fin a).t.l 1 = xi a.t.l 1 ∧ xi ((JU X).fin a).t.l 2 = xi a.t.l 2 ∧ xi ((JU X).fin a).t.l 3 = xi a.t.l 3 ∧ xi ((JU X).fin a).t.l 4 = xi a.t.l 4 ∧ xi ((JU X).fin a).t.l 5 = xi a.t.l 5 ∧ xi ((JU X).fin a).t.l 6 = xi a.t.l 6 ∧ xi ((JU X).fin a).t.l 7 = xi a.t.l 7 ∧ xi ((JU X).fin a).t.l 8 = xi a.t.l 8 ∧ xi ((JU X).fin a).t.l 9 = xi a.t.l 9 ∧ xi ((JU X).fin a).t.l 10 = xi a.t.l 10 ∧ xi ((JU X).fin a).t.l 11 = xi a.t.l 11 ∧ xi ((JU X).fin a).t.l 12 = xi a.t.l 12 ∧ xb ((JU X).fin a).t.l 13 = xb a.t.l 13 ∧ xi ((JU X).fin a).t.l 14 = xi a.t.l 14 ∧ xb ((JU X).fin a).t.l 15 = xb a.t.l 15 ∧ xi ((JU X).fin a).t.l 16 = xi a.t.l 16 ∧ xi ((JU X).fin a).t.l 17 = xi a.t.l 17 ∧ xi ((JU X).fin a).t.l 18 = xi a.t.l 18 ∧ xi ((JU X).fin a).t.l 19 = xi a.t.l 19 ∧ xi ((JU X).fin a).t.l 20 = xi a.t.l 20 ∧ xb ((JU X).fin a).t.l 21 = xb a.t.l 21 ∧ ((JU X).fin a).t.has = a.t.has ∧ xi ((JU X).fin a).t.y 0 = xi a.t.y 0 ∧ xi ((JU X).fin a).t.y 1 = xi a.t.y 1 ∧ xi ((JU X).fin a).t.y 2 = xi a.t.y 2 ∧ xi ((JU X).fin a).t.y 3 = xi a.t.y 3 ∧ xi ((JU X).fin a).t.y 4 = xi a.t.y 4 ∧ xi ((JU X).fin a).t.y 5 = xi a.t.y 5 ∧ xi ((JU X).fin a).t.y 6 = xi a.t.y 6 ∧ xi ((JU X).fin a).t.y 7 = xi a.t.y 7 ∧ xi ((JU X).fin a).t.y 8 = xi a.t.y 8 ∧ xi ((JU X).fin a).t.y 9 = xi a.t.y 9 ∧ xi ((JU X).fin a).t.y 10 = xi a.t.y 10 ∧ xi ((JU X).fin a).t.y 11 = xi a.t.y 11 ∧ xi ((JU X).fin a).t.y 12 = xi a.t.y 12 ∧ xb ((JU X).fin a).t.y 13 = xb a.t.y 13 ∧ xi ((JU X).fin a).t.y 14 = xi a.t.y 14 ∧ xb ((JU X).fin a).t.y 15 = xb a.t.y 15 ∧ xi ((JU X).fin a).t.y 16 = xi a.t.y 16 ∧ xi ((JU X).fin a).t.y 17 = xi a.t.y 17 ∧ xi ((JU X).fin a).t.y 18 = xi a.t.y 18 ∧ xi ((JU X).fin a).t.y 19 = xi a.t.y 19 ∧ xi ((JU X).fin a).t.y 20 = xi a.t.y 20 ∧ xb ((JU X).fin a).t.y 21 = xb a.t.y 21 ∧ ((JU X).fin a).t.st0 = a.t.st0 ∧ ((JU X).fin a).t.st1 = a.t.st1 ∧ ((JU X).fin a).t.tr = a.t.tr ∧ ((JU X).fin a).t.pn0 = a.t.pn0 ∧ ((JU X).fin a).t.pn1 = a.t.pn1 ∧ ((JU X).fin a).t.C = a.t.C ∧ xi ((JU X).fin a).s.l 0 = xi a.s.l 0 ∧ xi ((JU X).fin a).s.l 1 = xi a.s.l 1 ∧ xi ((JU X).fin a).s.l 2 = xi a.s.l 2 ∧ xi ((JU X).fin a).s.l 3 = xi a.s.l 3 ∧ xi ((JU X).fin a).s.l 4 = xi a.s.l 4 ∧ xi ((JU X).fin a).s.l 5 = xi a.s.l 5 ∧ xi ((JU X).fin a).s.l 6 = xi a.s.l 6 ∧ xi ((JU X).fin a).s.l 7 = xi a.s.l 7 ∧ xi ((JU X).fin a).s.l 8 = xi a.s.l 8 ∧ xi ((JU X).fin a).s.l 9 = xi a.s.l 9 ∧ xi ((JU X).fin a).s.l 10 = xi a.s.l 10 ∧ xi ((JU X).fin a).s.l 11 = xi a.s.l 11 ∧ xi ((JU X).fin a).s.l 12 = xi a.s.l 12 ∧ xb ((JU X).fin a).s.l 13 = xb a.s.l 13 ∧ xi ((JU X).fin a).s.l 14 = xi a.s.l 14 ∧ xb ((JU X).fin a).s.l 15 = xb a.s.l 15 ∧ xi ((JU X).fin a).s.l 16 = xi a.s.l 16 ∧ xi ((JU X).fin a).s.l 17 = xi a.s.l 17 ∧ xi ((JU X).fin a).s.l 18 = xi a.s.l 18 ∧ xi ((JU X).fin a).s.l 19 = xi a.s.l 19 ∧ xi ((JU X).fin a).s.l 20 = xi a.s.l 20 ∧ xb ((JU X).fin a).s.l 21 = xb a.s.l 21 ∧ xi ((JU X).fin a).s.y 0 = xi a.s.y 0 ∧
 xi ((JU X).fin a).s.y 1 = xi a.s.y 1 ∧ xi ((JU X).fin a).s.y 2 = xi a.s.y 2 ∧ xi ((JU X).fin a).s.y 3 = xi a.s.y 3 ∧ xi ((JU X).fin a).s.y 4 = xi a.s.y 4 ∧ xi ((JU X).fin a).s.y 5 = xi a.s.y 5 ∧ xi ((JU X).fin a).s.y 6 = xi a.s.y 6 ∧ xi ((JU X).fin a).s.y 7 = xi a.s.y 7 ∧ xi ((JU X).fin a).s.y 8 = xi a.s.y 8 ∧ xi ((JU X).fin a).s.y 9 = xi a.s.y 9 ∧ xi ((JU X).fin a).s.y 10 = xi a.s.y 10 ∧ xi ((JU X).fin a).s.y 11 = xi a.s.y 11 ∧ xi ((JU X).fin a).s.y 12 = xi a.s.y 12 ∧ xb ((JU X).fin a).s.y 13 = xb a.s.y 13 ∧ xi ((JU X).fin a).s.y 14 = xi a.s.y 14 ∧ xb ((JU X).fin a).s.y 15 = xb a.s.y 15 ∧ xi ((JU X).fin a).s.y 16 = xi a.s.y 16 ∧ xi ((JU X).fin a).s.y 17 = xi a.s.y 17 ∧ xi ((JU X).fin a).s.y 18 = xi a.s.y 18 ∧ xi ((JU X).fin a).s.y 19 = xi a.s.y 19 ∧ xi ((JU X).fin a).s.y 20 = xi a.s.y 20 ∧ xb ((JU X).fin a).s.y 21 = xb a.s.y 21 ∧ ((JU X).fin a).s.a0 = a.s.a0 ∧ ((JU X).fin a).s.a1 = a.s.a1 ∧ ((JU X).fin a).s.tr = a.s.tr ∧ ((JU X).fin a).s.op = a.s.op ∧ ((JU X).fin a).s.cl = a.s.cl ∧ ((JU X).fin a).s.en = a.s.en ∧ ((JU X).fin a).s.mo = a.s.mo ∧ ((JU X).fin a).s.la0 = a.s.la0 ∧ ((JU X).fin a).s.la1 = a.s.la1 ∧ ((JU X).fin a).s.la2 = a.s.la2 ∧ ((JU X).fin a).s.er = a.s.er ∧ ((JU X).fin a).s.C = a.s.C ∧ ([]:LL) = [])]
end
theorem JqZ (X:LL) (a:TS) (hNeeds:∀ pN ∈ (JXU X a),pN):Q4 (Xh (JU X) (QW Tryz.prog (JB JKP) Wr 15 0) 145 a) :=
  Q4.of (ps := (JXU X a)) (by kernel_rfl) (by kernel_rfl) hNeeds
theorem Jnh (X:LL):Z1 (JU X) (QW Tryz.prog (JB JKP) Wr 15 0) 145 := by
  intro a hJ
  obtain ⟨h1,h2,h3⟩:a.i ≤ X.length ∧ X.length ≤ 1000 ∧ Rel a.s a.t := hJ
  obtain ⟨p1,p2,p3⟩ := JPl (Jbz (X.getD a.i [])) h3
  have e6:IntKind.i64.wrap (Int.ofNat a.i + 1) = Int.ofNat (a.i + 1) := Zy (by simp; omega) (by simp; omega)
  have pp := JQr p3
  refine JqZ X a ?_
  unfold JXU
  simp only [awc,awn,and_true]
  have lt:JhH X a → a.i < X.length := fun h => by unfold JhH at h; simp at h; omega
  have hl := JPe (JX (X.getD a.i [])) a.s h3.C8
  have hc8 := h3.C8
  refine ⟨fun h => ⟨by simp,lt h,lt h,by omega,by omega,by simp,lt h,lt h,fun _ => h3.D8,p2,Nat.le_trans hl (by decide)⟩,fun h => ⟨fun hb _ => ?_,fun hb => ⟨⟨?_,h2,p3⟩,?_,?_,e6.symm,?_⟩⟩,fun h => ?_⟩
  · have hb':(Ye (JX (X.getD a.i [])) a.s != rE (JX (X.getD a.i [])) a.t || QV (XA (JX (X.getD a.i [])) a.s).op (XA (JX (X.getD a.i [])) a.s).er (XA (JX (X.getD a.i [])) a.s).C != QV (rS (JX (X.getD a.i [])) a.t).op (rS (JX (X.getD a.i [])) a.t).er (rS (JX (X.getD a.i [])) a.t).C) = true := hb
    rw [p1,pp,bne_self_eq_false,bne_self_eq_false] at hb'
    exact absurd hb' (by decide)
  · have := lt h
    show a.i + 1 ≤ _; omega
  · have := lt h
    show X.length - (a.i + 1) < X.length - a.i; omega
  · show tlN X (X.length - (a.i + 1)) _ = tlN X (X.length - a.i) a
    rw [Jt4 (lt h)]; rfl
  · repeat' first | refine ⟨by kernel_rfl,?_⟩ | kernel_rfl | exact trivial | refine ⟨trivial,?_⟩
  · have hi:a.i = X.length := by unfold JhH at h; simp at h; omega
    have e:(JU X).fin a = ⟨false,a.s,a.t⟩ := by
      show tlN X (X.length - a.i) a = _
      rw [hi,Nat.sub_self]; rfl
    rw [e]
    refine ⟨fun h => (by cases h),fun _ => ?_⟩
    repeat' first | refine ⟨by kernel_rfl,?_⟩ | kernel_rfl | exact trivial | refine ⟨trivial,?_⟩
def JwG:QG := fun env mem m => match SX.JC mem 0 with
  | some (.row false _ _ (.lst _ _ X)) => zD (JU X) 145 (fun _ _ => some ⟨0,ZU,KF⟩) env mem m
  | _ => none
def JqA:FuncId → Nat → Option QG := JB6 Wr 15 5 JwG
theorem Jbl:Known Tryz.prog (JB JKP) JqA := by
  refine Qf 0 JSH (by kernel_rfl) (Qs fun env mem m x h => ?_)
  unfold JwG at h
  have hlen:(QU Tryz.prog 15).length = 2 := by kernel_rfl
  split at h
  · exact ⟨_,XW (Qc X5 JSH (by omega)) (Jnh _),h⟩
  · cases h
def WO (s:St):St := { s with cl := true,er := YZ s.op s.cl s.er }
def WP (t:Rt):Rt := { t with cl := true,er := YO t.cl t.op t.er }
theorem JgR {s:St} {t:Rt} (R:Rel s t):YZ s.op s.cl s.er = YO t.cl t.op t.er := by
  unfold YZ YO
  rw [← R.er,← R.cl]
  by_cases h:s.er = 0
  · obtain ⟨hop,_⟩ := R.ok h
    rw [← hop]
  · rw [show (s.er == 0) = false by simpa using h,Bool.false_and,Bool.false_and]
theorem JXY {s:St} {t:Rt} (R:Rel s t):Kc s.op s.cl s.er = YO t.cl t.op t.er := by
  have:Kc s.op s.cl s.er = YZ s.op s.cl s.er := JCC _
  rw [this,JgR R]
theorem Jax {s:St} {t:Rt} (R:Rel s t):Rel (WO s) (WP t) :=
  ⟨rfl,JgR R,R.sl,R.sy,R.tl,R.ty,R.C8,R.D8,fun h => by
    have h0:s.er = 0 := by
      have h':YZ s.op s.cl s.er = 0 := h
      unfold YZ at h'
      exact (jv (by decide) h').2
    obtain ⟨a,b,c,d,e,f,O⟩ := R.ok h0
    exact ⟨a,b,c,d,e,f,fun q => ⟨(O q).l,(O q).L,(O q).C,(O q).ci,(O q).h,(O q).z,(O q).e⟩⟩⟩
theorem JY7 (op cl:Bool) (er:Int):Ki op cl er [] = [] := by unfold Ki ZN; cases (bif er == 0 && (cl || op) then (13:Int) else er) != 0 <;> rfl
def Jpe:List GC := [GC.i 12,GC.i 0,GC.i 0,GC.i 0,GC.i 0,GC.i 0,GC.i 0,GC.i 0,GC.i 0,GC.i 0,GC.i 0,GC.i 0,GC.i 0,GC.b false,GC.i 0,GC.b false,GC.i 0,GC.i 0,GC.i 0,GC.i 0,GC.i 0,GC.b false]
theorem JrC {s:St} {t:Rt} (R:Rel s t):(bif Kc s.op s.cl s.er != YO t.cl t.op t.er || QV (WO s).op (WO s).er (WO s).C != QV (WP t).op (WP t).er (WP t).C then false else
    bif Kc (WO s).op (WO s).cl (WO s).er != YO (WP t).cl (WP t).op (WP t).er || QV (WO (WO s)).op (WO (WO s)).er (WO (WO s)).C != QV (WP (WP t)).op (WP (WP t)).er (WP (WP t)).C then false else
    Ye Jpe (WO (WO s)) == rE Jpe (WP (WP t))) = true := by
  have R1 := Jax R
  have R2 := Jax R1
  rw [JXY R,JXY R1,JQr R1,JQr R2,bne_self_eq_false,bne_self_eq_false,bne_self_eq_false,bne_self_eq_false,(JPl (x := Jpe) rfl R2).1]
  exact beq_self_eq_true _
def JIk:Tpl := ⟨[.one (.wh 0)],[(0,.row false 40 22 1 CKi)],2⟩
section
variable (X:LL)
def JK0:Int:=
 YO ((JU X).fin (TS.mk 0 ZU KF)).t.cl ((JU X).fin (TS.mk 0 ZU KF)).t.op ((JU X).fin (TS.mk 0 ZU KF)).t.er
def Wl:Int:=
 YZ ((JU X).fin (TS.mk 0 ZU KF)).s.op ((JU X).fin (TS.mk 0 ZU KF)).s.cl ((JU X).fin (TS.mk 0 ZU KF)).s.er
def jk:Int:=
 YO true ((JU X).fin (TS.mk 0 ZU KF)).t.op (JK0 X)
def Jd7:Int:=
 YZ ((JU X).fin (TS.mk 0 ZU KF)).s.op true (Wl X)
def Jhy:Bool:=
 bif ((JU X).fin (TS.mk 0 ZU KF)).bad then false else bif Kc ((JU X).fin (TS.mk 0 ZU KF)).s.op ((JU X).fin (TS.mk 0 ZU KF)).s.cl ((JU X).fin (TS.mk 0 ZU KF)).s.er != JK0 X || QV ((JU X).fin (TS.mk 0 ZU KF)).s.op (Wl X) ((JU X).fin (TS.mk 0 ZU KF)).s.C != QV ((JU X).fin (TS.mk 0 ZU KF)).t.op (JK0 X) ((JU X).fin (TS.mk 0 ZU KF)).t.C then false else bif Kc ((JU X).fin (TS.mk 0 ZU KF)).s.op true (Wl X) != jk X || QV ((JU X).fin (TS.mk 0 ZU KF)).s.op (Jd7 X) ((JU X).fin (TS.mk 0 ZU KF)).s.C != QV ((JU X).fin (TS.mk 0 ZU KF)).t.op (jk X) ((JU X).fin (TS.mk 0 ZU KF)).t.C then false else Yh [GC.i 12,GC.i 0,GC.i 0,GC.i 0,GC.i 0,GC.i 0,GC.i 0,GC.i 0,GC.i 0,GC.i 0,GC.i 0,GC.i 0,GC.i 0,GC.b false,GC.i 0,GC.b false,GC.i 0,GC.i 0,GC.i 0,GC.i 0,GC.i 0,GC.b false] (J1 ((JU X).fin (TS.mk 0 ZU KF)).s.l) (J1 ((JU X).fin (TS.mk 0 ZU KF)).s.y) ((JU X).fin (TS.mk 0 ZU KF)).s.a0 ((JU X).fin (TS.mk 0 ZU KF)).s.a1 ((JU X).fin (TS.mk 0 ZU KF)).s.tr ((JU X).fin (TS.mk 0 ZU KF)).s.op true ((JU X).fin (TS.mk 0 ZU KF)).s.en ((JU X).fin (TS.mk 0 ZU KF)).s.mo ((JU X).fin (TS.mk 0 ZU KF)).s.la0 ((JU X).fin (TS.mk 0 ZU KF)).s.la1 ((JU X).fin (TS.mk 0 ZU KF)).s.la2 (Jd7 X) ((JU X).fin (TS.mk 0 ZU KF)).s.C == ZA [GC.i 12,GC.i 0,GC.i 0,GC.i 0,GC.i 0,GC.i 0,GC.i 0,GC.i 0,GC.i 0,GC.i 0,GC.i 0,GC.i 0,GC.i 0,GC.b false,GC.i 0,GC.b false,GC.i 0,GC.i 0,GC.i 0,GC.i 0,GC.i 0,GC.b false] true ((JU X).fin (TS.mk 0 ZU KF)).t.op (jk X) ((JU X).fin (TS.mk 0 ZU KF)).t.mo ((JU X).fin (TS.mk 0 ZU KF)).t.en ((JU X).fin (TS.mk 0 ZU KF)).t.la0 ((JU X).fin (TS.mk 0 ZU KF)).t.la1 ((JU X).fin (TS.mk 0 ZU KF)).t.la2 (J1 ((JU X).fin (TS.mk 0 ZU KF)).t.l) ((JU X).fin (TS.mk 0 ZU KF)).t.has (J1 ((JU X).fin (TS.mk 0 ZU KF)).t.y) ((JU X).fin (TS.mk 0 ZU KF)).t.st0 ((JU X).fin (TS.mk 0 ZU KF)).t.st1 ((JU X).fin (TS.mk 0 ZU KF)).t.tr ((JU X).fin (TS.mk 0 ZU KF)).t.C
def JUF:Prop:=
 (Kc ((JU X).fin (TS.mk 0 ZU KF)).s.op ((JU X).fin (TS.mk 0 ZU KF)).s.cl ((JU X).fin (TS.mk 0 ZU KF)).s.er != JK0 X || QV ((JU X).fin (TS.mk 0 ZU KF)).s.op (Wl X) ((JU X).fin (TS.mk 0 ZU KF)).s.C != QV ((JU X).fin (TS.mk 0 ZU KF)).t.op (JK0 X) ((JU X).fin (TS.mk 0 ZU KF)).t.C) = false
def JGo:List Prop:=
 [0 ≤ X.length ∧ X.length ≤ 1000 ∧ YtmbfbhimdkjkoaaGreat.Rel (TS.mk 0 ZU KF).s (TS.mk 0 ZU KF).t,Int.ofNat 0 = 0,false = false,false = false,Int.ofNat 0 = 0,false = false,false = false,Int.ofNat 0 = 0,Int.ofNat 0 = 0,Int.ofNat 0 = 0,Int.ofNat 0 = 0,Int.ofNat 0 = 0,Int.ofNat 0 = 0,Int.ofNat 0 = 0,Int.ofNat 0 = 0,Int.ofNat 0 = 0,Int.ofNat 0 = 0,Int.ofNat 0 = 0,Int.ofNat 0 = 0,Int.ofNat 0 = 0,Int.ofNat 0 = 0,Int.ofNat 0 = 0,Int.ofNat 0 = 0,false = false,Int.ofNat 0 = 0,false = false,Int.ofNat 0 = 0,Int.ofNat 0 = 0,Int.ofNat 0 = 0,Int.ofNat 0 = 0,Int.ofNat 0 = 0,false = false,false = false,Int.ofNat 0 = 0,Int.ofNat 0 = 0,Int.ofNat 0 = 0,Int.ofNat 0 = 0,Int.ofNat 0 = 0,Int.ofNat 0 = 0,Int.ofNat 0 = 0,Int.ofNat 0 = 0,Int.ofNat 0 = 0,Int.ofNat 0 = 0,Int.ofNat 0 = 0,Int.ofNat 0 = 0,Int.ofNat 0 = 0,false = false,Int.ofNat 0 = 0,false = false,Int.ofNat 0 = 0,Int.ofNat 0 = 0,Int.ofNat 0 = 0,Int.ofNat 0 = 0,Int.ofNat 0 = 0,false = false,Int.ofNat 0 = 0,Int.ofNat 0 = 0,false = false,Int.ofNat 0 = 0,Int.ofNat 0 = 0,(TS.mk 0 ZU KF).t.C = [],Int.ofNat 0 = 0,Int.ofNat 0 = 0,Int.ofNat 0 = 0,Int.ofNat 0 = 0,Int.ofNat 0 = 0,Int.ofNat 0 = 0,Int.ofNat 0 = 0,Int.ofNat 0 = 0,Int.ofNat 0 = 0,Int.ofNat 0 = 0,Int.ofNat 0 = 0,Int.ofNat 0 = 0,Int.ofNat 0 = 0,false = false,Int.ofNat 0 = 0,false = false,Int.ofNat 0 = 0,Int.ofNat 0 = 0,Int.ofNat 0 = 0,Int.ofNat 0 = 0,Int.ofNat 0 = 0,false = false,Int.ofNat 0 = 0,Int.ofNat 0 = 0,Int.ofNat 0 = 0,Int.ofNat 0 = 0,Int.ofNat 0 = 0,Int.ofNat 0 = 0,Int.ofNat 0 = 0,Int.ofNat 0 = 0,Int.ofNat 0 = 0,Int.ofNat 0 = 0,Int.ofNat 0 = 0,Int.ofNat 0 = 0,Int.ofNat 0 = 0,false = false,Int.ofNat 0 = 0,false = false,Int.ofNat 0 = 0,Int.ofNat 0 = 0,Int.ofNat 0 = 0,Int.ofNat 0 = 0,Int.ofNat 0 = 0,false = false,Int.ofNat 0 = 0,Int.ofNat 0 = 0,false = false,false = false,false = false,false = false,false = false,Int.ofNat 0 = 0,Int.ofNat 0 = 0,Int.ofNat 0 = 0,Int.ofNat 0 = 0,(TS.mk 0 ZU KF).s.C = [],([]:LL) = [],((JU X).fin (TS.mk 0 ZU KF)).bad = false → Ki ((JU X).fin (TS.mk 0 ZU KF)).s.op ((JU X).fin (TS.mk 0 ZU KF)).s.cl ((JU X).fin (TS.mk 0 ZU KF)).s.er ([]:LL) = [] ∧ (JUF X → Ki ((JU X).fin (TS.mk 0 ZU KF)).s.op true (Wl X) ([]:LL) = []) ∧ (JUF X → (Kc ((JU X).fin (TS.mk 0 ZU KF)).s.op true (Wl X) != jk X || QV ((JU X).fin (TS.mk 0 ZU KF)).s.op (YZ ((JU X).fin (TS.mk 0 ZU KF)).s.op true (Wl X)) ((JU X).fin (TS.mk 0 ZU KF)).s.C != QV ((JU X).fin (TS.mk 0 ZU KF)).t.op (jk X) ((JU X).fin (TS.mk 0 ZU KF)).t.C) = false → ((JU X).fin (TS.mk 0 ZU KF)).s.C.length ≤ 1000 ∧ 0 ≤ 800000 ∧ ((jk X != 0) = false → ((JU X).fin (TS.mk 0 ZU KF)).t.C.length ≤ 8))]
end
theorem JnF (X:LL):(Jhy X) = true := by
  have R:Rel ((JU X).fin (TS.mk 0 ZU KF)).s ((JU X).fin (TS.mk 0 ZU KF)).t := Jdb X (X.length - 0) ⟨0,ZU,KF⟩ Jvc
  have hb:((JU X).fin (TS.mk 0 ZU KF)).bad = false := Jli X (X.length - 0) ⟨0,ZU,KF⟩
  unfold Jhy jk Jd7 JK0 Wl
  rw [hb,cond_false]
  exact JrC R
theorem Jp5 {X:LL} (hW:∀ q ∈ ([X.length ≤ 1000]:List Prop),q):∀ q ∈ (JGo X),q := by
  simp only [awc,awn,and_true] at hW
  unfold JGo
  simp only [awc,awn,and_true]
  have R:Rel ((JU X).fin (TS.mk 0 ZU KF)).s ((JU X).fin (TS.mk 0 ZU KF)).t := Jdb X (X.length - 0) ⟨0,ZU,KF⟩ Jvc
  have h8 := R.C8
  have k:((JU X).fin (TS.mk 0 ZU KF)).bad = false →
     Ki ((JU X).fin (TS.mk 0 ZU KF)).s.op ((JU X).fin (TS.mk 0 ZU KF)).s.cl ((JU X).fin (TS.mk 0 ZU KF)).s.er [] = [] ∧ (JUF X → Ki ((JU X).fin (TS.mk 0 ZU KF)).s.op true (Wl X) [] = []) ∧
     (JUF X → (Kc ((JU X).fin (TS.mk 0 ZU KF)).s.op true (Wl X) != jk X || QV ((JU X).fin (TS.mk 0 ZU KF)).s.op (YZ ((JU X).fin (TS.mk 0 ZU KF)).s.op true (Wl X)) ((JU X).fin (TS.mk 0 ZU KF)).s.C != QV ((JU X).fin (TS.mk 0 ZU KF)).t.op (jk X) ((JU X).fin (TS.mk 0 ZU KF)).t.C) = false →
       ((JU X).fin (TS.mk 0 ZU KF)).s.C.length ≤ 1000 ∧ 0 ≤ 800000 ∧ ((jk X != 0) = false → ((JU X).fin (TS.mk 0 ZU KF)).t.C.length ≤ 8)) :=
    fun _ => ⟨JY7 ..,fun _ => JY7 ..,fun _ _ => ⟨by omega,by decide,fun _ => R.D8⟩⟩
  refine ⟨⟨Nat.zero_le _,hW,Jvc⟩,?_⟩
  repeat' first | exact k | refine ⟨by kernel_rfl,?_⟩ | kernel_rfl | exact trivial | refine ⟨trivial,?_⟩
theorem Jor (X:LL) (hNeeds:∀ pN ∈ (JGo X),pN):Runs (Jr (JB JKP) JqA 15) (JIk.args []) (JIk.memo [] [X]) JIk.n (SV.one (Cb (Jhy X))) ([]) :=
  Runs.of1 (ps := (JGo X)) (by kernel_rfl) hNeeds
def JZP:List Pm → Qm → Option CRes
  | [],[X] => some ⟨SV.one (SC.bool (SB.c true)),[],[X.length ≤ 1000],[],185165⟩
  | _,_ => none
theorem Ju9:Qg Tryz.prog 15 (JS JIk JZP) := by
  refine JH (JD Jbl 15) fun ps ls r hr hn _ => ?_
  unfold JZP at hr
  split at hr
  · cases hr; exact ⟨_,Jor _ (Jp5 (by exact hn)),fun _ => by simp only [SV.den,SC.den,SB.val,Cb,JnF]⟩
  · cases hr
def Jpq:List (Nat × JY) := (15,JS JIk JZP) :: JKP
theorem JkY:Known Tryz.prog (JB Jpq) JqA := J7 Jbl Ju9
def JZ0:List Pm → Qm → Option CRes
  | [],[] => some ⟨SV.one (SC.bool (SB.c true)),[],[],[],1018⟩
  | _,_ => none
theorem Jtj:Qg Tryz.prog 8 (JS je JZ0) := by
  refine JH (JD JJS 8) fun ps ls r hr hn _ => ?_
  unfold JZ0 at hr
  split at hr
  · cases hr; exact ⟨_,JZZ (fun p hp => JVS p hp),fun _ => rfl⟩
  · cases hr
def JsT:List (Nat × JY) := (8,JS je JZ0) :: Jpq
theorem JiM:Known Tryz.prog (JB JsT) JqA := J7 JkY Jtj
def jW:Tpl := ⟨[.one (.wh 0)],[(0,.row true 3 1 1 [.int .i64])],2⟩
def JDD (L:LL):List Prop :=
 [(!JNe L) = false → Int.ofNat 0 ≤ 0 ∧ L.length ≤ 1000000 ∧ (Jbi 0 L).length ≤ 1000]
theorem Jkt {L:LL}:∀ q ∈ (JDD L),q := by
  intro q hq
  unfold JDD at hq
  simp only [List.mem_cons,List.not_mem_nil,or_false] at hq
  subst hq
  intro hl
  have hl' := Jn3 (L := L) (by simpa using hl)
  have := (Jok 0 L).2
  exact ⟨by decide,by omega,by omega⟩
theorem Jkg (L:LL) (hNeeds:∀ pN ∈ (JDD L),pN):Runs (Jr (JB JsT) JqA 4) (jW.args []) (jW.memo [] [L]) jW.n (SV.one (SC.bool (SB.c true))) ([(0,Obj.row true 3 1 (RowC.lst 1 [CK.int IntKind.i64] L))]) :=
  Runs.of1 (ps := (JDD L)) (by kernel_rfl) hNeeds
end
end Go.Proofs.YtmbfbhimdkjkoaaGreat
namespace Go.SX
noncomputable section
open Go.RowKit Go.WideElems Go.ChangeShapes
def flatFs (P:Program) (rec':TypeId → Option (List CK)):List Field → Nat → Option (List CK)
  | [],_ => some []
  | f :: r,o => match rec' f.type with
    | some ks => bif Nat.beq f.offset o && Nat.beq ks.length (P.cellsOf f.type) then (flatFs P rec' r (o + ks.length)).map (ks ++ ·) else none
    | none => none
def JII (P:Program):Nat → TypeId → Option (List CK)
  | 0,_ => none
  | d + 1,t => match P.underlying t with
    | some .bool => some [.bool]
    | some (.int k) => some [.int k]
    | some (.struct fs) => match flatFs P (JII P d) fs.toList 0 with
      | some ks => bif Nat.beq ks.length (P.cellsOf t) then some ks else none
      | none => none
    | _ => none
def okV:CK → Value → Prop
  | .int k,v => ∃ n,v = .int k n
  | .bool,v => ∃ b,v = .bool b
def okL:List CK → List Value → Prop
  | [],[] => True
  | k :: ks,v :: vs => okV k v ∧ okL ks vs
  | _,_ => False
theorem JYh:∀ {ks js:List CK} {vs ws:List Value},okL ks vs → okL js ws → okL (ks ++ js) (vs ++ ws)
  | [],_,[],_,_,h => h
  | [],_,_ :: _,_,h,_ => h.elim
  | _ :: _,_,[],_,h,_ => h.elim
  | _ :: _,_,_ :: _,_,h,k => ⟨h.1,JYh h.2 k⟩
section
variable {H:Type} {enc:TypeId × Value → H} {P:Program} {w:World} {base:Nat} {spare:Nat → Bool} {held:Bool}
theorem Jjh (l:List Value) (o a b:Nat):(l.drop o).take (a + b) = (l.drop o).take a ++ (l.drop (o + a)).take b := by
  rw [List.take_add,List.drop_drop]
theorem Jbu {rec':TypeId → Option (List CK)} {n:Nat} {cs:List Value} (hrec:∀ t ks ds x,rec' t = some ks → DataW.trod enc P w base spare held n t ds = some x → okL ks ds) :
    ∀ {fs:List Field} {o:Nat} {ks:List CK},flatFs P rec' fs o = some ks → (∀ f ∈ fs,∃ x,DataW.trod enc P w base spare held n f.type ((cs.drop f.offset).take (P.cellsOf f.type)) = some x) → okL ks ((cs.drop o).take ks.length)
  | [],o,ks,h,_ => by cases h; simp [okL]
  | f :: r,o,ks,h,hx => by
    simp only [flatFs] at h
    split at h
    · rename_i k1 h1
      cases hb:(Nat.beq f.offset o && Nat.beq k1.length (P.cellsOf f.type))
      · rw [hb] at h; cases h
      rw [hb] at h
      simp only [Bool.and_eq_true] at hb
      have e1 := Nat.eq_of_beq_eq_true hb.1
      have e2 := Nat.eq_of_beq_eq_true hb.2
      simp only [cond_true,Option.map_eq_some_iff] at h
      obtain ⟨k2,h2,rfl⟩ := h
      obtain ⟨x,hx1⟩ := hx f (by simp)
      have q1 := hrec _ _ _ _ h1 hx1
      rw [e1,← e2] at q1
      have q2 := Jbu hrec h2 (fun g hg => hx g (by simp [hg]))
      rw [List.length_append,Jjh]
      exact JYh q1 q2
    · cases h
theorem JKW:∀ {d:Nat} {t:TypeId} {ks:List CK},JII P d t = some ks → ∀ {n:Nat} {cs:List Value} {x:DataW H × List MemPlace},DataW.trod enc P w base spare held n t cs = some x → okL ks cs
  | 0,_,_,h,_,_,_,_ => by cases h
  | d + 1,t,ks,h,n,cs,x,hx => by
    simp only [JII] at h
    split at h
    · rename_i hu
      cases h
      obtain ⟨b,rfl,_⟩ := DataW.trod_bool hu hx
      exact ⟨⟨b,rfl⟩,trivial⟩
    · rename_i k hu
      cases h
      obtain ⟨b,rfl,_⟩ := DataW.trod_int hu hx
      exact ⟨⟨b,rfl⟩,trivial⟩
    · rename_i fs hu
      split at h
      · rename_i js hj
        cases hb:Nat.beq js.length (P.cellsOf t)
        · rw [hb] at h; cases h
        rw [hb] at h
        cases h
        have e := Nat.eq_of_beq_eq_true hb
        obtain ⟨xs,m,rfl,_,hlen,hxl,hf⟩ := DataW.trod_struct hu hx
        have := Jbu (P := P) (enc := enc) (w := w) (base := base) (spare := spare) (held := held) (n := m) (cs := cs) (fun t ks ds x h1 h2 => JKW h1 h2) hj (fun f hfm => by
          obtain ⟨i,hi⟩ := List.getElem?_of_mem hfm
          have hi':fs[i]? = some f := by simpa using hi
          have hlt:i < xs.length := by
            rw [hxl]
            exact (Array.getElem?_eq_some_iff.1 hi').1
          exact ⟨xs[i],by rw [hf i f hi',List.getElem?_eq_getElem hlt]⟩)
        simp only [List.drop_zero] at this
        rwa [List.take_of_length_le (by omega)] at this
      · cases h
    · cases h
end
def Jro:CK → PC
  | .int k => .int k
  | .bool => .bool
def JNC:List CK → List Pm → Prop
  | [],[] => True
  | .int _ :: ks,.i _ :: ps => JNC ks ps
  | .bool :: ks,.b _ :: ps => JNC ks ps
  | _,_ => False
theorem JNC.append:∀ {ks js:List CK} {ps qs:List Pm},JNC ks ps → JNC js qs → JNC (ks ++ js) (ps ++ qs)
  | [],_,[],_,_,h => h
  | [],_,_ :: _,_,h,_ => h.elim
  | .int _ :: ks,js,.i _ :: ps,qs,h,k => JNC.append (ks := ks) (js := js) (ps := ps) (qs := qs) h k
  | .bool :: ks,js,.b _ :: ps,qs,h,k => JNC.append (ks := ks) (js := js) (ps := ps) (qs := qs) h k
  | .int _ :: _,_,[],_,h,_ => h.elim
  | .bool :: _,_,[],_,h,_ => h.elim
  | .int _ :: _,_,.b _ :: _,_,h,_ => h.elim
  | .bool :: _,_,.i _ :: _,_,h,_ => h.elim
theorem Jvo {ps:List Pm} (h:JNC [] ps):ps = [] := by cases ps with | nil => rfl | cons => exact h.elim
theorem Jcp:∀ {ks:List CK} {vs:List Value},okL ks vs → ∃ ps,JNC ks ps ∧ ∀ rest,∃ xs,Jad (ks.map Jro) (ps ++ rest) = (xs,rest) ∧ (∀ θ,JK θ xs = vs) ∧ Qo xs = []
  | [],[],_ => ⟨[],trivial,fun rest => ⟨[],rfl,fun _ => rfl,rfl⟩⟩
  | [],_ :: _,h => h.elim
  | _ :: _,[],h => h.elim
  | .int k :: ks,v :: vs,h => by
    obtain ⟨⟨n,rfl⟩,h2⟩ := h
    obtain ⟨ps,h3,h4⟩ := Jcp h2
    refine ⟨.i n :: ps,h3,fun rest => ?_⟩
    obtain ⟨xs,h5,h6,h7⟩ := h4 rest
    refine ⟨.int k (.v n) :: xs,?_,fun θ => ?_,by rw [Ju,h7]; rfl⟩
    · simp only [List.map_cons,Jro,Jad,List.cons_append,PC.mk,h5]
    · have := h6 θ
      simp only [JK,List.map_cons] at this ⊢
      rw [this]; rfl
  | .bool :: ks,v :: vs,h => by
    obtain ⟨⟨n,rfl⟩,h2⟩ := h
    obtain ⟨ps,h3,h4⟩ := Jcp h2
    refine ⟨.b n :: ps,h3,fun rest => ?_⟩
    obtain ⟨xs,h5,h6,h7⟩ := h4 rest
    refine ⟨.bool (.v n) :: xs,?_,fun θ => ?_,by rw [Ju,h7]; rfl⟩
    · simp only [List.map_cons,Jro,Jad,List.cons_append,PC.mk,h5]
    · have := h6 θ
      simp only [JK,List.map_cons] at this ⊢
      rw [this]; rfl
theorem JYT:∀ {ks:List CK} {vs:List Value},okL ks vs → ∃ xs:List Int,xs.length = ks.length ∧ ∀ (pre:List Int) θ,JK θ (Kv ks (pre ++ xs) pre.length) = vs
  | [],[],_ => ⟨[],rfl,fun _ _ => rfl⟩
  | [],_ :: _,h => h.elim
  | _ :: _,[],h => h.elim
  | .int k :: ks,v :: vs,h => by
    obtain ⟨⟨n,rfl⟩,h2⟩ := h
    obtain ⟨xs,h3,h4⟩ := JYT h2
    refine ⟨n :: xs,by simp [h3],fun pre θ => ?_⟩
    have := h4 (pre ++ [n]) θ
    simp only [List.append_assoc,List.singleton_append,List.length_append,List.length_cons,List.length_nil,Nat.zero_add] at this
    simp only [Kv,JK,List.map_cons] at this ⊢
    rw [this]
    simp [CK.cell,SC.den,SI.val,List.getD]
  | .bool :: ks,v :: vs,h => by
    obtain ⟨⟨b,rfl⟩,h2⟩ := h
    obtain ⟨xs,h3,h4⟩ := JYT h2
    refine ⟨(bif b then 1 else 0) :: xs,by simp [h3],fun pre θ => ?_⟩
    have := h4 (pre ++ [bif b then 1 else 0]) θ
    simp only [List.append_assoc,List.singleton_append,List.length_append,List.length_cons,List.length_nil,Nat.zero_add] at this
    simp only [Kv,JK,List.map_cons] at this ⊢
    rw [this]
    cases b <;> simp [CK.cell,SC.den,SB.val,List.getD]
inductive PS where
  | agg (ks:List CK) | one (k:CK) | row (e:TypeId) (ks:List CK)
def Jh8:List PS → Nat → List PV
  | [],_ => []
  | .agg ks :: r,id => .agg (ks.map Jro) :: Jh8 r id
  | .one k :: r,id => .one (Jro k) :: Jh8 r id
  | .row _ _ :: r,id => .one (.wh id) :: Jh8 r (id + 1)
def psK:List PS → List CK
  | [] => []
  | .agg ks :: r => ks ++ psK r
  | .one k :: r => k :: psK r
  | .row _ _ :: r => psK r
def psR:List PS → Nat
  | [] => 0
  | .row _ _ :: r => psR r + 1
  | _ :: r => psR r
def Jbj:List PS → Nat → Nat → Qm → Jn
  | [],_,_,_ => []
  | .agg _ :: r,id,t,ls => Jbj r id t ls
  | .one _ :: r,id,t,ls => Jbj r id t ls
  | .row e ks :: r,id,t,xs :: ls => (id,.row true e ks.length (.lst t ks xs)) :: Jbj r (id + 1) (t + 1) ls
  | .row _ _ :: _,_,_,[] => []
def Jm5 (P:Program):PS → TypeId → Bool
  | .agg ks,t => (match P.underlying t with | some (.struct _) => true | _ => false) && (match JII P 20 t with | some js => W3 ks js | none => false)
  | .one k,t => (match P.underlying t with | some (.int j) => JW2 k (.int j) | some .bool => JW2 k .bool | _ => false)
  | .row e ks,t => (match P.underlying t with | some (.slice u) => Nat.beq e u | _ => false) && ((match JII P 20 e with | some js => W3 ks js | none => false) && (Nat.beq ks.length (P.cellsOf e) && Nat.blt 0 ks.length))
def Jvv (P:Program):List PS → List TypeId → Bool
  | [],[] => true
  | s :: r,t :: ts => Jm5 P s t && Jvv P r ts
  | _,_ => false
section
variable {H:Type} {enc:TypeId × Value → H} {P:Program} {w:World}
theorem JbK {v:Value} (h:∀ cs,v ≠ .agg cs):v.cells.toList = [v] := by cases v <;> first | rfl | exact absurd rfl (h _)
theorem Jso {t e:TypeId} {ks:List CK} {n:Nat} {v:Value} {x:DataW H × List MemPlace} (hu:P.underlying t = some (.slice e)) (hf:JII P 20 e = some ks) (hc:ks.length = P.cellsOf e) (hpos:0 < ks.length)
    (h:DataW.trod enc P w 0 (fun _ => true) true n t v.cells.toList = some x) (hv:∀ cs,v ≠ .agg cs) :
    ∃ (xs:List (List Int)) (l:Loc),v = .slice l.ad l.len l.cap ∧ Z5 ks.length (xs.map (Qv ks)) ∧ ∀ θ:Th,JQ2 l w xs.length (JK θ (xs.map (Qv ks)).flatten) := by
  rw [JbK hv] at h
  rcases DataW.trod_slice hu h with ⟨h0,_⟩ | ⟨a,len,cap,elems,rest,m,_,h1,_,_,hle,_,hlen,hel,_⟩
  · simp only [List.cons.injEq,and_true] at h0
    subst h0
    exact ⟨[],Loc.none,rfl,⟨hpos,fun _ h => by cases h⟩,fun θ => ⟨rfl,rfl,Nat.le_refl _,.inl ⟨rfl,rfl,rfl⟩⟩⟩
  · simp only [List.cons.injEq,and_true] at h1
    subst h1
    have each:∀ i,i < len → ∃ zs:List Int,zs.length = ks.length ∧ ∀ (θ:Th) (j:Nat) (u:Value),(JK θ (Qv ks zs))[j]? = some u → w.cell? (a.add (i * ks.length + j)) = some u := by
      intro i hi
      have h2 := hel i hi
      rw [List.getElem?_eq_getElem (by omega)] at h2
      obtain ⟨cs,h3,h4⟩ := Option.bind_eq_some_iff.1 h2
      obtain ⟨_,h5,h6⟩ := World.cells?_some h3
      obtain ⟨zs,h7,h8⟩ := JYT (JKW hf h4)
      refine ⟨zs,h7,fun θ j u hu => ?_⟩
      have h9 := h8 [] θ
      simp only [List.nil_append,List.length_nil] at h9
      rw [Qv,h9] at hu
      have hj:j < cs.length := (List.getElem?_eq_some_iff.1 hu).1
      have := h6 j (by omega)
      rw [hu,← hc] at this
      rw [← this,Addr.add_add]
    obtain ⟨xs,hx1,hx2⟩:∃ xs:List (List Int),xs.length = len ∧ ∀ i zs,xs[i]? = some zs → zs.length = ks.length ∧ ∀ (θ:Th) (j:Nat) (u:Value),(JK θ (Qv ks zs))[j]? = some u → w.cell? (a.add (i * ks.length + j)) = some u := by
      have:∀ m,m ≤ len → ∃ xs:List (List Int),xs.length = m ∧ ∀ i zs,xs[i]? = some zs → zs.length = ks.length ∧ ∀ (θ:Th) (j:Nat) (u:Value),(JK θ (Qv ks zs))[j]? = some u → w.cell? (a.add (i * ks.length + j)) = some u := by
        intro m
        induction m with
        | zero => exact fun _ => ⟨[],rfl,fun i zs h => by simp at h⟩
        | succ m ih =>
          intro hm
          obtain ⟨xs,h2,h3⟩ := ih (by omega)
          obtain ⟨zs,h4,h5⟩ := each m (by omega)
          refine ⟨xs ++ [zs],by simp [h2],fun i ys hi => ?_⟩
          by_cases him:i < m
          · rw [List.getElem?_append_left (by omega)] at hi
            exact h3 i ys hi
          · have hlt := (List.getElem?_eq_some_iff.1 hi).1
            simp at hlt
            have:i = m := by omega
            subst this
            rw [List.getElem?_append_right (by omega)] at hi
            simp [h2] at hi
            subst hi
            exact ⟨h4,h5⟩
      exact this len (Nat.le_refl _)
    have hrow:Z5 ks.length (xs.map (Qv ks)) := ⟨hpos,fun r hr => by
      obtain ⟨zs,_,rfl⟩ := List.mem_map.1 hr
      exact ⟨by rw [Qv,ZV],WV _ _ _⟩⟩
    have flat:∀ (θ:Th) (ys:List (List Int)) (b:Nat),(∀ i zs,ys[i]? = some zs → ∀ (j:Nat) (u:Value),(JK θ (Qv ks zs))[j]? = some u → w.cell? (a.add ((b + i) * ks.length + j)) = some u) → ∀ (j:Nat) (u:Value),(JK θ (ys.map (Qv ks)).flatten)[j]? = some u → w.cell? (a.add (b * ks.length + j)) = some u := by
      intro θ ys
      induction ys with
      | nil => intro b _ j u h; simp [JK] at h
      | cons z ys ih =>
        intro b hz j u hj
        simp only [List.map_cons,List.flatten_cons,JK,List.map_append] at hj
        have hdl:(List.map (SC.den θ) (Qv ks z)).length = ks.length := by rw [List.length_map,Qv,ZV]
        by_cases hlt:j < ks.length
        · rw [List.getElem?_append_left (by omega)] at hj
          exact hz 0 z rfl j u hj
        · rw [List.getElem?_append_right (by omega),hdl] at hj
          have := ih (b + 1) (fun i zs hi j u hj => by
            have := hz (i + 1) zs (by simpa using hi) j u hj
            rwa [show b + (i + 1) = b + 1 + i from by omega] at this) (j - ks.length) u hj
          rw [← this]
          congr 2
          rw [Nat.add_mul,Nat.one_mul]; omega
    by_cases hl0:len = 0
    · subst hl0
      have:xs = [] := List.length_eq_zero_iff.1 hx1
      subst this
      exact ⟨[],⟨.none,.none,some a,0,cap,#[]⟩,rfl,hrow,fun θ => ⟨rfl,rfl,Nat.zero_le _,.inl ⟨rfl,rfl,rfl⟩⟩⟩
    · refine ⟨xs,⟨.none,some a.block,some a,len,cap,#[]⟩,rfl,hrow,fun θ => ⟨rfl,hx1.symm,by rw [hx1]; exact hle,.inr ⟨a,rfl,rfl,?_,fun j u hj => ?_⟩⟩⟩
      · intro h0
        have := congrArg List.length h0
        obtain ⟨z,zs,rfl⟩:∃ z zs,xs = z :: zs := by
          cases xs with
          | nil => exact absurd hx1 (fun h => hl0 h.symm)
          | cons z zs => exact ⟨z,zs,rfl⟩
        simp only [JK,List.map_cons,List.flatten_cons,List.map_append,List.length_append,List.length_map,Qv,ZV,List.length_nil] at this
        omega
      · have := flat θ xs 0 (fun i zs hi j u hj => by
          have := (hx2 i zs hi).2 θ j u hj
          simpa using this) j u hj
        simpa using this
theorem Jb3 {b0:Nat}:∀ {pss:List PS} {ts:List TypeId} {vs:List Value} {ds:List (DataW H)} {p:List MemPlace},Jvv P pss ts = true → DataW.TrodAll enc P w 0 (fun _ => true) true ts vs ds p →
    (∀ (j:Nat) t v,ts[j]? = some t → vs[j]? = some v → Value.okWide P w .any b0 t v) →
    ∃ (ps:List Pm) (ls:Qm) (locs:List Loc),JNC (psK pss) ps ∧ ls.length = psR pss ∧ locs.length = psR pss ∧
      ∀ (id:Nat) (θ:Th),(∀ i l,locs[i]? = some l → θ (id + i) = l) → (∀ rest,∃ A,JQf (Jh8 pss id) (ps ++ rest) = (A,rest) ∧ A.map (SV.den θ) = vs ∧ (∀ i ∈ Qd A,i < id + psR pss)) ∧
        ∀ t i o,JC (Jbj pss id t ls) i = some o → QC θ w i o ∧ (θ i).blk = none ∧ id ≤ i ∧ i < id + psR pss ∧ Xz o = []
  | [],[],vs,ds,p,_,h,_ => by
    obtain ⟨rfl,_,_⟩ := trodAll_nil h
    exact ⟨[],[],[],trivial,rfl,rfl,fun id θ _ => ⟨fun rest => ⟨[],rfl,rfl,fun _ h => by cases h⟩,fun t i o h => by cases h⟩⟩
  | [],_ :: _,_,_,_,h,_,_ => by cases h
  | _ :: _,[],_,_,_,h,_,_ => by cases h
  | s :: r,t :: ts,vs,ds,p,hok,h,hw => by
    obtain ⟨v,vs',d,ds',p1,p2,rfl,rfl,rfl,⟨n,h1⟩,h2⟩ := trodAll_cons h
    simp only [Jvv,Bool.and_eq_true] at hok
    obtain ⟨ps,ls,locs,q1,q2,q3,q4⟩ := Jb3 hok.2 h2 (fun j t v hj hv => hw (j + 1) t v (by simpa using hj) (by simpa using hv))
    have hv := hw 0 t v rfl rfl
    have hok1 := hok.1
    cases s with
    | agg ks =>
      simp only [Jm5,Bool.and_eq_true] at hok1
      obtain ⟨k1,k2⟩ := hok1
      have hst:∃ fs,P.underlying t = some (.struct fs) := by
        split at k1
        · exact ⟨_,by assumption⟩
        · cases k1
      obtain ⟨fs,hst⟩ := hst
      have hfl:JII P 20 t = some ks := by
        split at k2
        · rename_i js hj; rw [hj,K3 k2]
        · cases k2
      unfold Value.okWide at hv
      rw [hst] at hv
      obtain ⟨cs,rfl,_⟩ := hv
      obtain ⟨qs,m1,m2⟩ := Jcp (JKW hfl h1)
      refine ⟨qs ++ ps,ls,locs,JNC.append m1 q1,q2,q3,fun id θ hθ => ?_⟩
      obtain ⟨z1,z2⟩ := q4 id θ hθ
      refine ⟨fun rest => ?_,fun t i o ho => z2 t i o ho⟩
      obtain ⟨xs,e1,e2,e3⟩ := m2 (ps ++ rest)
      obtain ⟨A,e4,e5,e6⟩ := z1 rest
      refine ⟨.agg xs :: A,by simp only [Jh8,JQf,PV.mk,List.append_assoc,e1,e4],?_,fun i hi => ?_⟩
      · simp only [List.map_cons,e5,SV.den,e2 θ]
        simp [Value.cells]
      · simp only [Qd,ZY,e3,List.nil_append] at hi
        exact e6 i hi
    | one k =>
      simp only [Jm5] at hok1
      have hone:(∀ cs,v ≠ .agg cs) ∧ JII P 20 t = some [k] := by
        unfold Value.okWide Cell.okWide Cell.ok at hv
        split at hok1
        · rename_i j hu
          rw [hu] at hv
          refine ⟨fun cs hc => ?_,?_⟩
          · subst hc; exact hv.elim
          · simp only [JII,hu]; rw [JQ1 hok1]
        · rename_i hu
          rw [hu] at hv
          refine ⟨fun cs hc => ?_,?_⟩
          · subst hc; exact hv.elim
          · simp only [JII,hu]; rw [JQ1 hok1]
        · cases hok1
      obtain ⟨ho1,hfl⟩ := hone
      rw [JbK ho1] at h1
      obtain ⟨qs,m1,m2⟩ := Jcp (JKW hfl h1)
      refine ⟨qs ++ ps,ls,locs,JNC.append (ks := [k]) m1 q1,q2,q3,fun id θ hθ => ?_⟩
      obtain ⟨z1,z2⟩ := q4 id θ hθ
      refine ⟨fun rest => ?_,fun t i o ho => z2 t i o ho⟩
      obtain ⟨xs,e1,e2,e3⟩ := m2 (ps ++ rest)
      obtain ⟨A,e4,e5,e6⟩ := z1 rest
      have e7 := e2 θ
      have hxl:∃ c,xs = [c] := by
        have := congrArg List.length e7
        simp [JK] at this
        match xs,this with
        | [c],_ => exact ⟨c,rfl⟩
      obtain ⟨c,rfl⟩ := hxl
      simp only [List.map_cons,List.map_nil,Jad,Prod.mk.injEq,List.cons.injEq,and_true] at e1
      refine ⟨.one c :: A,?_,?_,fun i hi => ?_⟩
      · simp only [Jh8,JQf,PV.mk,List.append_assoc,e1.1,e1.2,e4]
      · simp only [JK,List.map_cons,List.map_nil,List.cons.injEq,and_true] at e7
        simp only [List.map_cons,e5,SV.den,e7]
      · simp only [Qd,ZY,List.mem_append] at hi
        rcases hi with hi | hi
        · rw [Ju] at e3
          simp [List.append_eq_nil_iff] at e3
          rw [e3.1] at hi; cases hi
        · exact e6 i hi
    | row e ks =>
      simp only [Jm5,Bool.and_eq_true] at hok1
      obtain ⟨k1,k2,k3,k4⟩ := hok1
      have hst:P.underlying t = some (.slice e) := by
        split at k1
        · rename_i u hu; rw [hu,Nat.eq_of_beq_eq_true k1]
        · cases k1
      have hfl:JII P 20 e = some ks := by
        split at k2
        · rename_i js hj; rw [hj,K3 k2]
        · cases k2
      have hna:∀ cs,v ≠ .agg cs := fun cs hc => by
        unfold Value.okWide Cell.okWide Cell.ok at hv
        rw [hst] at hv
        subst hc; exact hv.elim
      obtain ⟨xs,l,m1,m2,m3⟩ := Jso hst hfl (Nat.eq_of_beq_eq_true k3) (by rwa [Nat.blt_eq] at k4) h1 hna
      refine ⟨ps,xs :: ls,l :: locs,q1,by simp [psR,q2],by simp [psR,q3],fun id θ hθ => ?_⟩
      have hl:θ id = l := hθ 0 l rfl
      obtain ⟨z1,z2⟩ := q4 (id + 1) θ (fun i l hi => by
        have := hθ (i + 1) l (by simpa using hi)
        rwa [show id + (i + 1) = id + 1 + i from by omega] at this)
      refine ⟨fun rest => ?_,fun t i o ho => ?_⟩
      · obtain ⟨A,e4,e5,e6⟩ := z1 rest
        refine ⟨.one (.wh id) :: A,by simp only [Jh8,JQf,PV.mk,PC.mk,e4],?_,fun i hi => ?_⟩
        · simp only [List.map_cons,e5,SV.den,SC.den,hl,m1]
        · simp only [Qd,ZY,Wn,List.singleton_append,List.mem_cons] at hi
          simp only [psR]
          rcases hi with rfl | hi
          · omega
          · have := e6 i hi; omega
      · simp only [Jbj,JT] at ho
        cases hb:Nat.beq id i
        · rw [hb] at ho
          obtain ⟨y1,y2,y3,y4,y5⟩ := z2 (t + 1) i o ho
          simp only [psR]
          exact ⟨y1,y2,by omega,by omega,y5⟩
        · rw [hb] at ho
          cases ho
          have := Nat.eq_of_beq_eq_true hb; subst this
          simp only [psR]
          refine ⟨⟨m2,?_⟩,by rw [hl]; exact (m3 θ).1,Nat.le_refl _,by omega,rfl⟩
          rw [hl]
          simpa [RowC.rows] using m3 θ
theorem Jbv (hl:laidOutB P = true) {W W':World} (hb:Below W.heap.size W W'):∀ {ts:List TypeId} {vs:List Value} {ds:List (DataW H)} {ps:List MemPlace},
    (ts.all fun t => P.readableRec t && decide (t < P.types.size)) = true → DataW.TrodAll enc P W 0 (fun _ => true) true ts vs ds ps → (∀ x ∈ ps,x.block < W.heap.size) → DataW.TrodAll enc P W' 0 (fun b => decide (b < W.heap.size)) true ts vs ds ps
  | [],vs,ds,ps,_,h,_ => by
    obtain ⟨rfl,rfl,rfl⟩ := trodAll_nil h
    rfl
  | t :: ts,vs,ds,ps,hr,h,hp => by
    obtain ⟨v,vs',d,ds',p1,p2,rfl,rfl,rfl,⟨n,h1⟩,h2⟩ := trodAll_cons h
    simp only [List.all_cons,Bool.and_eq_true,decide_eq_true_eq] at hr
    exact ⟨p1,p2,⟨n,DataW.trod_stays (kids_book hl hr.1.1) (book_sized hr.1.1) (fun h => by cases h) ⟨hr.1.2,book_self t⟩ h1 (fun x hx => hb.same (hp x (by simp [hx]))) (fun x hx => by simpa using hp x (by simp [hx]))⟩,
      Jbv hl hb (by simpa using hr.2) h2 (fun x hx => hp x (by simp [hx])),rfl⟩
theorem Below.kept {W W':World} (hb:Below W.heap.size W W') (may:MemPlace → Prop):W.keptBut W' may := by
  refine ⟨hb.os,hb.output,fun i hi => ?_⟩
  rw [hb.block i hi]
  cases h:W.heap[i]? with
  | none => rfl
  | some o => cases o <;> simp
theorem Js3 {f:Func} {s:ChangeSpec} {W W':World} {args:Array Value} {bt:TypeId} {ds:List (DataW H)} {before p q:List MemPlace} {gs:List (DataW H)} (hvars:s.vars = []) (hbt:P.underlying bt = some .bool) (hres:f.resultTypes = #[bt])
    (hfn:s.fn H (ds ++ []) = { results := [.lit (.bool true)],args := ds }) (hl:laidOutB P = true) (hr:(f.params.toList.all fun t => P.readableRec t && decide (t < P.types.size)) = true)
    (hW:DataW.Whole enc P f.params.toList s.vars false W args.toList ds gs before) (hA:DataW.TrodAll enc P W 0 (fun _ => true) true f.params.toList args.toList ds p) (hV:DataW.TrodVars enc P W (fun _ => true) s.vars gs q) (hpq:before = p ++ q)
    (hb:Below W.heap.size W W'):s.post enc P f false true false false W args (.bool true) W' := by
  rw [hvars] at hV
  obtain ⟨rfl,rfl⟩ := trodVars_none hV
  refine ⟨ds,[],before,[],p,[],hW,?_,?_,?_,Below.kept hb _,fun h => by cases h⟩
  · rw [hfn,hres]
    exact trodAll_mk1 (shut_bool hbt true)
  · rw [hfn]
    exact Jbv hl hb hr hA (fun x hx => hW.lt x (by rw [hpq]; simp [hx]))
  · rw [hfn,hvars]
    rfl
end
theorem Jp0 {P:Program} {f:FuncId} {g:JY} (hg:Qg P f g) {tpl:Tpl} {ps:List Pm} {ls:Qm} {v:SV} {m:Jn} (h:Runs g (tpl.args ps) (tpl.memo ps ls) tpl.n v m) (hv:∀ θ,v.den θ = .bool true)
    {pss:List PS} {P':Program} {w:World} {vs:List Value} {θ:Th} (hA:(tpl.args ps).map (SV.den θ) = vs) (hi:∀ i ∈ Qd (tpl.args ps),i < tpl.n)
    (hM:∀ i o,JC (tpl.memo ps ls) i = some o → QC θ w i o ∧ (θ i).blk = none ∧ i < tpl.n ∧ Xz o = []) (hf:f < 1000000 := by decide) :
    Calls P f vs.toArray w fun e w' => e = .returned (.bool true) ∧ Below w.heap.size w w' := by
  have := Jj5 hg h (fun i o ho => ⟨(hM i o ho).2.2.1,fun j hj => by rw [(hM i o ho).2.2.2] at hj; cases hj⟩) hi (θ := θ) (w := w) ⟨fun i o ho => (hM i o ho).1,fun i i' o o' b ho _ _ hb => by rw [(hM i o ho).2.1] at hb; cases hb⟩ hf
  rw [hA] at this
  refine this.mono fun e w' ⟨θ',h1,h2,_⟩ => ⟨by rw [h1,hv],h2.os,h2.tape,h2.output,h2.size,fun b hb => h2.heap b hb fun i o ho he => ?_⟩
  rw [(hM i o ho).2.1] at he; cases he
end
end Go.SX
namespace Go.Proofs.YtmbfbhimdkjkoaaGreat.cutterPlays
noncomputable section
open Go.SX Go.RowKit Go.ChangeShapes Go.WideShapes Go.ChangeAt
theorem own:ownKnob Tryz.prog.godebug = none := by kernel_rfl
theorem JvK:laidOutB Tryz.prog = true := by kernel_rfl
set_option maxRecDepth 100000 in
theorem JvZ (os:Os) (started:os.Started) (H:Type) (enc:TypeId × Value → H) :
    ReturnsInHanded {} Tryz.checked os 4 .any (Rows.cutterPlaysSpec.pre6 enc Tryz.prog Tryz.f4 Rows.cutterPlaysRow.domain false) (Rows.cutterPlaysSpec.post enc Tryz.prog Tryz.f4 false true false false) := by
  refine returnsInHanded_of_change (C := Tryz.checked) own started (by kernel_rfl) Tryz.func4
    (ChangeSpec.witness6 (enc := enc) (C := Tryz.checked) false ⟨#[],#[.slice none 0 0],[]⟩ 8 (by kernel_rfl) (by kernel_rfl) (by kernel_rfl) (by kernel_rfl)) ?_
  intro W base args ds gs before hval0 hW hcnd _
  have hval:∀ (j:Nat) t v,Tryz.f4.params[j]? = some t → args[j]? = some v → Value.okWide Tryz.prog W .any base t v := hval0
  have hW' := hW
  obtain ⟨p,q,hA0,hV,hpq,_,_⟩ := hW
  have hA:DataW.TrodAll enc Tryz.prog W 0 (fun _ => true) true Tryz.f4.params.toList args.toList ds p := hA0
  have hA1 := hA
  rw [Tryz.params4] at hA1 hval
  obtain ⟨ps,ls,locs,z1,z2,z3,z4⟩ := Jb3 (b0 := base) (pss := [.row 3 [.int .i64]]) (by kernel_rfl) hA1 (fun j t v h1 h2 => hval j t v (by simpa using h1) (by simpa using h2))
  obtain ⟨y1,y2⟩ := z4 0 (fun i => locs.getD i Loc.none) (fun i l h => by simp [List.getD,h])
  obtain ⟨A,a1,a2,a3⟩ := y1 []
  rw [List.append_nil] at a1
  have t0:JNC [] ps := z1
  clear z1
  obtain rfl := Jvo t0
  obtain ⟨L0,rfl⟩:∃ L0,ls = [L0] := by
    match ls,z2 with
    | [L0],_ => exact ⟨_,rfl⟩
  obtain ⟨_,_,d0,_,_,_,_,rfl,_,_,hB0⟩ := trodAll_cons hA1
  obtain ⟨_,rfl,_⟩ := trodAll_nil hB0
  have eA:jW.args [] = A := by
    have:jW.args [] = (JQf (Jh8 [.row 3 [.int .i64]] 0) []).1 := by kernel_rfl
    rw [this,a1]
  have hr:psR [.row 3 [.int .i64]] = 1 := by kernel_rfl
  rw [hr] at a3 y2
  have hn:jW.n = 2 := by kernel_rfl
  have := Jp0 (JD JiM 4) (Jkg _ (fun q hq => Jkt q hq)) (fun _ => rfl) (P' := Tryz.prog) (w := W) (vs := args.toList) (pss := []) (θ := fun i => locs.getD i Loc.none)
    (by rw [eA]; exact a2) (by rw [eA,hn]; intro i hi; have := a3 i hi; omega) (fun i o ho => by
      have e:jW.memo [] [L0] = Jbj [.row 3 [.int .i64]] 0 1 [L0] := by kernel_rfl
      rw [e] at ho
      obtain ⟨w1,w2,_,w4,w5⟩ := y2 1 i o ho
      exact ⟨w1,w2,by rw [hn]; omega,w5⟩)
  rw [Array.toArray_toList] at this
  refine this.mono fun e W' ⟨he,hb⟩ => ?_
  subst he
  exact ⟨_,rfl,Js3 (bt := 4) rfl Tryz.underlying4 (by kernel_rfl) rfl JvK (by kernel_rfl) hW' hA hV hpq hb⟩
theorem holds:Rows.CutterPlaysSaid :=
  OpenClaim.holds_of_wide 4 Tryz.f4 rfl rfl rfl rfl rfl rfl rfl ⟨rfl,rfl,rfl,rfl,rfl⟩ rfl rfl rfl rfl rfl (by kernel_rfl) Tryz.func4 (by kernel_rfl)
    (of_decide_eq_true (by kernel_rfl)) (by unfold Func.isWrapper; first | (rw [if_pos (by decide +kernel)]; kernel_rfl) | (rw [if_neg (by decide +kernel)]; exact ⟨rfl,rfl⟩))
    (fun os started H enc _ => JvZ os started H enc)
#print axioms holds
end
end Go.Proofs.YtmbfbhimdkjkoaaGreat.cutterPlays
