/-
  Texts of one claim, laid together. Conditions: none.
-/
import Derived.Test.YtmbfbhimdkjkoaaGreatM53944372
set_option linter.all false
set_option maxRecDepth 1000000
namespace Go.Proofs.YtmbfbhimdkjkoaaGreat
noncomputable section
open Go.SX Go.RowKit
def d1F (Yn u32 y1 y0 u u0 s:Int):Fam (Int × Int) Unit where
  k := 20
  E p := [(16,ent 1000000000 (.one (U p.2))),(15,ent 1000000001 (.one (U p.1))),(14,ent 90 (.one (U u0))),(13,ent 87 (.one (U u))),(11,ent 80 (.one (U u32))),(10,ent 71 (.one (U y0))),(9,ent 68 (.one (U y1))),(2,ent 65 (.one (U Yn))),(8,ent 61 (.one (U s)))]
  M _ := []
  out _ := .leaf (.exit 0) [(15,ent 102 (.one (U ((u32 * 4294967296 + u) / (y1 * 4294967296 + y0))))),(14,ent 90 (.one (U u0))),(13,ent 87 (.one (U u))),(11,ent 80 (.one (U u32))),(10,ent 71 (.one (U y0))),(9,ent 68 (.one (U y1))),(2,ent 65 (.one (U Yn))),(8,ent 61 (.one (U s)))] []
  fin _ := ()
  next p _ := (p.1 - 1,p.2 + y1)
  J p := AdjOk y1 y0 u32 u p.1 p.2
  μ p := (4294967296 - p.2).toNat
section
variable (Yn u32 y1 y0 u u0 s:Int) (p:Int × Int)
def Jo5:Int:= IntKind.u64.wrap (IntKind.u64.wrap (4294967296 * p.snd) + u)
def Jsp:Int:= IntKind.u64.wrap (p.fst - 1)
def Jw6:Int:= ((d1F Yn u32 y1 y0 u u0 s).next p 1).fst
def JwY:Int:= ((d1F Yn u32 y1 y0 u u0 s).next p 1).snd
def JWF:List Prop:= [(decide (p.fst ≥ 4294967296) || decide (IntKind.u64.wrap (p.fst * y0) > Jo5 u p)) = true → (decide (IntKind.u64.wrap (p.snd + y1) ≥ 4294967296) = true → (u32 * 4294967296 + u) / (y1 * 4294967296 + y0) = Jsp p) ∧ (decide (IntKind.u64.wrap (p.snd + y1) ≥ 4294967296) = false → AdjOk y1 y0 u32 u (Jw6 Yn u32 y1 y0 u u0 s p) (JwY Yn u32 y1 y0 u u0 s p) ∧ (d1F Yn u32 y1 y0 u u0 s).μ ((d1F Yn u32 y1 y0 u u0 s).next p 1) < (d1F Yn u32 y1 y0 u u0 s).μ p ∧ (d1F Yn u32 y1 y0 u u0 s).fin ((d1F Yn u32 y1 y0 u u0 s).next p 1) = (d1F Yn u32 y1 y0 u u0 s).fin p ∧ JwY Yn u32 y1 y0 u u0 s p = IntKind.u64.wrap (p.snd + y1) ∧ Jw6 Yn u32 y1 y0 u u0 s p = Jsp p),(decide (p.fst ≥ 4294967296) || decide (IntKind.u64.wrap (p.fst * y0) > Jo5 u p)) = false → (u32 * 4294967296 + u) / (y1 * 4294967296 + y0) = p.fst]
end
theorem Jrm (Yn u32 y1 y0 u u0 s:Int) (p:Int × Int) (hNeeds:∀ pN ∈ (JWF Yn u32 y1 y0 u u0 s p),pN):Q4 (Xd (d1F Yn u32 y1 y0 u u0 s) (QX Tryz.prog (JC JeW) L0 170 0) 101 p) :=
  Q4.of (ps := (JWF Yn u32 y1 y0 u u0 s p)) (by kernel_rfl) (by kernel_rfl) hNeeds
theorem Jwq {p q:Prop} (hp:p) (hq:q):∀ x ∈ [p,q],x := by
  intro x hx
  rcases List.mem_cons.1 hx with rfl | hx
  · exact hp
  rcases List.mem_cons.1 hx with rfl | hx
  · exact hq
  · cases hx
theorem Jq1 (Yn u32 y1 y0 u u0 s:Int):Qw (d1F Yn u32 y1 y0 u u0 s) (QX Tryz.prog (JC JeW) L0 170 0) 101 := by
  intro p hJ
  have hJ:AdjOk y1 y0 u32 u p.1 p.2 := hJ
  have hf := hJ.fit
  have hq := hJ.ub
  have hr := hJ.hr
  have h1 := hJ.h1
  have hu := hJ.hu
  have q0 := hJ.q0
  have e0:Jo5 u p = 4294967296 * p.2 + u := by
    unfold Jo5
    rw [W2 (x := 4294967296 * p.2) (by omega) (by omega),W2 (by omega) (by omega)]
  have e1:1 ≤ p.1 → Jsp p = p.1 - 1 := fun h => W2 (by omega) (by omega)
  have e2:IntKind.u64.wrap (p.1 * y0) = p.1 * y0 := W2 hf.1 hf.2
  have e3:IntKind.u64.wrap (p.2 + y1) = p.2 + y1 := W2 (by omega) (by omega)
  have hl := JND h1 hJ.h0 hu hJ.hn
  refine Jrm Yn u32 y1 y0 u u0 s p ?_
  unfold JWF
  rw [e0,e2,e3]
  refine Jwq ?_ ?_
  · intro hc
    rw [Bool.or_eq_true,decide_eq_true_eq,decide_eq_true_eq] at hc
    have hb := JNb hJ hc
    refine ⟨fun h => ?_,fun h => ?_⟩
    · rw [decide_eq_true_eq] at h
      rw [e1 (by omega)]
      exact (Jgm hJ hc h).symm
    · rw [decide_eq_false_iff_not] at h
      refine ⟨hJ.next hc (by omega),?_,rfl,rfl,?_⟩
      · show (4294967296 - (p.2 + y1)).toNat < (4294967296 - p.2).toNat
        omega
      · rw [e1 (by omega)]; rfl
  · intro hc
    rw [Bool.or_eq_false_iff,decide_eq_false_iff_not,decide_eq_false_iff_not] at hc
    exact (JXv hJ (by omega)).symm
def d1L:QE := fun env mem m => match Wi env 2,Wi env 11,Wi env 9,Wi env 10,Wi env 13,Wi env 14,Wi env 8,Wi env 15,Wi env 16 with
  | some Yn,some u32,some y1,some y0,some u,some u0,some s,some q,some r => jk (d1F Yn u32 y1 y0 u u0 s) 101 (fun _ _ => some (q,r)) env mem m
  | _,_,_,_,_,_,_,_,_ => none
def Jvu:FuncId → Nat → Option QE := JA9 L0 170 17 d1L
theorem JcH:Known Tryz.prog (JC JeW) Jvu := by
  refine Qe 0 Jht (by kernel_rfl) (Qv fun env mem m x h => ?_)
  unfold d1L at h
  have hlen:(QW Tryz.prog 170).length = 2 := by kernel_rfl
  split at h
  · exact ⟨_,XG (Qc Zz Jht (by omega)) (Jq1 _ _ _ _ _ _ _),h⟩
  · cases h
def d2F (Yn u32 y1 y0 u u0 s:Int):Fam (Int × Int) Unit where
  k := 20
  E p := [(16,ent 1000000000 (.one (U p.2))),(18,ent 1000000001 (.one (U p.1))),(17,ent 129 (.one (U u32))),(15,ent 102 (.one (U u0))),(14,ent 90 (.one (U u))),(10,ent 71 (.one (U y0))),(9,ent 68 (.one (U y1))),(2,ent 65 (.one (U Yn))),(8,ent 61 (.one (U s)))]
  M _ := []
  out _ := .leaf (.exit 2) [(18,ent 141 (.one (U ((u32 * 4294967296 + u) / (y1 * 4294967296 + y0))))),(17,ent 129 (.one (U u32))),(15,ent 102 (.one (U u0))),(14,ent 90 (.one (U u))),(2,ent 65 (.one (U Yn))),(8,ent 61 (.one (U s)))] []
  fin _ := ()
  next p _ := (p.1 - 1,p.2 + y1)
  J p := AdjOk y1 y0 u32 u p.1 p.2
  μ p := (4294967296 - p.2).toNat
section
variable (Yn u32 y1 y0 u u0 s:Int) (p:Int × Int)
def JnQ:Int:= IntKind.u64.wrap (IntKind.u64.wrap (4294967296 * p.snd) + u)
def Jt6:Int:= IntKind.u64.wrap (p.fst - 1)
def Jw7:Int:= ((d2F Yn u32 y1 y0 u u0 s).next p 1).fst
def Jw8:Int:= ((d2F Yn u32 y1 y0 u u0 s).next p 1).snd
def JWf:List Prop:= [(decide (p.fst ≥ 4294967296) || decide (IntKind.u64.wrap (p.fst * y0) > JnQ u p)) = true → (decide (IntKind.u64.wrap (p.snd + y1) ≥ 4294967296) = true → (u32 * 4294967296 + u) / (y1 * 4294967296 + y0) = Jt6 p) ∧ (decide (IntKind.u64.wrap (p.snd + y1) ≥ 4294967296) = false → AdjOk y1 y0 u32 u (Jw7 Yn u32 y1 y0 u u0 s p) (Jw8 Yn u32 y1 y0 u u0 s p) ∧ (d2F Yn u32 y1 y0 u u0 s).μ ((d2F Yn u32 y1 y0 u u0 s).next p 1) < (d2F Yn u32 y1 y0 u u0 s).μ p ∧ (d2F Yn u32 y1 y0 u u0 s).fin ((d2F Yn u32 y1 y0 u u0 s).next p 1) = (d2F Yn u32 y1 y0 u u0 s).fin p ∧ Jw8 Yn u32 y1 y0 u u0 s p = IntKind.u64.wrap (p.snd + y1) ∧ Jw7 Yn u32 y1 y0 u u0 s p = Jt6 p),(decide (p.fst ≥ 4294967296) || decide (IntKind.u64.wrap (p.fst * y0) > JnQ u p)) = false → (u32 * 4294967296 + u) / (y1 * 4294967296 + y0) = p.fst]
end
theorem Jr3 (Yn u32 y1 y0 u u0 s:Int) (p:Int × Int) (hNeeds:∀ pN ∈ (JWf Yn u32 y1 y0 u u0 s p),pN):Q4 (Xd (d2F Yn u32 y1 y0 u u0 s) (QX Tryz.prog (JC JeW) Jvu 170 1) 140 p) :=
  Q4.of (ps := (JWf Yn u32 y1 y0 u u0 s p)) (by kernel_rfl) (by kernel_rfl) hNeeds
theorem Jpp (Yn u32 y1 y0 u u0 s:Int):Qw (d2F Yn u32 y1 y0 u u0 s) (QX Tryz.prog (JC JeW) Jvu 170 1) 140 := by
  intro p hJ
  have hJ:AdjOk y1 y0 u32 u p.1 p.2 := hJ
  have hf := hJ.fit
  have hq := hJ.ub
  have hr := hJ.hr
  have h1 := hJ.h1
  have hu := hJ.hu
  have q0 := hJ.q0
  have e0:JnQ u p = 4294967296 * p.2 + u := by
    unfold JnQ
    rw [W2 (x := 4294967296 * p.2) (by omega) (by omega),W2 (by omega) (by omega)]
  have e1:1 ≤ p.1 → Jt6 p = p.1 - 1 := fun h => W2 (by omega) (by omega)
  have e2:IntKind.u64.wrap (p.1 * y0) = p.1 * y0 := W2 hf.1 hf.2
  have e3:IntKind.u64.wrap (p.2 + y1) = p.2 + y1 := W2 (by omega) (by omega)
  have hl := JND h1 hJ.h0 hu hJ.hn
  refine Jr3 Yn u32 y1 y0 u u0 s p ?_
  unfold JWf
  rw [e0,e2,e3]
  refine Jwq ?_ ?_
  · intro hc
    rw [Bool.or_eq_true,decide_eq_true_eq,decide_eq_true_eq] at hc
    have hb := JNb hJ hc
    refine ⟨fun h => ?_,fun h => ?_⟩
    · rw [decide_eq_true_eq] at h
      rw [e1 (by omega)]
      exact (Jgm hJ hc h).symm
    · rw [decide_eq_false_iff_not] at h
      refine ⟨hJ.next hc (by omega),?_,rfl,rfl,?_⟩
      · show (4294967296 - (p.2 + y1)).toNat < (4294967296 - p.2).toNat
        omega
      · rw [e1 (by omega)]; rfl
  · intro hc
    rw [Bool.or_eq_false_iff,decide_eq_false_iff_not,decide_eq_false_iff_not] at hc
    exact (JXv hJ (by omega)).symm
def d2L:QE := fun env mem m => match Wi env 2,Wi env 17,Wi env 9,Wi env 10,Wi env 14,Wi env 15,Wi env 8,Wi env 18,Wi env 16 with
  | some Yn,some u32,some y1,some y0,some u,some u0,some s,some q,some r => jk (d2F Yn u32 y1 y0 u u0 s) 140 (fun _ _ => some (q,r)) env mem m
  | _,_,_,_,_,_,_,_,_ => none
def JpR:FuncId → Nat → Option QE := JA9 Jvu 170 24 d2L
theorem Jcj:Known Tryz.prog (JC JeW) JpR := by
  refine Qe 1 JcH (by kernel_rfl) (Qv fun env mem m x h => ?_)
  unfold d2L at h
  have hlen:(QW Tryz.prog 170).length = 2 := by kernel_rfl
  split at h
  · exact ⟨_,XG (Qc Zz JcH (by omega)) (Jpp _ _ _ _ _ _ _),h⟩
  · cases h
theorem JwA (x:Int) (k:Nat) (h:0 ≤ x) (hk:k ≤ 64):JV .shr .u64 x (k:Int) = x / 2 ^ k := by
  have e:min ((k:Int)).toNat IntKind.u64.bits = k := by
    have:IntKind.u64.bits = 64 := rfl
    rw [this,Int.toNat_natCast]
    omega
  unfold JV
  simp only [e]
  exact Int.fdiv_eq_ediv_of_nonneg _ (Int.le_of_lt (KS k))
theorem Jxf (x:Int) (k:Nat) (hk:k ≤ 64):JV .shl .u64 x (k:Int) = (x * 2 ^ k) % 18446744073709551616 := by
  have e:min ((k:Int)).toNat IntKind.u64.bits = k := by
    have:IntKind.u64.bits = 64 := rfl
    rw [this,Int.toNat_natCast]
    omega
  unfold JV
  simp only [e]
  exact JAt _
theorem orE {x y:Int} {s:Nat} {m:Int} (hm:0 ≤ m) (e:x = 2 ^ s * m) (hy:0 ≤ y ∧ y < 2 ^ s) (h:x + y < 18446744073709551616):Zg .or .u64 x y = x + y := by
  obtain ⟨n,rfl⟩ := Int.eq_ofNat_of_zero_le hm
  obtain ⟨z,rfl⟩ := Int.eq_ofNat_of_zero_le hy.1
  have er:x = ((2 ^ s * n:Nat):Int) := by rw [e]; push_cast; rfl
  have hz:z < 2 ^ s := by
    have:((z:Nat):Int) < ((2 ^ s:Nat):Int) := by push_cast; exact hy.2
    exact_mod_cast this
  have hor := Nat.two_pow_add_eq_or_of_lt hz n
  rw [er] at h ⊢
  generalize hq:2 ^ s * n = q at *
  have b1:q < 2 ^ 64 := by omega
  have b2:z < 2 ^ 64 := by omega
  have e1:(BitVec.ofInt 64 (q:Int)).toNat = q := by simp [BitVec.toNat_ofInt]; omega
  have e2:(BitVec.ofInt 64 (z:Int)).toNat = z := by simp [BitVec.toNat_ofInt]; omega
  have e3:(BitVec.ofInt 64 (q:Int) ||| BitVec.ofInt 64 (z:Int)).toNat = q + z := by rw [BitVec.toNat_or,e1,e2,hor]
  show IntKind.u64.wrap ((BitVec.ofInt 64 (q:Int) ||| BitVec.ofInt 64 (z:Int)).toNat:Int) = _
  rw [e3,W2 (by omega) (by omega)]
  push_cast; rfl
theorem JxE {c:Int} (h0:0 < c) (h1:c < 18446744073709551616):∃ s:Nat,s ≤ 63 ∧ IntKind.u64.wrap (XJ c) = s ∧ 9223372036854775808 ≤ c * 2 ^ s ∧ c * 2 ^ s < 18446744073709551616 ∧ JV .shl .u64 c (IntKind.u64.wrap (XJ c)) = c * 2 ^ s := by
  obtain ⟨l,e,l1,l2,p1,p2⟩ := JpJ h0 h1
  have es:IntKind.u64.wrap (XJ c) = ((64 - l:Nat):Int) := by
    unfold XJ
    rw [e,X6 (by omega) (by omega),W2 (by omega) (by omega)]
    omega
  have hp := KS (64 - l)
  have q1:(2:Int) ^ (l - 1) * 2 ^ (64 - l) = 9223372036854775808 := by
    rw [← Int.pow_add,show l - 1 + (64 - l) = 63 by omega]; rfl
  have q2:(2:Int) ^ l * 2 ^ (64 - l) = 18446744073709551616 := by
    rw [← Int.pow_add,show l + (64 - l) = 64 by omega]; rfl
  have g1 := Int.mul_le_mul_of_nonneg_right p1 (Int.le_of_lt hp)
  have g2 := Int.mul_lt_mul_of_pos_right p2 hp
  refine ⟨64 - l,by omega,es,by omega,by omega,?_⟩
  rw [es,Jxf _ _ (by omega)]
  exact Int.emod_eq_of_lt (by omega) (by omega)
theorem Jvn {a b c:Int} {s:Nat} (ha:0 ≤ a) (hac:a < c) (hb:0 ≤ b) (hb':b < 18446744073709551616) (hs:s ≤ 63) (hc:c * 2 ^ s < 18446744073709551616) :
    Zg .or .u64 (JV .shl .u64 a (s:Int)) (JV .shr .u64 b (IntKind.u64.wrap (64 - (s:Int)))) = a * 2 ^ s + b / 2 ^ (64 - s) ∧ 0 ≤ a * 2 ^ s + b / 2 ^ (64 - s) ∧ a * 2 ^ s + b / 2 ^ (64 - s) < c * 2 ^ s ∧
    (a * 2 ^ s + b / 2 ^ (64 - s)) * 18446744073709551616 + (b * 2 ^ s) % 18446744073709551616 = (a * 18446744073709551616 + b) * 2 ^ s := by
  have hp := KS s
  have hq := KS (64 - s)
  have e64:(2:Int) ^ (64 - s) * 2 ^ s = 18446744073709551616 := by rw [← Int.pow_add,show 64 - s + s = 64 by omega]; rfl
  have ew:IntKind.u64.wrap (64 - (s:Int)) = ((64 - s:Nat):Int) := by rw [W2 (by omega) (by omega)]; omega
  have g1 := Int.mul_le_mul_of_nonneg_right (show a + 1 ≤ c by omega) (Int.le_of_lt hp)
  have g2:(a + 1) * 2 ^ s = a * 2 ^ s + 2 ^ s := by rw [Int.add_mul,Int.one_mul]
  have g3 := Int.mul_nonneg ha (Int.le_of_lt hp)
  have hr:0 ≤ b / 2 ^ (64 - s) ∧ b / 2 ^ (64 - s) < 2 ^ s := by
    refine ⟨Int.ediv_nonneg hb (Int.le_of_lt hq),Int.ediv_lt_of_lt_mul hq ?_⟩
    rw [Int.mul_comm,e64]; exact hb'
  have ed:b / 2 ^ (64 - s) = (b * 2 ^ s) / 18446744073709551616 := by
    rw [← e64,Int.mul_ediv_mul_of_pos_left _ _ hp]
  have dm := Int.mul_ediv_add_emod (b * 2 ^ s) 18446744073709551616
  refine ⟨?_,by omega,by omega,?_⟩
  · rw [ew,Jxf _ _ (by omega),JwA _ _ hb (by omega),Int.emod_eq_of_lt (by omega) (by omega)]
    exact orE ha (Int.mul_comm _ _) hr (by omega)
  · rw [ed]
    have e5:(a * 18446744073709551616 + b) * 2 ^ s = a * 2 ^ s * 18446744073709551616 + b * 2 ^ s := by grind
    rw [e5,Int.add_mul]
    omega
theorem Jwl (x u z:Int):IntKind.u64.wrap (IntKind.u64.wrap (IntKind.u64.wrap x + u) - IntKind.u64.wrap z) = (x + u - z) % 18446744073709551616 := by
  rw [JAt,JAt,JAt,JAt]
  omega
structure DivParts (a b c:Int):Prop where
  ex:∃ (s:Nat) (Y u32 u1 u0 q1 r1 q0:Int),s ≤ 63 ∧ IntKind.u64.wrap (XJ c) = (s:Int) ∧ JV .shl .u64 c (IntKind.u64.wrap (XJ c)) = Y ∧ Y = c * 2 ^ s ∧ 9223372036854775808 ≤ Y ∧ Y < 18446744073709551616 ∧
    JV .shr .u64 Y 32 = Y / 4294967296 ∧ Zg .and .u64 Y 4294967295 = Y % 4294967296 ∧
    Zg .or .u64 (JV .shl .u64 a (IntKind.u64.wrap (XJ c))) (JV .shr .u64 b (IntKind.u64.wrap (64 - IntKind.u64.wrap (XJ c)))) = u32 ∧ 0 ≤ u32 ∧ u32 < Y ∧
    JV .shr .u64 (JV .shl .u64 b (IntKind.u64.wrap (XJ c))) 32 = u1 ∧ Zg .and .u64 (JV .shl .u64 b (IntKind.u64.wrap (XJ c))) 4294967295 = u0 ∧ 0 ≤ u1 ∧ u1 < 4294967296 ∧ 0 ≤ u0 ∧ u0 < 4294967296 ∧
    (u32 * 4294967296 + u1) * 4294967296 + u0 = (a * 18446744073709551616 + b) * 2 ^ s ∧
    q1 = (u32 * 4294967296 + u1) / Y ∧ r1 = u32 * 4294967296 + u1 - q1 * Y ∧ q0 = (r1 * 4294967296 + u0) / Y ∧ 0 ≤ r1 ∧ r1 < Y
theorem Jcb {a b c:Int} (ha:0 ≤ a) (hac:a < c) (hb:0 ≤ b) (hb':b < 18446744073709551616) (hc:c < 18446744073709551616):DivParts a b c := by
  obtain ⟨s,s63,es,y1,y2,ey⟩ := JxE (c := c) (by omega) hc
  obtain ⟨n1,n2,n3,n4⟩ := Jvn ha hac hb hb' s63 y2
  have eb:JV .shl .u64 b (s:Int) = (b * 2 ^ s) % 18446744073709551616 := Jxf _ _ (by omega)
  have m1 := Int.emod_nonneg (b * 2 ^ s) (show (18446744073709551616:Int) ≠ 0 by omega)
  have m2 := Int.emod_lt_of_pos (b * 2 ^ s) (show (0:Int) < 18446744073709551616 by omega)
  have hd := JYK (Y := c * 2 ^ s) (u32 := a * 2 ^ s + b / 2 ^ (64 - s)) (u1 := (b * 2 ^ s) % 18446744073709551616 / 4294967296) (u0 := (b * 2 ^ s) % 18446744073709551616 % 4294967296) (by omega) n2 (by omega) (by omega) rfl rfl rfl
  refine ⟨s,c * 2 ^ s,a * 2 ^ s + b / 2 ^ (64 - s),(b * 2 ^ s) % 18446744073709551616 / 4294967296,(b * 2 ^ s) % 18446744073709551616 % 4294967296,_,_,_,s63,es,ey,rfl,y1,y2,JZV _ (by omega),JhW _ (by omega) y2,?_,n2,n3,?_,?_,by omega,by omega,by omega,by omega,?_,rfl,rfl,rfl,hd.2.2.1,hd.2.2.2⟩
  · rw [es]; exact n1
  · rw [es,eb,JZV _ m1]
  · rw [es,eb,JhW _ m1 m2]
  · rw [← n4]
    generalize (b * 2 ^ s) % 18446744073709551616 = z at *
    generalize a * 2 ^ s + b / 2 ^ (64 - s) = w at *
    omega
def JFZ:Tpl := ⟨[.one (.int .u64),.one (.int .u64),.one (.int .u64)],[],0⟩
section
variable (a b c:Int)
def JDF:Int:= Zg BinOp.or IntKind.u64 (JV BinOp.shl IntKind.u64 a (IntKind.u64.wrap (XJ c))) (JV BinOp.shr IntKind.u64 b (IntKind.u64.wrap (64 - IntKind.u64.wrap (XJ c)))) * 4294967296
def JDP:Int:= JV BinOp.shr IntKind.u64 (JV BinOp.shl IntKind.u64 c (IntKind.u64.wrap (XJ c))) 32 * 4294967296 + Zg BinOp.and IntKind.u64 (JV BinOp.shl IntKind.u64 c (IntKind.u64.wrap (XJ c))) 4294967295
def ZI:Int:= bif a == 0 then IntKind.u64.wrap (b.tdiv c) else IntKind.u64.wrap (IntKind.u64.wrap ((JDF a b c + JV BinOp.shr IntKind.u64 (JV BinOp.shl IntKind.u64 b (IntKind.u64.wrap (XJ c))) 32) / JDP c * 4294967296) + (IntKind.u64.wrap (IntKind.u64.wrap (IntKind.u64.wrap (JDF a b c) + JV BinOp.shr IntKind.u64 (JV BinOp.shl IntKind.u64 b (IntKind.u64.wrap (XJ c))) 32) - IntKind.u64.wrap ((JDF a b c + JV BinOp.shr IntKind.u64 (JV BinOp.shl IntKind.u64 b (IntKind.u64.wrap (XJ c))) 32) / JDP c * JV BinOp.shl IntKind.u64 c (IntKind.u64.wrap (XJ c)))) * 4294967296 + Zg BinOp.and IntKind.u64 (JV BinOp.shl IntKind.u64 b (IntKind.u64.wrap (XJ c))) 4294967295) / JDP c)
def JPY:Int:= IntKind.u64.wrap (IntKind.u64.wrap (IntKind.u64.wrap (JDF a b c) + JV BinOp.shr IntKind.u64 (JV BinOp.shl IntKind.u64 b (IntKind.u64.wrap (XJ c))) 32) - IntKind.u64.wrap ((JDF a b c + JV BinOp.shr IntKind.u64 (JV BinOp.shl IntKind.u64 b (IntKind.u64.wrap (XJ c))) 32) / JDP c * JV BinOp.shl IntKind.u64 c (IntKind.u64.wrap (XJ c)))) * 4294967296
def ZF:Int:= bif a == 0 then b.tmod c else JV BinOp.shr IntKind.u64 (IntKind.u64.wrap (IntKind.u64.wrap (IntKind.u64.wrap (JPY a b c) + Zg BinOp.and IntKind.u64 (JV BinOp.shl IntKind.u64 b (IntKind.u64.wrap (XJ c))) 4294967295) - IntKind.u64.wrap ((JPY a b c + Zg BinOp.and IntKind.u64 (JV BinOp.shl IntKind.u64 b (IntKind.u64.wrap (XJ c))) 4294967295) / JDP c * JV BinOp.shl IntKind.u64 c (IntKind.u64.wrap (XJ c))))) (IntKind.u64.wrap (XJ c))
def Yb:Int:= IntKind.u64.wrap (64 - IntKind.u64.wrap (XJ c))
def kp:Int:= IntKind.u64.wrap ((Zg BinOp.or IntKind.u64 (JV BinOp.shl IntKind.u64 a (IntKind.u64.wrap (XJ c))) (JV BinOp.shr IntKind.u64 b (Yb c))).tdiv (JV BinOp.shr IntKind.u64 (JV BinOp.shl IntKind.u64 c (IntKind.u64.wrap (XJ c))) 32))
def JD9:Int:= IntKind.u64.wrap (Zg BinOp.or IntKind.u64 (JV BinOp.shl IntKind.u64 a (IntKind.u64.wrap (XJ c))) (JV BinOp.shr IntKind.u64 b (Yb c)) - IntKind.u64.wrap (kp a b c * JV BinOp.shr IntKind.u64 (JV BinOp.shl IntKind.u64 c (IntKind.u64.wrap (XJ c))) 32))
def Jb6:Int:= Zg BinOp.or IntKind.u64 (JV BinOp.shl IntKind.u64 a (IntKind.u64.wrap (XJ c))) (JV BinOp.shr IntKind.u64 b (Yb c)) * 4294967296
def JJj:Int:= IntKind.u64.wrap (IntKind.u64.wrap (IntKind.u64.wrap (Jb6 a b c) + JV BinOp.shr IntKind.u64 (JV BinOp.shl IntKind.u64 b (IntKind.u64.wrap (XJ c))) 32) - IntKind.u64.wrap ((Jb6 a b c + JV BinOp.shr IntKind.u64 (JV BinOp.shl IntKind.u64 b (IntKind.u64.wrap (XJ c))) 32) / (JV BinOp.shr IntKind.u64 (JV BinOp.shl IntKind.u64 c (IntKind.u64.wrap (XJ c))) 32 * 4294967296 + Zg BinOp.and IntKind.u64 (JV BinOp.shl IntKind.u64 c (IntKind.u64.wrap (XJ c))) 4294967295) * JV BinOp.shl IntKind.u64 c (IntKind.u64.wrap (XJ c))))
def z9:Int:= IntKind.u64.wrap ((JJj a b c).tdiv (JV BinOp.shr IntKind.u64 (JV BinOp.shl IntKind.u64 c (IntKind.u64.wrap (XJ c))) 32))
def JD6:Int:= IntKind.u64.wrap (JJj a b c - IntKind.u64.wrap (z9 a b c * JV BinOp.shr IntKind.u64 (JV BinOp.shl IntKind.u64 c (IntKind.u64.wrap (XJ c))) 32))
def JEO:List Prop:= [(c == 0) = false,decide (c ≤ a) = false,(a == 0) = true → c ≠ 0 ∧ c ≠ 0,(a == 0) = false → 0 ≤ c ∧ c < 18446744073709551616 ∧ 0 ≤ IntKind.u64.wrap (XJ c) ∧ 0 ≤ IntKind.u64.wrap (XJ c) ∧ 0 ≤ Yb c ∧ 0 ≤ IntKind.u64.wrap (XJ c) ∧ JV BinOp.shr IntKind.u64 (JV BinOp.shl IntKind.u64 c (IntKind.u64.wrap (XJ c))) 32 ≠ 0 ∧ AdjOk (JV BinOp.shr IntKind.u64 (JV BinOp.shl IntKind.u64 c (IntKind.u64.wrap (XJ c))) 32) (Zg BinOp.and IntKind.u64 (JV BinOp.shl IntKind.u64 c (IntKind.u64.wrap (XJ c))) 4294967295) (Zg BinOp.or IntKind.u64 (JV BinOp.shl IntKind.u64 a (IntKind.u64.wrap (XJ c))) (JV BinOp.shr IntKind.u64 b (Yb c))) (JV BinOp.shr IntKind.u64 (JV BinOp.shl IntKind.u64 b (IntKind.u64.wrap (XJ c))) 32) (kp a b c,JD9 a b c).fst (kp a b c,JD9 a b c).snd ∧ (kp a b c,JD9 a b c).snd = JD9 a b c ∧ (kp a b c,JD9 a b c).fst = kp a b c ∧ JV BinOp.shr IntKind.u64 (JV BinOp.shl IntKind.u64 c (IntKind.u64.wrap (XJ c))) 32 ≠ 0 ∧ AdjOk (JV BinOp.shr IntKind.u64 (JV BinOp.shl IntKind.u64 c (IntKind.u64.wrap (XJ c))) 32) (Zg BinOp.and IntKind.u64 (JV BinOp.shl IntKind.u64 c (IntKind.u64.wrap (XJ c))) 4294967295) (JJj a b c) (Zg BinOp.and IntKind.u64 (JV BinOp.shl IntKind.u64 b (IntKind.u64.wrap (XJ c))) 4294967295) (z9 a b c,JD6 a b c).fst (z9 a b c,JD6 a b c).snd ∧ (z9 a b c,JD6 a b c).snd = JD6 a b c ∧ (z9 a b c,JD6 a b c).fst = z9 a b c ∧ 0 ≤ IntKind.u64.wrap (XJ c)]
end
theorem JmX {a:Int} {b:Int} {c:Int} (hW:∀ q ∈ ([0 ≤ a,a < c,0 ≤ b,b < 18446744073709551616,c < 18446744073709551616]:List Prop),q):∀ q ∈ (JEO a b c),q := by
  simp only [awc,awn,and_true] at hW
  unfold JEO
  simp only [awc,awn,and_true]
  obtain ⟨ha,hac,hb,hb',hc⟩ := hW
  refine ⟨by simp; omega,by simp; omega,fun _ => ⟨by omega,by omega⟩,fun _ => ?_⟩
  obtain ⟨s,Y,u32,u1,u0,q1,r1,q0,s63,es,ey,eY,y1,y2,ey1,ey0,eu,v0,v1,e1,e0,p1,p2,p3,p4,en,eq1,er1,eq0,t0,t1⟩ := (Jcb ha hac hb hb' hc).ex
  have ew:0 ≤ IntKind.u64.wrap (XJ c) := by rw [es]; omega
  have ew3:0 ≤ Yb c := by unfold Yb; rw [es,W2 (by omega) (by omega)]; omega
  have hy1:2147483648 ≤ Y / 4294967296 ∧ Y / 4294967296 < 4294967296 := by omega
  have hy0:0 ≤ Y % 4294967296 ∧ Y % 4294967296 < 4294967296 := by omega
  have hYY:Y / 4294967296 * 4294967296 + Y % 4294967296 = Y := by omega
  have first:∀ {x u:Int},0 ≤ x → x < Y → 0 ≤ u → u < 4294967296 → AdjOk (Y / 4294967296) (Y % 4294967296) x u (IntKind.u64.wrap (x.tdiv (Y / 4294967296))) (IntKind.u64.wrap (x - IntKind.u64.wrap (IntKind.u64.wrap (x.tdiv (Y / 4294967296)) * (Y / 4294967296)))) := fun {x u} g1 g2 g3 g4 => by
    have A := Jq6 (y1 := Y / 4294967296) (y0 := Y % 4294967296) (u32 := x) (u := u) hy1 hy0 ⟨g3,g4⟩ (by omega)
    have hd := Int.mul_ediv_add_emod x (Y / 4294967296)
    have hm1 := Int.emod_nonneg x (show Y / 4294967296 ≠ 0 by omega)
    have hm2 := Int.emod_lt_of_pos x (show 0 < Y / 4294967296 by omega)
    have hcm:Y / 4294967296 * (x / (Y / 4294967296)) = x / (Y / 4294967296) * (Y / 4294967296) := Int.mul_comm _ _
    rw [hcm] at hd
    have ub := A.ub
    have q0 := A.q0
    have qn := Int.mul_nonneg q0 (show 0 ≤ Y / 4294967296 by omega)
    have e1:IntKind.u64.wrap (x.tdiv (Y / 4294967296)) = x / (Y / 4294967296) := by
      rw [Int.tdiv_eq_ediv_of_nonneg g1,W2 q0 (by omega)]
    rw [e1,W2 (x := x / (Y / 4294967296) * (Y / 4294967296)) (by omega) (by omega),W2 (by omega) (by omega)]
    exact A
  have e4:kp a b c = IntKind.u64.wrap (u32.tdiv (Y / 4294967296)) := by unfold kp Yb; rw [eu,ey,ey1]
  have e5:JD9 a b c = IntKind.u64.wrap (u32 - IntKind.u64.wrap (IntKind.u64.wrap (u32.tdiv (Y / 4294967296)) * (Y / 4294967296))) := by unfold JD9; rw [e4]; unfold Yb; rw [eu,ey,ey1]
  have e7:JJj a b c = r1 := by
    unfold JJj Jb6 Yb
    rw [eu,ey,ey1,ey0,e1,hYY,Jwl,← eq1,← er1]
    exact Int.emod_eq_of_lt t0 (by omega)
  have e8:z9 a b c = IntKind.u64.wrap (r1.tdiv (Y / 4294967296)) := by unfold z9; rw [e7,ey,ey1]
  have e9:JD6 a b c = IntKind.u64.wrap (r1 - IntKind.u64.wrap (IntKind.u64.wrap (r1.tdiv (Y / 4294967296)) * (Y / 4294967296))) := by unfold JD6; rw [e7,e8,ey,ey1]
  rw [e4,e5,e7,e8,e9]
  unfold Yb at ew3 ⊢
  rw [eu,ey,ey1,ey0,e1,e0]
  exact ⟨by omega,by omega,ew,ew,ew3,ew,by omega,first v0 v1 p1 p2,trivial,trivial,by omega,first t0 t1 p3 p4,trivial,trivial,ew⟩
theorem JlA (a b c:Int) (hNeeds:∀ pN ∈ (JEO a b c),pN):Runs (Jm (JC JeW) JpR 170) (JFZ.args [.i a,.i b,.i c]) (JFZ.memo [.i a,.i b,.i c] []) JFZ.n (SV.tup [(false,[SC.int IntKind.u64 (SI.v (ZI a b c))]),(false,[SC.int IntKind.u64 (SI.v (ZF a b c))])]) ([]) :=
  Runs.of1 (ps := (JEO a b c)) (by kernel_rfl) hNeeds
def JRK:List Pm → Qs → Option CRes
  | [.i a,.i b,.i c],[] => some ⟨SV.tup [(false,[SC.int IntKind.u64 (SI.v (ZI a b c))]),(false,[SC.int IntKind.u64 (SI.v (ZF a b c))])],
 [],[0 ≤ a,a < c,0 ≤ b,b < 18446744073709551616,c < 18446744073709551616],[],176⟩
  | _,_ => none
theorem Jrq:Ql Tryz.prog 170 (JU JFZ JRK) := by
  refine JI (JE Jcj 170) fun ps ls r hr hn _ => ?_
  unfold JRK at hr
  split at hr
  · cases hr; exact ⟨_,JlA _ _ _ (JmX (by exact hn)),fun _ => rfl⟩
  · cases hr
def JKR:List (Nat × JY) := (170,JU JFZ JRK) :: JeW
theorem JUH:Known Tryz.prog (JC JKR) JpR := J7 Jcj Jrq
theorem JLK {a b c:Int} (ha:0 ≤ a) (hac:a < c) (hb:0 ≤ b) (hb':b < 18446744073709551616) (hc:c < 18446744073709551616) :
    ZI a b c = (a * 18446744073709551616 + b) / c ∧ ZF a b c = (a * 18446744073709551616 + b) % c := by
  unfold ZI ZF
  by_cases h:a = 0
  · subst h
    rw [show ((0:Int) == 0) = true from rfl,cond_true,cond_true,Int.tdiv_eq_ediv_of_nonneg hb,Int.tmod_eq_emod_of_nonneg hb,Int.zero_mul,Int.zero_add]
    refine ⟨W2 (Int.ediv_nonneg hb (by omega)) ?_,rfl⟩
    have := Int.ediv_le_self c hb
    omega
  · rw [show (a == 0) = false by simpa using h,cond_false,cond_false]
    obtain ⟨s,Y,u32,u1,u0,q1,r1,q0,s63,es,ey,eY,y1,y2,ey1,ey0,eu,v0,v1,e1,e0,p1,p2,p3,p4,en,eq1,er1,eq0,t0,t1⟩ := (Jcb ha hac hb hb' hc).ex
    have hYY:Y / 4294967296 * 4294967296 + Y % 4294967296 = Y := by omega
    have hd := JYK (Y := Y) (by omega) v0 ⟨p1,p2⟩ ⟨p3,p4⟩ eq1 er1 eq0
    have es1:JDP c = Y := by unfold JDP; rw [ey,ey1,ey0,hYY]
    have es0:JDF a b c = u32 * 4294967296 := by unfold JDF; rw [eu]
    have er:IntKind.u64.wrap (IntKind.u64.wrap (IntKind.u64.wrap (u32 * 4294967296) + u1) - IntKind.u64.wrap (q1 * Y)) = r1 := by
      rw [Jwl,← er1]; exact Int.emod_eq_of_lt t0 (by omega)
    have es2:JPY a b c = r1 * 4294967296 := by
      unfold JPY
      rw [es0,es1,e1,ey,← eq1,er]
    have l1 := JND (y1 := Y / 4294967296) (y0 := Y % 4294967296) (u32 := u32) (u := u1) (by omega) (by omega) (by omega) (by omega)
    have l0 := JND (y1 := Y / 4294967296) (y0 := Y % 4294967296) (u32 := r1) (u := u0) (by omega) (by omega) (by omega) (by omega)
    rw [hYY,← eq1] at l1
    rw [hYY,← eq0] at l0
    have hp := KS s
    have m3 := Int.emod_nonneg ((u32 * 4294967296 + u1) * 4294967296 + u0) (show Y ≠ 0 by omega)
    have m4 := Int.emod_lt_of_pos ((u32 * 4294967296 + u1) * 4294967296 + u0) (show 0 < Y by omega)
    rw [← hd.2.1] at m3 m4
    constructor
    · rw [es0,es1,e1,e0,ey,← eq1,er,← eq0,W2 (x := q1 * 4294967296) (by omega) (by omega),W2 (by omega) (by omega),hd.1,en,eY,Int.mul_ediv_mul_of_pos_left _ _ hp]
    · rw [es2,es1,e0,ey,← eq0,Jwl,Int.emod_eq_of_lt m3 (by omega),es,JwA _ _ m3 (by omega),hd.2.1,en,eY,Int.mul_comm _ (2 ^ s),Int.mul_comm c,Int.mul_emod_mul_of_pos _ _ hp,Int.mul_ediv_cancel_left _ (by omega)]
theorem Jk (x:Int):Xa (IntKind.i64.wrap x) := by
  unfold IntKind.wrap Xa
  simp only [IntKind.bits,IntKind.signed]
  simp
  omega
theorem Jvh (a b:Int) (h:1 ≤ b) (hb:b ≤ 4611686018427387904):0 ≤ JWb a b ∧ JWb a b < b := by
  unfold JWb
  have h1 := Int.tmod_lt_of_pos a (b := b) (by omega)
  have h2:-b < a.tmod b := by
    have := Int.tmod_lt_of_pos (-a) (b := b) (by omega)
    rw [Int.neg_tmod] at this
    omega
  by_cases h3:a.tmod b < 0
  · simp only [h3,decide_true,cond_true]
    rw [X6 (by omega) (by omega)]
    omega
  · simp only [h3,decide_false,cond_false]
    omega
abbrev bd (m x:Int):Prop := -m ≤ x ∧ x ≤ m
theorem XY {a c:Int} (ha:bd 1000000000 a) (hc:bd 1000000000 c):J1 a c = a - c := by unfold J1; rw [X6 (by omega) (by omega)]
theorem JYO {a c:Int} (ha:bd 1000000000 a) (hc:bd 1000000000 c):JG a c = a + c := by unfold JG; rw [X6 (by omega) (by omega)]
theorem JHe {m n x y:Int} (hx:bd m x) (hy:bd n y) (hm:0 ≤ m) (hn:0 ≤ n):bd (m * n) (x * y) := by
  have h:∀ u v:Int,0 ≤ u → u ≤ m → 0 ≤ v → v ≤ n → 0 ≤ u * v ∧ u * v ≤ m * n := fun u v h1 h2 h3 h4 => ⟨Int.mul_nonneg h1 h3,Int.mul_le_mul h2 h4 h3 hm⟩
  by_cases h1:0 ≤ x <;> by_cases h2:0 ≤ y
  · have := h x y h1 (by omega) h2 (by omega); constructor <;> omega
  · have := h x (-y) h1 (by omega) (by omega) (by omega); rw [Int.mul_neg] at this; constructor <;> omega
  · have := h (-x) y (by omega) (by omega) h2 (by omega); rw [Int.neg_mul] at this; constructor <;> omega
  · have := h (-x) (-y) (by omega) (by omega) (by omega) (by omega); rw [Int.neg_mul_neg] at this; constructor <;> omega
theorem X7 {a b c d:Int} (ha:bd 1000000000 a) (hb:bd 1000000000 b) (hc:bd 1000000000 c) (hd:bd 1000000000 d):JF a b c d = a * d - b * c := by
  have h1 := JHe ha hd (by omega) (by omega)
  have h2 := JHe hb hc (by omega) (by omega)
  unfold JF
  generalize a * d = p at *
  generalize b * c = q at *
  rw [X6 (x := p) (by omega) (by omega),X6 (x := q) (by omega) (by omega),X6 (by omega) (by omega)]
theorem Ko {a b c d:Int} (ha:bd 1000000000 a) (hb:bd 1000000000 b) (hc:bd 1000000000 c) (hd:bd 1000000000 d):J8 a b c d = a * c + b * d := by
  have h1 := JHe ha hc (by omega) (by omega)
  have h2 := JHe hb hd (by omega) (by omega)
  unfold J8
  generalize a * c = p at *
  generalize b * d = q at *
  rw [X6 (x := p) (by omega) (by omega),X6 (x := q) (by omega) (by omega),X6 (by omega) (by omega)]
theorem JCe (x y:Int):(x < y ∧ KC x y = -1) ∨ (x = y ∧ KC x y = 0) ∨ (y < x ∧ KC x y = 1) := by
  unfold KC
  by_cases h:x < y
  · exact .inl ⟨h,if_pos h⟩
  · by_cases h2:x = y
    · exact .inr (.inl ⟨h2,by rw [if_neg h,if_pos h2]⟩)
    · exact .inr (.inr ⟨by omega,by rw [if_neg h,if_neg h2]⟩)
theorem JZN {x y:Int} (h:x ≠ 0 ∨ y ≠ 0):0 < x * x + y * y := by
  have h1:∀ z:Int,0 ≤ z * z := fun z => by
    rcases Int.le_total 0 z with h | h
    · exact Int.mul_nonneg h h
    · have := Int.mul_nonneg (show 0 ≤ -z by omega) (show 0 ≤ -z by omega)
      rwa [Int.neg_mul_neg] at this
  have h2:∀ z:Int,z ≠ 0 → 0 < z * z := fun z hz => by
    have := h1 z
    have:z * z ≠ 0 := Int.mul_ne_zero hz hz
    omega
  rcases h with h | h
  · have := h2 x h; have := h1 y; omega
  · have := h2 y h; have := h1 x; omega
theorem q8 {c n:Int} (hn:0 < n) (h:0 < c * n):0 < c := by
  rcases Int.lt_or_le 0 c with h1 | h1
  · exact h1
  · have := Int.mul_nonneg (show 0 ≤ -c by omega) (show 0 ≤ n by omega)
    rw [Int.neg_mul] at this
    omega
theorem Jba {c n:Int} (hn:0 < n) (h:c * n < 0):c < 0 := by
  have := q8 (c := -c) hn (by rw [Int.neg_mul]; omega)
  omega
theorem JXX {c n:Int} (hn:0 < n) (h:0 < c):0 < c * n := Int.mul_pos h hn
theorem Jmf {c n:Int} (hn:0 < n) (h:c < 0):c * n < 0 := by
  have := Int.mul_pos (show 0 < -c by omega) hn
  rw [Int.neg_mul] at this
  omega
theorem Js0 {x y u v:Int} (hc:x * v = y * u) (hs:0 < y * v):0 < x * u + y * v := by
  have hv:v ≠ 0 := fun h => by rw [h,Int.mul_zero] at hs; omega
  have h1 := JZN (x := u) (y := v) (.inr hv)
  have h2:(x * u + y * v) * (v * v) = (y * v) * (u * u + v * v) := by grind
  have h3:0 < v * v := by have := JZN (x := 0) (y := v) (.inr hv); simpa using this
  exact q8 h3 (by rw [h2]; exact Int.mul_pos hs h1)
theorem JjB {x y u v c d:Int} (hp:x ≠ 0 ∨ y ≠ 0) (hb:u ≠ 0 ∨ v ≠ 0) (hc1:0 < c ↔ 0 < x * v - y * u) (hc2:c < 0 ↔ x * v - y * u < 0) (hd:0 < d ↔ 0 < x * u + y * v) :
    (((c < 0 ∨ c = 0 ∧ 0 < d) ∧ (¬ (v < 0 ∨ v = 0 ∧ 0 < u) ∨ y ≤ 0)) ∨ (¬ (c < 0 ∨ c = 0 ∧ 0 < d) ∧ ¬ (v < 0 ∨ v = 0 ∧ 0 < u) ∧ y ≤ 0)) ↔
    (((y < 0 ∨ y = 0 ∧ 0 < x) ∧ (¬ (v < 0 ∨ v = 0 ∧ 0 < u) ∨ c ≤ 0)) ∨ (¬ (y < 0 ∨ y = 0 ∧ 0 < x) ∧ ¬ (v < 0 ∨ v = 0 ∧ 0 < u) ∧ c ≤ 0)) := by
  have key:c = 0 → 0 < y * v → 0 < d := fun h1 h2 => hd.2 (Js0 (by omega) h2)
  have zl:∀ {s:Int} (r:Int),s = 0 → s * r = 0 := fun r h => by rw [h,Int.zero_mul]
  have zr:∀ {s:Int} (r:Int),s = 0 → r * s = 0 := fun r h => by rw [h,Int.mul_zero]
  rcases Int.lt_trichotomy y 0 with hy | hy | hy <;> rcases Int.lt_trichotomy v 0 with hv | hv | hv
  · have := Int.mul_pos_of_neg_of_neg hy hv; have := key; omega
  · have := zr x hv; have := zr y hv
    rcases Int.lt_trichotomy u 0 with hu | hu | hu
    · have := Int.mul_pos_of_neg_of_neg hy hu; omega
    · omega
    · have := Int.mul_neg_of_neg_of_pos hy hu; omega
  · omega
  · have := zl u hy; have := zl v hy
    rcases Int.lt_trichotomy x 0 with hx | hx | hx
    · have := Int.mul_pos_of_neg_of_neg hx hv; omega
    · omega
    · have := Int.mul_neg_of_pos_of_neg hx hv; omega
  · have := zl u hy; have := zl v hy; have := zr x hv
    rcases Int.lt_trichotomy x 0 with hx | hx | hx <;> rcases Int.lt_trichotomy u 0 with hu | hu | hu
    · have := Int.mul_pos_of_neg_of_neg hx hu; omega
    · omega
    · have := Int.mul_neg_of_neg_of_pos hx hu; omega
    · omega
    · omega
    · omega
    · have := Int.mul_neg_of_pos_of_neg hx hu; omega
    · omega
    · have := Int.mul_pos hx hu; omega
  · have := zl u hy; have := zl v hy
    rcases Int.lt_trichotomy x 0 with hx | hx | hx
    · have := Int.mul_neg_of_neg_of_pos hx hv; omega
    · omega
    · have := Int.mul_pos hx hv; omega
  · omega
  · have := zr x hv; have := zr y hv
    rcases Int.lt_trichotomy u 0 with hu | hu | hu
    · have := Int.mul_neg_of_pos_of_neg hy hu; omega
    · omega
    · have := Int.mul_pos hy hu; omega
  · have := Int.mul_pos hy hv; have := key; omega
theorem Jxx (x y:Int):0 ≤ x * x + y * y := by
  by_cases h:x ≠ 0 ∨ y ≠ 0
  · have := JZN h; omega
  · have h1:x = 0 := by omega
    have h2:y = 0 := by omega
    subst h1; subst h2; decide
theorem Jet (x y:Int):decide (KC x y ≤ 0) = decide (x ≤ y) := by
  rcases JCe x y with ⟨h1,h2⟩ | ⟨h1,h2⟩ | ⟨h1,h2⟩ <;> rw [h2] <;> simp <;> omega
abbrev u64 (x:Int):Prop := 0 ≤ x ∧ x < 18446744073709551616
def JIS (j:Nat):Int := bif decide (j < 64) then 2 ^ (63 - j) else 0
def flF (a b:Int):Fam Nat Unit where
  k := 20
  E j := [(4,ent 1000000000 (.one (U (JIS j)))),(3,ent 1000000001 (.one (U (fr 64 (a * 18446744073709551616 + b) j)))),(1,ent 3 (.one (.ptr 0 0)))]
  M j := [(0,.blk 147 [(1,U a),(2,U b)])]
  out _ := .leaf (.exit 0) [(3,ent 8 (.one (U (fr 64 (a * 18446744073709551616 + b) 64))))] []
  fin _ := ()
  next j _ := j + 1
  J j := j ≤ 64 ∧ u64 a ∧ u64 b
  μ j := 64 - j
theorem Jn3 {j:Nat} (h:j < 64):JIS j = 2 ^ (64 - 1 - j) := by unfold JIS; rw [decide_eq_true h,cond_true]
theorem JpI {j:Nat} (h:j < 64):JV .shr .u64 (JIS j) 1 = JIS (j + 1) := by
  have hp := KS (63 - j)
  have e:(2:Int) ^ min (1:Int).toNat IntKind.u64.bits = 2 := by decide
  have e2:JV .shr .u64 (JIS j) 1 = JIS j / 2 := by
    unfold JV
    simp only [e]
    exact Int.fdiv_eq_ediv_of_nonneg _ (by omega)
  rw [e2]
  unfold JIS
  rw [decide_eq_true h,cond_true]
  by_cases h1:j + 1 < 64
  · rw [decide_eq_true h1,cond_true,show 63 - j = (63 - (j + 1)) + 1 by omega,JXb]
    omega
  · rw [decide_eq_false h1,cond_false,show 63 - j = 0 by omega]
    rfl
theorem Jru:(2:Int) ^ 64 * 2 ^ 64 = 340282366920938463463374607431768211456 := rfl
section
variable (a b:Int) (j:Nat)
def JTo:Int:= fr 64 (a * 18446744073709551616 + b) j
def Jwh:Int:= JLA (QL (Zg BinOp.or IntKind.u64 (JTo a b j) (JIS j)) (Zg BinOp.or IntKind.u64 (JTo a b j) (JIS j))) (Qh (Zg BinOp.or IntKind.u64 (JTo a b j) (JIS j)) (Zg BinOp.or IntKind.u64 (JTo a b j) (JIS j))) a b
def JXr:List Prop:= [decide (JIS j > 0) = true → ((flF a b).next j 0 ≤ 64 ∧ (0 ≤ a ∧ a < 18446744073709551616) ∧ 0 ≤ b ∧ b < 18446744073709551616) ∧ (flF a b).μ ((flF a b).next j 0) < (flF a b).μ j ∧ (flF a b).fin ((flF a b).next j 0) = (flF a b).fin j ∧ JIS ((flF a b).next j 0) = JV BinOp.shr IntKind.u64 (JIS j) 1 ∧ fr 64 (a * 18446744073709551616 + b) ((flF a b).next j 0) = bif decide (Jwh a b j ≤ 0) then Zg BinOp.or IntKind.u64 (JTo a b j) (JIS j) else JTo a b j,decide (JIS j > 0) = false → fr 64 (a * 18446744073709551616 + b) 64 = JTo a b j]
end
theorem JtL (a b:Int) (j:Nat) (hNeeds:∀ pN ∈ (JXr a b j),pN):Q4 (Xd (flF a b) (QX Tryz.prog (JC JKR) JpR 154 0) 7 j) :=
  Q4.of (ps := (JXr a b j)) (by kernel_rfl) (by kernel_rfl) hNeeds
theorem Jom (a b:Int):Qw (flF a b) (QX Tryz.prog (JC JKR) JpR 154 0) 7 := by
  intro j hJ
  obtain ⟨h1,ha,hb⟩:j ≤ 64 ∧ u64 a ∧ u64 b := hJ
  have hx0:0 ≤ a * 18446744073709551616 + b := by omega
  have hx1:a * 18446744073709551616 + b < 2 ^ 64 * 2 ^ 64 := by rw [Jru]; omega
  have ex1:(a * 18446744073709551616 + b) / 18446744073709551616 = a := by omega
  have ex2:(a * 18446744073709551616 + b) % 18446744073709551616 = b := by omega
  refine JtL a b j ?_
  unfold JXr
  refine Jwq ?_ ?_
  · intro h
    have hj:j < 64 := by
      rcases Nat.lt_or_ge j 64 with g | g
      · exact g
      · unfold JIS at h
        rw [decide_eq_false (show ¬ j < 64 by omega)] at h
        simp at h
    obtain ⟨o1,o2,o3⟩ := JtD hx0 hx1 hj (by omega)
    rw [Jny (by omega)] at o1
    refine ⟨⟨hj,ha,hb⟩,?_,rfl,(JpI hj).symm,?_⟩
    · show 64 - (j + 1) < 64 - j; omega
    · unfold Jwh JTo
      rw [Jn3 hj,o1,kq _ _ ⟨o2,o3⟩ ⟨o2,o3⟩,qd]
      have hc := Jic ((fr 64 (a * 18446744073709551616 + b) j + 2 ^ (64 - 1 - j)) * (fr 64 (a * 18446744073709551616 + b) j + 2 ^ (64 - 1 - j))) (a * 18446744073709551616 + b) (Int.mul_nonneg o2 o2) hx0
      rw [ex1,ex2] at hc
      rw [hc,Jet]
      rfl
  · intro h
    have hj:j = 64 := by
      rcases Nat.lt_or_ge j 64 with g | g
      · exfalso
        rw [Jn3 g] at h
        have := KS (64 - 1 - j)
        rw [decide_eq_false_iff_not] at h
        omega
      · omega
    rw [hj]; rfl
def JyB (env:KL) (mem:Jn) (t:Nat):Option (Int × Int) := match SX.JD env t with
  | some ⟨_,_,_,.one (.ptr id 0)⟩ => (match JIN mem id with
    | some [x,y] => some (x,y)
    | _ => none)
  | _ => none
def flL:QE := fun env mem m => match JyB env mem 1 with
  | some (a,b) => jk (flF a b) 7 (fun _ _ => some 0) env mem m
  | none => none
def Zw:FuncId → Nat → Option QE := JA9 JpR 154 3 flL
theorem Jbl:Known Tryz.prog (JC JKR) Zw := by
  refine Qe 0 JUH (by kernel_rfl) (Qv fun env mem m x h => ?_)
  unfold flL at h
  have hlen:(QW Tryz.prog 154).length = 1 := by kernel_rfl
  split at h
  · exact ⟨_,XG (Qc Zz JUH (by omega)) (Jom _ _),h⟩
  · cases h
def W3:Tpl := ⟨[.agg [.int .u64,.int .u64]],[],0⟩
def Jl (a b:Int):Int := fr 64 (a * 18446744073709551616 + b) 64
def WM (a b:Int):List Prop := [0 ≤ 64 ∧ (0 ≤ a ∧ a < 18446744073709551616) ∧ 0 ≤ b ∧ b < 18446744073709551616,Int.ofNat 9223372036854775808 = 9223372036854775808,fr 64 (a * 18446744073709551616 + b) 0 = 0]
theorem JW6 {a:Int} {b:Int} (hW:∀ q ∈ ([u64 a,u64 b]:List Prop),q):∀ q ∈ (WM a b),q := by
  simp only [awc,awn,and_true] at hW
  unfold WM
  simp only [awc,awn,and_true]
  exact ⟨⟨by omega,hW.1,hW.2⟩,rfl,rfl⟩
theorem JYZ (a b:Int) (hNeeds:∀ pN ∈ (WM a b),pN):Runs (Jm (JC JKR) Zw 154) (W3.args [.i a,.i b]) (W3.memo [.i a,.i b] []) W3.n (SV.one (SC.int IntKind.u64 (SI.v (Jl a b)))) ([]) :=
  Runs.of1 (ps := (WM a b)) (by kernel_rfl) hNeeds
def JEg:List Pm → Qs → Option CRes
  | [.i a,.i b],[] => some ⟨SV.one (SC.int IntKind.u64 (SI.v (Jl a b))),
 [],[u64 a,u64 b],[],29⟩
  | _,_ => none
theorem JfI:Ql Tryz.prog 154 (JU W3 JEg) := by
  refine JI (JE Jbl 154) fun ps ls r hr hn _ => ?_
  unfold JEg at hr
  split at hr
  · cases hr; exact ⟨_,JYZ _ _ (JW6 (by exact hn)),fun _ => rfl⟩
  · cases hr
def JIl:List (Nat × JY) := (154,JU W3 JEg) :: JKR
theorem JIO:Known Tryz.prog (JC JIl) Zw := J7 Jbl JfI
theorem Jtw {a b:Int} (ha:u64 a) (hb:u64 b):0 ≤ Jl a b ∧ Jl a b * Jl a b ≤ a * 18446744073709551616 + b ∧ a * 18446744073709551616 + b < (Jl a b + 1) * (Jl a b + 1) ∧ Jl a b < 18446744073709551616 := by
  obtain ⟨x,y,z,w⟩ := JdH (T := 64) (x := a * 18446744073709551616 + b) (by omega) (by rw [Jru]; omega)
  have e:(2:Int) ^ 64 = 18446744073709551616 := rfl
  exact ⟨x,y,z,by show fr 64 _ 64 < _; omega⟩
theorem JnN (x:Int):u64 (x % 18446744073709551616) := by omega
theorem JeV (x y:Int):u64 (Qh x y) := by rw [qd]; exact JnN _
theorem JgD {x y:Int} (hx:u64 x) (hy:u64 y):u64 (QL x y) := by
  rw [kq _ _ hx hy]
  obtain ⟨h1,h2⟩ := Kh 18446744073709551615 18446744073709551615 (x := x) (y := y) ⟨hx.1,by omega⟩ ⟨hy.1,by omega⟩ (by omega)
  omega
theorem Juf (x:Int):u64 (IntKind.u64.wrap x) := by rw [JAt]; exact JnN _
theorem JuE (x y z:Int):0 ≤ JEc x y z ∧ JEc x y z ≤ 1 := by unfold JEc; split <;> decide
def JFB:Tpl := ⟨[.agg [.int .u64,.int .u64],.one (.int .i64)],[],0⟩
section
variable (a b m:Int)
def JW4:Int:= JJm a (QL (Jl a b) (Jl a b)) (JEc b (Qh (Jl a b) (Jl a b)) 0)
def JIt:Int:= bif m == 1 && (decide (JW4 a b > 0) || decide (JJm b (Qh (Jl a b) (Jl a b)) 0 > 0)) || m == 2 && (decide (JW4 a b > 0) || decide (JJm b (Qh (Jl a b) (Jl a b)) 0 > Jl a b)) then IntKind.u64.wrap (Jl a b + 1) else Jl a b
def JUs:Int:= bif decide (JIt a b m < 9223372036854775808) then IntKind.i64.wrap (JIt a b m) else 0
def JV7:Bool:= decide (JIt a b m < 9223372036854775808)
def JDY:List Prop:= [0 ≤ a ∧ a < 18446744073709551616,0 ≤ b ∧ b < 18446744073709551616,0 ≤ b,0 ≤ Qh (Jl a b) (Jl a b),Int.ofNat 0 ≤ 0 ∧ Int.ofNat 0 ≤ 1,0 ≤ a,0 ≤ QL (Jl a b) (Jl a b),0 ≤ JEc b (Qh (Jl a b) (Jl a b)) 0 ∧ JEc b (Qh (Jl a b) (Jl a b)) 0 ≤ 1]
end
theorem Jkc {a:Int} {b:Int} (hW:∀ q ∈ ([u64 a,u64 b]:List Prop),q):∀ q ∈ (JDY a b),q := by
  simp only [awc,awn,and_true] at hW
  unfold JDY
  simp only [awc,awn,and_true]
  obtain ⟨ha,hb⟩ := hW
  have hf := Jtw ha hb
  have m1 := JeV (Jl a b) (Jl a b)
  have m0 := JgD (x := Jl a b) (y := Jl a b) ⟨hf.1,hf.2.2.2⟩ ⟨hf.1,hf.2.2.2⟩
  exact ⟨ha,hb,hb.1,m1.1,by decide,ha.1,m0.1,JuE _ _ _⟩
theorem Jml (a b m:Int) (hNeeds:∀ pN ∈ (JDY a b),pN):Runs (Jm (JC JIl) Zw 173) (JFB.args [.i a,.i b,.i m]) (JFB.memo [.i a,.i b,.i m] []) JFB.n (SV.tup [(false,[Ci (JUs a b m)]),(false,[Cb (JV7 a b m)])]) ([]) :=
  Runs.of1 (ps := (JDY a b)) (by kernel_rfl) hNeeds
def JSi:List Pm → Qs → Option CRes
  | [.i a,.i b,.i m],[] => some ⟨SV.tup [(false,[Ci (JUs a b m)]),(false,[Cb (JV7 a b m)])],
 [],[u64 a,u64 b],[],169⟩
  | _,_ => none
theorem JtT:Ql Tryz.prog 173 (JU JFB JSi) := by
  refine JI (JE JIO 173) fun ps ls r hr hn _ => ?_
  unfold JSi at hr
  split at hr
  · cases hr; exact ⟨_,Jml _ _ _ (Jkc (by exact hn)),fun _ => rfl⟩
  · cases hr
def Jeo:List (Nat × JY) := (173,JU JFB JSi) :: JIl
theorem JTW:Known Tryz.prog (JC Jeo) Zw := J7 JIO JtT
def JFf:Tpl := ⟨[.one (.int .i64),.one (.int .i64)],[],0⟩
section
variable (n m:Int)
def JET:Int:= bif decide (n < 0) || !(m == 0 || m == 1 || m == 2) then 0 else JUs 0 (IntKind.u64.wrap n) m
def JNe:Bool:= bif decide (n < 0) || !(m == 0 || m == 1 || m == 2) then false else JV7 0 (IntKind.u64.wrap n) m
def JE3:List Prop:= [(decide (n < 0) || !(m == 0 || m == 1 || m == 2)) = false → (Int.ofNat 0 ≤ 0 ∧ Int.ofNat 0 < 18446744073709551616) ∧ 0 ≤ IntKind.u64.wrap n ∧ IntKind.u64.wrap n < 18446744073709551616]
end
theorem JjR {n:Int} {m:Int} (hW:∀ q ∈ ([Xa n]:List Prop),q):∀ q ∈ (JE3 n m),q := by
  simp only [awc,awn,and_true] at hW
  unfold JE3
  simp only [awc,awn,and_true]
  intro _
  have := Juf n
  exact ⟨by decide,this.1,this.2⟩
theorem Jkh (n m:Int) (hNeeds:∀ pN ∈ (JE3 n m),pN):Runs (Jm (JC Jeo) Zw 162) (JFf.args [.i n,.i m]) (JFf.memo [.i n,.i m] []) JFf.n (SV.tup [(false,[Ci (JET n m)]),(false,[Cb (JNe n m)])]) ([]) :=
  Runs.of1 (ps := (JE3 n m)) (by kernel_rfl) hNeeds
def JRz:List Pm → Qs → Option CRes
  | [.i n,.i m],[] => some ⟨SV.tup [(false,[Ci (JET n m)]),(false,[Cb (JNe n m)])],
 [],[Xa n],[],201⟩
  | _,_ => none
theorem JtB:Ql Tryz.prog 162 (JU JFf JRz) := by
  refine JI (JE JTW 162) fun ps ls r hr hn _ => ?_
  unfold JRz at hr
  split at hr
  · cases hr; exact ⟨_,Jkh _ _ (JjR (by exact hn)),fun _ => rfl⟩
  · cases hr
def Jdl:List (Nat × JY) := (162,JU JFf JRz) :: Jeo
theorem JTG:Known Tryz.prog (JC Jdl) Zw := J7 JTW JtB
def JJs:Tpl := ⟨[.agg [.int .u64,.int .u64],.one (.int .u64)],[],0⟩
def JZr (a b c:Int):Bool := decide (ZF (ZF 0 a c) b c > 0)
def JHf (a b c:Int):List Prop := [Int.ofNat 0 ≤ 0,0 < c,0 ≤ a,a < 18446744073709551616,c < 18446744073709551616,0 ≤ ZF 0 a c,ZF 0 a c < c,0 ≤ b,b < 18446744073709551616,c < 18446744073709551616]
theorem JqD {a:Int} {b:Int} {c:Int} (hW:∀ q ∈ ([u64 a,u64 b,0 < c,c < 18446744073709551616]:List Prop),q):∀ q ∈ (JHf a b c),q := by
  simp only [awc,awn,and_true] at hW
  unfold JHf
  simp only [awc,awn,and_true]
  obtain ⟨ha,hb,hc,hc'⟩ := hW
  have hd := (JLK (a := 0) (b := a) (c := c) (by omega) hc ha.1 ha.2 hc').2
  have m3 := Int.emod_nonneg (0 * 18446744073709551616 + a) (show c ≠ 0 by omega)
  have m4 := Int.emod_lt_of_pos (0 * 18446744073709551616 + a) hc
  rw [← hd] at m3 m4
  exact ⟨by decide,hc,ha.1,ha.2,hc',m3,m4,hb.1,hb.2,hc'⟩
theorem Jq4 (a b c:Int) (hNeeds:∀ pN ∈ (JHf a b c),pN):Runs (Jm (JC Jdl) Zw 152) (JJs.args [.i a,.i b,.i c]) (JJs.memo [.i a,.i b,.i c] []) JJs.n (SV.tup [(true,[SC.int IntKind.u64 (SI.v (ZI 0 a c)),SC.int IntKind.u64 (SI.v (ZI (ZF 0 a c) b c))]),(false,[Cb (JZr a b c)])]) ([]) :=
  Runs.of1 (ps := (JHf a b c)) (by kernel_rfl) hNeeds
def JWn:List Pm → Qs → Option CRes
  | [.i a,.i b,.i c],[] => some ⟨SV.tup [(true,[SC.int IntKind.u64 (SI.v (ZI 0 a c)),SC.int IntKind.u64 (SI.v (ZI (ZF 0 a c) b c))]),(false,[Cb (JZr a b c)])],
 [],[u64 a,u64 b,0 < c,c < 18446744073709551616],[],389⟩
  | _,_ => none
theorem Juz:Ql Tryz.prog 152 (JU JJs JWn) := by
  refine JI (JE JTG 152) fun ps ls r hr hn _ => ?_
  unfold JWn at hr
  split at hr
  · cases hr; exact ⟨_,Jq4 _ _ _ (JqD (by exact hn)),fun _ => rfl⟩
  · cases hr
def Jla:List (Nat × JY) := (152,JU JJs JWn) :: Jdl
theorem JYB:Known Tryz.prog (JC Jla) Zw := J7 JTG Juz
def JFH:Tpl := ⟨[.one (.int .i64),.one (.int .i64),.one (.bool),.one (.bool)],[],0⟩
def JBN (m n:Int) (p q:Bool):Bool := bif m == 0 then p && q else bif m == 1 then p && !q else decide (n > 0) || n == 0 && !q
theorem Jkj (m n:Int) (p q:Bool):Runs (Jm (JC Jla) Zw 156) (JFH.args [.i m,.i n,.b p,.b q]) (JFH.memo [.i m,.i n,.b p,.b q] []) JFH.n (SV.one (Cb (JBN m n p q))) ([]) :=
  Runs.of1 (ps := []) (by kernel_rfl) (by simp)
def JRn:List Pm → Qs → Option CRes
  | [.i m,.i n,.b p,.b q],[] => some ⟨SV.one (Cb (JBN m n p q)),
 [],[],[],28⟩
  | _,_ => none
theorem JuX:Ql Tryz.prog 156 (JU JFH JRn) := by
  refine JI (JE JYB 156) fun ps ls r hr hn _ => ?_
  unfold JRn at hr
  split at hr
  · cases hr; exact ⟨_,Jkj _ _ _ _,fun _ => rfl⟩
  · cases hr
def JfK:List (Nat × JY) := (156,JU JFH JRn) :: Jla
theorem JTh:Known Tryz.prog (JC JfK) Zw := J7 JYB JuX
def JCW:Tpl := ⟨[.one (.int .u64),.one (.bool)],[],0⟩
def YY (n:Int) (p:Bool):Int := bif p && decide (n ≤ 9223372036854775808) then IntKind.i64.wrap (IntKind.u64.wrap (0 - n)) else bif !p && decide (n < 9223372036854775808) then IntKind.i64.wrap n else 0
def JCz (n:Int) (p:Bool):Bool := p && decide (n ≤ 9223372036854775808) || !p && decide (n < 9223372036854775808)
theorem JgS (n:Int) (p:Bool):Runs (Jm (JC JfK) Zw 157) (JCW.args [.i n,.b p]) (JCW.memo [.i n,.b p] []) JCW.n (SV.tup [(false,[Ci (YY n p)]),(false,[Cb (JCz n p)])]) ([]) :=
  Runs.of1 (ps := []) (by kernel_rfl) (by simp)
def JMR:List Pm → Qs → Option CRes
  | [.i n,.b p],[] => some ⟨SV.tup [(false,[Ci (YY n p)]),(false,[Cb (JCz n p)])],
 [],[],[],26⟩
  | _,_ => none
theorem JpA:Ql Tryz.prog 157 (JU JCW JMR) := by
  refine JI (JE JTh 157) fun ps ls r hr hn _ => ?_
  unfold JMR at hr
  split at hr
  · cases hr; exact ⟨_,JgS _ _,fun _ => rfl⟩
  · cases hr
def JaR:List (Nat × JY) := (157,JU JCW JMR) :: JfK
theorem JOr:Known Tryz.prog (JC JaR) Zw := J7 JTh JpA
theorem JhV {a b c:Int} (ha:u64 a) (hb:u64 b) (hc:0 < c) (hc':c < 18446744073709551616) :
    u64 (ZI 0 a c) ∧ u64 (ZI (ZF 0 a c) b c) ∧ ZI 0 a c * 18446744073709551616 + ZI (ZF 0 a c) b c = (a * 18446744073709551616 + b) / c ∧ JZr a b c = decide (0 < (a * 18446744073709551616 + b) % c) := by
  obtain ⟨e0,e1⟩ := JLK (a := 0) (b := a) (c := c) (by omega) hc ha.1 ha.2 hc'
  have m3 := Int.emod_nonneg (0 * 18446744073709551616 + a) (show c ≠ 0 by omega)
  have m4 := Int.emod_lt_of_pos (0 * 18446744073709551616 + a) hc
  have dm := Int.mul_ediv_add_emod (0 * 18446744073709551616 + a) c
  have q0 := Int.ediv_nonneg (show 0 ≤ 0 * 18446744073709551616 + a by omega) (show 0 ≤ c by omega)
  have q1 := Int.ediv_le_self c (show 0 ≤ 0 * 18446744073709551616 + a by omega)
  rw [← e1] at m3 m4 dm
  rw [← e0] at dm q0 q1
  obtain ⟨f0,f1⟩ := JLK (a := ZF 0 a c) (b := b) (c := c) m3 m4 hb.1 hb.2 hc'
  have hr:0 ≤ (ZF 0 a c * 18446744073709551616 + b) / c ∧ (ZF 0 a c * 18446744073709551616 + b) / c < 18446744073709551616 := by
    refine ⟨Int.ediv_nonneg (by omega) (by omega),Int.ediv_lt_of_lt_mul hc ?_⟩
    have := Int.mul_le_mul_of_nonneg_right (show ZF 0 a c + 1 ≤ c by omega) (show (0:Int) ≤ 18446744073709551616 by omega)
    have e:18446744073709551616 * c = c * 18446744073709551616 := Int.mul_comm _ _
    rw [e]
    omega
  have ex:a * 18446744073709551616 + b = (ZF 0 a c * 18446744073709551616 + b) + c * (ZI 0 a c * 18446744073709551616) := by
    have e:c * (ZI 0 a c * 18446744073709551616) = c * ZI 0 a c * 18446744073709551616 := by rw [Int.mul_assoc]
    rw [e]
    omega
  refine ⟨⟨q0,by omega⟩,by rw [f0]; exact hr,?_,?_⟩
  · rw [ex,Int.add_mul_ediv_left _ _ (show c ≠ 0 by omega),f0]
    omega
  · unfold JZr
    rw [f1,ex,Int.add_mul_emod_self_left]
def JGI:Tpl := ⟨[.one (.int .i64),.one (.int .i64),.one (.int .i64),.one (.int .i64)],[],0⟩
section
variable (a b n m:Int)
def Jp:Int:= IntKind.u64.wrap (2 * IntKind.u64.wrap (J6 a * J6 b))
def JCf:Int:= ZI (ZF 0 (QL (Jp a b) (Jp a b)) (IntKind.u64.wrap n)) (Qh (Jp a b) (Jp a b)) (IntKind.u64.wrap n)
def Yi:Int:= Jl (ZI 0 (QL (Jp a b) (Jp a b)) (IntKind.u64.wrap n)) (JCf a b n)
def JGD:Bool:= (Yi a b n).tmod 2 == 1
def JFA:Bool:= JZr (QL (Jp a b) (Jp a b)) (Qh (Jp a b) (Jp a b)) (IntKind.u64.wrap n) || !(QL (Yi a b n) (Yi a b n) == ZI 0 (QL (Jp a b) (Jp a b)) (IntKind.u64.wrap n) && Qh (Yi a b n) (Yi a b n) == JCf a b n)
def JIx:Bool:= decide (Qk a b < 0)
def Xl:Int:= bif decide (J6 a > 2147483648) || decide (J6 b > 2147483648) || decide (n < 1) || decide (n > 4611686018427387904) || !(m == 0 || m == 1 || m == 2) then 0 else YY (bif JBN m (bif JGD a b n then bif JFA a b n then 1 else 0 else -1) (JFA a b n || JGD a b n) (JIx a b) then IntKind.u64.wrap (IntKind.u64.wrap ((Yi a b n).tdiv 2) + 1) else IntKind.u64.wrap ((Yi a b n).tdiv 2)) (JIx a b)
def JVG:Bool:= bif decide (J6 a > 2147483648) || decide (J6 b > 2147483648) || decide (n < 1) || decide (n > 4611686018427387904) || !(m == 0 || m == 1 || m == 2) then false else JCz (bif JBN m (bif JGD a b n then bif JFA a b n then 1 else 0 else -1) (JFA a b n || JGD a b n) (JIx a b) then IntKind.u64.wrap (IntKind.u64.wrap ((Yi a b n).tdiv 2) + 1) else IntKind.u64.wrap ((Yi a b n).tdiv 2)) (JIx a b)
def JED:List Prop:= [(decide (J6 a > 2147483648) || decide (J6 b > 2147483648) || decide (n < 1) || decide (n > 4611686018427387904) || !(m == 0 || m == 1 || m == 2)) = false → (0 ≤ QL (Jp a b) (Jp a b) ∧ QL (Jp a b) (Jp a b) < 18446744073709551616) ∧ (0 ≤ Qh (Jp a b) (Jp a b) ∧ Qh (Jp a b) (Jp a b) < 18446744073709551616) ∧ 0 < IntKind.u64.wrap n ∧ IntKind.u64.wrap n < 18446744073709551616 ∧ (0 ≤ ZI 0 (QL (Jp a b) (Jp a b)) (IntKind.u64.wrap n) ∧ ZI 0 (QL (Jp a b) (Jp a b)) (IntKind.u64.wrap n) < 18446744073709551616) ∧ 0 ≤ JCf a b n ∧ JCf a b n < 18446744073709551616]
end
theorem Jjx {a:Int} {b:Int} {n:Int} {m:Int} (hW:∀ q ∈ ([Xa a,Xa b,Xa n]:List Prop),q):∀ q ∈ (JED a b n m),q := by
  simp only [awc,awn,and_true] at hW
  unfold JED
  simp only [awc,awn,and_true]
  obtain ⟨ha,hb,hn⟩ := hW
  intro h
  simp only [Bool.or_eq_false_iff,decide_eq_false_iff_not] at h
  have s0:u64 (Jp a b) := Juf _
  have h0 := JgD s0 s0
  have h1 := JeV (Jp a b) (Jp a b)
  have ew:IntKind.u64.wrap n = n := W2 (by omega) (by omega)
  have hq := JhV h0 h1 (c := n) (by omega) (by omega)
  rw [ew]
  unfold JCf
  rw [ew]
  exact ⟨h0,h1,by omega,by omega,hq.1,hq.2.1.1,hq.2.1.2⟩
theorem Jkl (a b n m:Int) (hNeeds:∀ pN ∈ (JED a b n m),pN):Runs (Jm (JC JaR) Zw 127) (JGI.args [.i a,.i b,.i n,.i m]) (JGI.memo [.i a,.i b,.i n,.i m] []) JGI.n (SV.tup [(false,[Ci (Xl a b n m)]),(false,[Cb (JVG a b n m)])]) ([]) :=
  Runs.of1 (ps := (JED a b n m)) (by kernel_rfl) hNeeds
def JSO:List Pm → Qs → Option CRes
  | [.i a,.i b,.i n,.i m],[] => some ⟨SV.tup [(false,[Ci (Xl a b n m)]),(false,[Cb (JVG a b n m)])],
 [],[Xa a,Xa b,Xa n],[],785⟩
  | _,_ => none
theorem JsW:Ql Tryz.prog 127 (JU JGI JSO) := by
  refine JI (JE JOr 127) fun ps ls r hr hn _ => ?_
  unfold JSO at hr
  split at hr
  · cases hr; exact ⟨_,Jkl _ _ _ _ (Jjx (by exact hn)),fun _ => rfl⟩
  · cases hr
def Jfk:List (Nat × JY) := (127,JU JGI JSO) :: JaR
theorem JUb:Known Tryz.prog (JC Jfk) Zw := J7 JOr JsW
def JPD:Tpl := ⟨[.one (.int .i64),.one (.int .i64)],[],0⟩
def Jd (n m:Int):Bool := decide (n ≥ IntKind.i64.wrap (0 - m)) && decide (n ≤ m)
theorem JsQ (n m:Int):Runs (Jm (JC Jfk) Zw 103) (JPD.args [.i n,.i m]) (JPD.memo [.i n,.i m] []) JPD.n (SV.one (Cb (Jd n m))) ([]) :=
  Runs.of1 (ps := []) (by kernel_rfl) (by simp)
def JfG:List Pm → Qs → Option CRes
  | [.i n,.i m],[] => some ⟨SV.one (Cb (Jd n m)),
 [],[],[],11⟩
  | _,_ => none
theorem JxF:Ql Tryz.prog 103 (JU JPD JfG) := by
  refine JI (JE JUb 103) fun ps ls r hr hn _ => ?_
  unfold JfG at hr
  split at hr
  · cases hr; exact ⟨_,JsQ _ _,fun _ => rfl⟩
  · cases hr
def Jum:List (Nat × JY) := (103,JU JPD JfG) :: Jfk
theorem Jcv:Known Tryz.prog (JC Jum) Zw := J7 JUb JxF
theorem j3 {n m:Int} (h:0 ≤ m) (h2:m ≤ 1000000000):Jd n m = true ↔ bd m n := by
  unfold Jd
  rw [X6 (x := 0 - m) (by omega) (by omega)]
  simp only [Bool.and_eq_true,decide_eq_true_eq]
  omega
def z6:Tpl := ⟨[.agg [.int .i64,.int .i64],.agg [.int .i64,.int .i64],.one (.int .i64)],[],0⟩
def JCD (a b c d s:Int):Int := bif JF a b c d == 0 && decide (J8 a b c d > 0) then 0 else bif decide (JF a b c d > 0) && decide (s > 0) || decide (JF a b c d < 0) && decide (s < 0) then 2 else 1
theorem JeZ (a b c d s:Int):Runs (Jm (JC Jum) Zw 107) (z6.args [.i a,.i b,.i c,.i d,.i s]) (z6.memo [.i a,.i b,.i c,.i d,.i s] []) z6.n (SV.one (Ci (JCD a b c d s))) ([]) :=
  Runs.of1 (ps := []) (by kernel_rfl) (by simp)
def JIs:List Pm → Qs → Option CRes
  | [.i a,.i b,.i c,.i d,.i s],[] => some ⟨SV.one (Ci (JCD a b c d s)),
 [],[],[],82⟩
  | _,_ => none
theorem JmA:Ql Tryz.prog 107 (JU z6 JIs) := by
  refine JI (JE Jcv 107) fun ps ls r hr hn _ => ?_
  unfold JIs at hr
  split at hr
  · cases hr; exact ⟨_,JeZ _ _ _ _ _,fun _ => rfl⟩
  · cases hr
def JRN:List (Nat × JY) := (107,JU z6 JIs) :: Jum
theorem JLr:Known Tryz.prog (JC JRN) Zw := J7 Jcv JmA
theorem JmO {p0 p1 t0 t1 r:Int} (h:(t0 == 0 && t1 == 0 || !Jd t0 4194304 || !Jd t1 4194304 || !Jd p0 1048576 || !Jd p1 1048576 || !Jd r 32768) = false):(t0 ≠ 0 ∨ t1 ≠ 0) ∧ bd 4194304 t0 ∧ bd 4194304 t1 ∧ bd 1048576 p0 ∧ bd 1048576 p1 ∧ bd 32768 r := by
  simp only [Bool.or_eq_false_iff,Bool.not_eq_false',Bool.and_eq_false_iff,beq_eq_false_iff_ne] at h
  obtain ⟨⟨⟨⟨⟨h0,h1⟩,h2⟩,h3⟩,h4⟩,h5⟩ := h
  exact ⟨h0,(j3 (by omega) (by omega)).1 h1,(j3 (by omega) (by omega)).1 h2,(j3 (by omega) (by omega)).1 h3,(j3 (by omega) (by omega)).1 h4,(j3 (by omega) (by omega)).1 h5⟩
def zK:Tpl := ⟨[.agg [.int .i64,.int .i64],.agg [.int .i64,.int .i64],.one (.int .i64)],[],0⟩
section
variable (p0 p1 t0 t1 r:Int)
def XH:Int:= bif t0 == 0 && t1 == 0 || !Jd t0 4194304 || !Jd t1 4194304 || !Jd p0 1048576 || !Jd p1 1048576 || !Jd r 32768 then 0 else JG p0 (Xl (IntKind.i64.wrap (0 - t1)) r (J8 t0 t1 t0 t1) 2)
def XM:Int:= bif t0 == 0 && t1 == 0 || !Jd t0 4194304 || !Jd t1 4194304 || !Jd p0 1048576 || !Jd p1 1048576 || !Jd r 32768 then 0 else JG p1 (Xl t0 r (J8 t0 t1 t0 t1) 2)
def JLL:Bool:= !(t0 == 0 && t1 == 0 || !Jd t0 4194304 || !Jd t1 4194304 || !Jd p0 1048576 || !Jd p1 1048576 || !Jd r 32768)
def JWA:Prop:= -9223372036854775808 ≤ J8 t0 t1 t0 t1 ∧ J8 t0 t1 t0 t1 < 9223372036854775808
def q9:List Prop:= [(t0 == 0 && t1 == 0 || !Jd t0 4194304 || !Jd t1 4194304 || !Jd p0 1048576 || !Jd p1 1048576 || !Jd r 32768) = false → (-9223372036854775808 ≤ IntKind.i64.wrap (0 - t1) ∧ IntKind.i64.wrap (0 - t1) < 9223372036854775808) ∧ (-9223372036854775808 ≤ r ∧ r < 9223372036854775808) ∧ JWA t0 t1 ∧ (-9223372036854775808 ≤ t0 ∧ t0 < 9223372036854775808) ∧ (-9223372036854775808 ≤ r ∧ r < 9223372036854775808) ∧ JWA t0 t1]
end
theorem Jfi {p0:Int} {p1:Int} {t0:Int} {t1:Int} {r:Int}:∀ q ∈ (q9 p0 p1 t0 t1 r),q := by
  unfold q9
  simp only [awc,awn,and_true]
  intro h
  obtain ⟨h0,h1,h2,h3,h4,h5⟩ := JmO h
  exact ⟨Jk _,⟨by omega,by omega⟩,Jk _,⟨by omega,by omega⟩,⟨by omega,by omega⟩,Jk _⟩
theorem JfM (p0 p1 t0 t1 r:Int) (hNeeds:∀ pN ∈ (q9 p0 p1 t0 t1 r),pN):Runs (Jm (JC JRN) Zw 100) (zK.args [.i p0,.i p1,.i t0,.i t1,.i r]) (zK.memo [.i p0,.i p1,.i t0,.i t1,.i r] []) zK.n (SV.tup [(true,[Ci (XH p0 p1 t0 t1 r),Ci (XM p0 p1 t0 t1 r)]),(false,[Cb (JLL p0 p1 t0 t1 r)])]) ([]) :=
  Runs.of1 (ps := (q9 p0 p1 t0 t1 r)) (by kernel_rfl) hNeeds
def JKL:List Pm → Qs → Option CRes
  | [.i p0,.i p1,.i t0,.i t1,.i r],[] => some ⟨SV.tup [(true,[Ci (XH p0 p1 t0 t1 r),Ci (XM p0 p1 t0 t1 r)]),(false,[Cb (JLL p0 p1 t0 t1 r)])],
 [],[],[],1758⟩
  | _,_ => none
theorem Jmp:Ql Tryz.prog 100 (JU zK JKL) := by
  refine JI (JE JLr 100) fun ps ls r hr hn _ => ?_
  unfold JKL at hr
  split at hr
  · cases hr; exact ⟨_,JfM _ _ _ _ _ (fun p hp => Jfi p hp),fun _ => rfl⟩
  · cases hr
def JQZ:List (Nat × JY) := (100,JU zK JKL) :: JRN
theorem JLU:Known Tryz.prog (JC JQZ) Zw := J7 JLr Jmp
def JA3:Tpl := ⟨[.agg [.int .i64,.int .i64,.int .i64,.int .i64,.int .i64,.int .i64,.int .i64,.bool],.one (.int .i64)],[],0⟩
def YL (e6 r:Int):Bool := decide (e6 > 0) && decide (r ≥ 0) || decide (e6 < 0) && decide (r < 0)
theorem Jdu (e0 e1 e2 e3 e4 e5 e6:Int) (e7:Bool) (r:Int):Runs (Jm (JC JQZ) Zw 98) (JA3.args [.i e0,.i e1,.i e2,.i e3,.i e4,.i e5,.i e6,.b e7,.i r]) (JA3.memo [.i e0,.i e1,.i e2,.i e3,.i e4,.i e5,.i e6,.b e7,.i r] []) JA3.n (SV.one (Cb (YL e6 r))) ([]) :=
  Runs.of1 (ps := []) (by kernel_rfl) (by simp)
def JIp:List Pm → Qs → Option CRes
  | [.i e0,.i e1,.i e2,.i e3,.i e4,.i e5,.i e6,.b e7,.i r],[] => some ⟨SV.one (Cb (YL e6 r)),
 [],[],[],30⟩
  | _,_ => none
theorem Jls:Ql Tryz.prog 98 (JU JA3 JIp) := by
  refine JI (JE JLU 98) fun ps ls r hr hn _ => ?_
  unfold JIp at hr
  split at hr
  · cases hr; exact ⟨_,Jdu _ _ _ _ _ _ _ _ _,fun _ => rfl⟩
  · cases hr
def JQ0:List (Nat × JY) := (98,JU JA3 JIp) :: JQZ
theorem JM2:Known Tryz.prog (JC JQ0) Zw := J7 JLU Jls
def kZ:Tpl := ⟨[.one (.int .i64),.one (.int .i64),.one (.int .i64)],[],0⟩
section
variable (a b c:Int)
def JHd:Int:= IntKind.i64.wrap (IntKind.i64.wrap (c - a) - IntKind.i64.wrap (b * b))
def JaQ:Int:= JNJ (IntKind.i64.wrap (IntKind.i64.wrap (4 * b) * b)) a (JHd a b c) (JHd a b c)
def JCG:Bool:= decide (JHd a b c ≥ 0) && decide (JaQ a b c ≤ 0)
end
theorem Jei (a b c:Int):Runs (Jm (JC JQ0) Zw 159) (kZ.args [.i a,.i b,.i c]) (kZ.memo [.i a,.i b,.i c] []) kZ.n (SV.one (Cb (JCG a b c))) ([]) :=
  Runs.of1 (ps := []) (by kernel_rfl) (by simp)
def JIe:List Pm → Qs → Option CRes
  | [.i a,.i b,.i c],[] => some ⟨SV.one (Cb (JCG a b c)),
 [],[],[],309⟩
  | _,_ => none
theorem Jjf:Ql Tryz.prog 159 (JU kZ JIe) := by
  refine JI (JE JM2 159) fun ps ls r hr hn _ => ?_
  unfold JIe at hr
  split at hr
  · cases hr; exact ⟨_,Jei _ _ _,fun _ => rfl⟩
  · cases hr
def JRv:List (Nat × JY) := (159,JU kZ JIe) :: JQ0
theorem JLf:Known Tryz.prog (JC JRv) Zw := J7 JM2 Jjf
def JDN:Tpl := ⟨[.agg [.int .i64,.int .i64,.int .i64,.int .i64,.int .i64,.int .i64,.int .i64,.bool],.agg [.int .i64,.int .i64],.one (.int .i64)],[],0⟩
section
variable (e0 e1 e2 e3 e4 e5 e6 y0 y1 r:Int)
def JQ9:Int:= JNJ (JF (J1 e2 e0) (J1 e3 e1) (J1 y0 e0) (J1 y1 e1)) (JF (J1 e2 e0) (J1 e3 e1) (J1 y0 e0) (J1 y1 e1)) (IntKind.i64.wrap (r * r)) (J8 (J1 e2 e0) (J1 e3 e1) (J1 e2 e0) (J1 e3 e1))
def YJ:Int:=
 if IntKind.i64.wrap (0 - r) > r then IntKind.i64.wrap (0 - r) else r
def ZX:Bool:= bif e6 == 0 then (decide (r ≥ 0) && decide (JF (J1 e2 e0) (J1 e3 e1) (J1 y0 e0) (J1 y1 e1) ≥ 0) || decide (r < 0) && decide (JF (J1 e2 e0) (J1 e3 e1) (J1 y0 e0) (J1 y1 e1) ≤ 0)) && decide (JQ9 e0 e1 e2 e3 y0 y1 r ≥ 0) else bif YL e6 r then JCG (J8 (J1 y0 e4) (J1 y1 e5) (J1 y0 e4) (J1 y1 e5)) (YJ r) (J8 (J1 e2 e4) (J1 e3 e5) (J1 e2 e4) (J1 e3 e5)) else JCG (J8 (J1 e2 e4) (J1 e3 e5) (J1 e2 e4) (J1 e3 e5)) (YJ r) (J8 (J1 y0 e4) (J1 y1 e5) (J1 y0 e4) (J1 y1 e5))
end
theorem Jgq (e0 e1 e2 e3 e4 e5 e6:Int) (e7:Bool) (y0 y1 r:Int):Runs (Jm (JC JRv) Zw 134) (JDN.args [.i e0,.i e1,.i e2,.i e3,.i e4,.i e5,.i e6,.b e7,.i y0,.i y1,.i r]) (JDN.memo [.i e0,.i e1,.i e2,.i e3,.i e4,.i e5,.i e6,.b e7,.i y0,.i y1,.i r] []) JDN.n (SV.one (Cb (ZX e0 e1 e2 e3 e4 e5 e6 y0 y1 r))) ([]) :=
  Runs.of1 (ps := []) (by kernel_rfl) (by simp)
def JNU:List Pm → Qs → Option CRes
  | [.i e0,.i e1,.i e2,.i e3,.i e4,.i e5,.i e6,.b e7,.i y0,.i y1,.i r],[] => some ⟨SV.one (Cb (ZX e0 e1 e2 e3 e4 e5 e6 y0 y1 r)),
 [],[],[],1236⟩
  | _,_ => none
theorem Jpe:Ql Tryz.prog 134 (JU JDN JNU) := by
  refine JI (JE JLf 134) fun ps ls r hr hn _ => ?_
  unfold JNU at hr
  split at hr
  · cases hr; exact ⟨_,Jgq _ _ _ _ _ _ _ _ _ _ _,fun _ => rfl⟩
  · cases hr
def JXa:List (Nat × JY) := (134,JU JDN JNU) :: JRv
theorem JPH:Known Tryz.prog (JC JXa) Zw := J7 JLf Jpe
def JJ5:Tpl := ⟨[.one (.int .i64),.agg [.int .i64,.int .i64,.int .i64]],[],0⟩
section
variable (p a b c:Int)
def J4:Int:= bif p == 17 then a else bif p == 18 then c else bif p == 19 then b else 0
def J5:Int:= bif p == 17 then b else bif p == 18 then a else bif p == 19 then c else 0
def J9:Int:= bif p == 17 then c else bif p == 18 then b else bif p == 19 then a else 0
def Kk:Bool:= p == 17 || (p == 18 || p == 19)
end
theorem JpZ (p a b c:Int):Runs (Jm (JC JXa) Zw 96) (JJ5.args [.i p,.i a,.i b,.i c]) (JJ5.memo [.i p,.i a,.i b,.i c] []) JJ5.n (SV.tup [(true,[Ci (J4 p a b c),Ci (J5 p a b c)]),(false,[Ci (J9 p a b c)]),(false,[Cb (Kk p)])]) ([]) :=
  Runs.of1 (ps := []) (by kernel_rfl) (by simp)
def JWw:List Pm → Qs → Option CRes
  | [.i p,.i a,.i b,.i c],[] => some ⟨SV.tup [(true,[Ci (J4 p a b c),Ci (J5 p a b c)]),(false,[Ci (J9 p a b c)]),(false,[Cb (Kk p)])],
 [],[],[],66⟩
  | _,_ => none
theorem JKW:Ql Tryz.prog 96 (JU JJ5 JWw) := by
  refine JI (JE JPH 96) fun ps ls r hr hn _ => ?_
  unfold JWw at hr
  split at hr
  · cases hr; exact ⟨_,JpZ _ _ _ _,fun _ => rfl⟩
  · cases hr
def Jkm:List (Nat × JY) := (96,JU JJ5 JWw) :: JXa
theorem JZL:Known Tryz.prog (JC Jkm) Zw := J7 JPH JKW
def JFq:Tpl := ⟨[.one (.int .i64),.agg [.int .i64,.int .i64],.one (.int .i64)],[],0⟩
section
variable (p u w h:Int)
def JQ:Int:= bif p == 17 then u else bif p == 18 then w else bif p == 19 then h else 0
def JR:Int:= bif p == 17 then w else bif p == 18 then h else bif p == 19 then u else 0
def JS:Int:= bif p == 17 then h else bif p == 18 then u else bif p == 19 then w else 0
end
theorem Jmq (p u w h:Int):Runs (Jm (JC Jkm) Zw 131) (JFq.args [.i p,.i u,.i w,.i h]) (JFq.memo [.i p,.i u,.i w,.i h] []) JFq.n (SV.tup [(true,[Ci (JQ p u w h),Ci (JR p u w h),Ci (JS p u w h)]),(false,[Cb (Kk p)])]) ([]) :=
  Runs.of1 (ps := []) (by kernel_rfl) (by simp)
def JPr:List Pm → Qs → Option CRes
  | [.i p,.i u,.i w,.i h],[] => some ⟨SV.tup [(true,[Ci (JQ p u w h),Ci (JR p u w h),Ci (JS p u w h)]),(false,[Cb (Kk p)])],
 [],[],[],65⟩
  | _,_ => none
theorem Js3:Ql Tryz.prog 131 (JU JFq JPr) := by
  refine JI (JE JZL 131) fun ps ls r hr hn _ => ?_
  unfold JPr at hr
  split at hr
  · cases hr; exact ⟨_,Jmq _ _ _ _,fun _ => rfl⟩
  · cases hr
def Jf9:List (Nat × JY) := (131,JU JFq JPr) :: Jkm
theorem JU7:Known Tryz.prog (JC Jf9) Zw := J7 JZL Js3
def ko:Tpl := ⟨[.agg [.int .i64,.int .i64,.int .i64]],[],0⟩
def XK (a b c:Int):Bool := decide (a ≥ -1048576) && decide (a ≤ 1048576) && (decide (b ≥ -1048576) && decide (b ≤ 1048576)) && (decide (c ≥ -1048576) && decide (c ≤ 1048576))
theorem JfV (a b c:Int):Runs (Jm (JC Jf9) Zw 93) (ko.args [.i a,.i b,.i c]) (ko.memo [.i a,.i b,.i c] []) ko.n (SV.one (Cb (XK a b c))) ([]) :=
  Runs.of1 (ps := []) (by kernel_rfl) (by simp)
def JIT:List Pm → Qs → Option CRes
  | [.i a,.i b,.i c],[] => some ⟨SV.one (Cb (XK a b c)),
 [],[],[],44⟩
  | _,_ => none
theorem JkE:Ql Tryz.prog 93 (JU ko JIT) := by
  refine JI (JE JU7 93) fun ps ls r hr hn _ => ?_
  unfold JIT at hr
  split at hr
  · cases hr; exact ⟨_,JfV _ _ _,fun _ => rfl⟩
  · cases hr
def JSw:List (Nat × JY) := (93,JU ko JIT) :: Jf9
theorem JLj:Known Tryz.prog (JC JSw) Zw := J7 JU7 JkE
def zI:Tpl := ⟨[.one (.int .i64),.one (.int .i64)],[],0⟩
section
variable (a b:Int)
def WU:Int:=
 IntKind.i64.wrap (IntKind.i64.wrap ((if b > a then b else a) - if b < a then b else a) - 16)
def JWs:Int:=
 JNJ (WU a b) (WU a b) 64 (if b < a then b else a)
def jR:Bool:= decide (WU a b ≤ 0) || decide (JWs a b ≤ 0)
end
theorem JdT (a b:Int):Runs (Jm (JC JSw) Zw 125) (zI.args [.i a,.i b]) (zI.memo [.i a,.i b] []) zI.n (SV.one (Cb (jR a b))) ([]) :=
  Runs.of1 (ps := []) (by kernel_rfl) (by simp)
def JK7:List Pm → Qs → Option CRes
  | [.i a,.i b],[] => some ⟨SV.one (Cb (jR a b)),
 [],[],[],310⟩
  | _,_ => none
theorem JkN:Ql Tryz.prog 125 (JU zI JK7) := by
  refine JI (JE JLj 125) fun ps ls r hr hn _ => ?_
  unfold JK7 at hr
  split at hr
  · cases hr; exact ⟨_,JdT _ _,fun _ => rfl⟩
  · cases hr
def JRr:List (Nat × JY) := (125,JU zI JK7) :: JSw
theorem JLT:Known Tryz.prog (JC JRr) Zw := J7 JLj JkN
def kD:Tpl := ⟨[.agg [.int .i64,.int .i64],.agg [.int .i64,.int .i64]],[],0⟩
def XF (a b c d:Int):Bool := JF a b c d == 0 && decide (J8 a b c d > 0)
theorem JeR (a b c d:Int):Runs (Jm (JC JRr) Zw 126) (kD.args [.i a,.i b,.i c,.i d]) (kD.memo [.i a,.i b,.i c,.i d] []) kD.n (SV.one (Cb (XF a b c d))) ([]) :=
  Runs.of1 (ps := []) (by kernel_rfl) (by simp)
def JIq:List Pm → Qs → Option CRes
  | [.i a,.i b,.i c,.i d],[] => some ⟨SV.one (Cb (XF a b c d)),
 [],[],[],62⟩
  | _,_ => none
theorem Jlj:Ql Tryz.prog 126 (JU kD JIq) := by
  refine JI (JE JLT 126) fun ps ls r hr hn _ => ?_
  unfold JIq at hr
  split at hr
  · cases hr; exact ⟨_,JeR _ _ _ _,fun _ => rfl⟩
  · cases hr
def JRq:List (Nat × JY) := (126,JU kD JIq) :: JRr
theorem JLa:Known Tryz.prog (JC JRq) Zw := J7 JLT Jlj
def JGb:Tpl := ⟨[.agg [.int .i64,.int .i64,.int .i64,.int .i64,.int .i64,.int .i64,.int .i64,.bool]],[],0⟩
section
variable (e4 e6:Int) (e7:Bool)
def Q9:Int:= bif e6 != 0 then 3 else 2
def JP:Int:= bif e6 != 0 then e4 else 0
def Jo:Int:= bif e6 != 0 then e6 else 0
def JNo:Bool:= e6 != 0 && e7
end
theorem Jj7 (e0 e1 e2 e3 e4 e5 e6:Int) (e7:Bool):Runs (Jm (JC JRq) Zw 102) (JGb.args [.i e0,.i e1,.i e2,.i e3,.i e4,.i e5,.i e6,.b e7]) (JGb.memo [.i e0,.i e1,.i e2,.i e3,.i e4,.i e5,.i e6,.b e7] []) JGb.n (SV.agg [Ci (Q9 e6),SC.int IntKind.i64 (SI.c 0),Ci e0,Ci e1,SC.int IntKind.i64 (SI.c 0),Ci e2,Ci e3,SC.int IntKind.i64 (SI.c 0),SC.int IntKind.i64 (SI.c 17),Ci (JP e4 e6),Ci (JP e5 e6),SC.int IntKind.i64 (SI.c 0),Ci (Jo e6),Cb (JNo e6 e7),SC.int IntKind.i64 (SI.c 0),SC.bool (SB.c false),SC.int IntKind.i64 (SI.c 0),SC.int IntKind.i64 (SI.c 0),SC.int IntKind.i64 (SI.c 0),SC.int IntKind.i64 (SI.c 0),SC.int IntKind.i64 (SI.c 0),SC.bool (SB.c false)]) ([]) :=
  Runs.of1 (ps := []) (by kernel_rfl) (by simp)
def JRl:List Pm → Qs → Option CRes
  | [.i e0,.i e1,.i e2,.i e3,.i e4,.i e5,.i e6,.b e7],[] => some ⟨SV.agg [Ci (Q9 e6),SC.int IntKind.i64 (SI.c 0),Ci e0,Ci e1,SC.int IntKind.i64 (SI.c 0),Ci e2,Ci e3,SC.int IntKind.i64 (SI.c 0),SC.int IntKind.i64 (SI.c 17),Ci (JP e4 e6),Ci (JP e5 e6),SC.int IntKind.i64 (SI.c 0),Ci (Jo e6),Cb (JNo e6 e7),SC.int IntKind.i64 (SI.c 0),SC.bool (SB.c false),SC.int IntKind.i64 (SI.c 0),SC.int IntKind.i64 (SI.c 0),SC.int IntKind.i64 (SI.c 0),SC.int IntKind.i64 (SI.c 0),SC.int IntKind.i64 (SI.c 0),SC.bool (SB.c false)],
 [],[],[],206⟩
  | _,_ => none
theorem JtC:Ql Tryz.prog 102 (JU JGb JRl) := by
  refine JI (JE JLa 102) fun ps ls r hr hn _ => ?_
  unfold JRl at hr
  split at hr
  · cases hr; exact ⟨_,Jj7 _ _ _ _ _ _ _ _,fun _ => rfl⟩
  · cases hr
def JfC:List (Nat × JY) := (102,JU JGb JRl) :: JRq
theorem JTj:Known Tryz.prog (JC JfC) Zw := J7 JLa JtC
def qo:Tpl := ⟨[.agg pI],[],0⟩
def Jf (f0 f1 f2 p c0 c1 c2:Int):Int := IntKind.i64.wrap (J4 p f0 f1 f2 - J4 p c0 c1 c2)
def Ji (f0 f1 f2 p c0 c1 c2:Int):Int := IntKind.i64.wrap (J5 p f0 f1 f2 - J5 p c0 c1 c2)
theorem JgK (k bl f0 f1 f2 t0 t1 t2 p c0 c1 c2 d:Int) (fu:Bool) (fe:Int) (pr:Bool) (si ra be n sp:Int) (on:Bool):Runs (Jm (JC JfC) Zw 124) (qo.args [.i k,.i bl,.i f0,.i f1,.i f2,.i t0,.i t1,.i t2,.i p,.i c0,.i c1,.i c2,.i d,.b fu,.i fe,.b pr,.i si,.i ra,.i be,.i n,.i sp,.b on]) (qo.memo [.i k,.i bl,.i f0,.i f1,.i f2,.i t0,.i t1,.i t2,.i p,.i c0,.i c1,.i c2,.i d,.b fu,.i fe,.b pr,.i si,.i ra,.i be,.i n,.i sp,.b on] []) qo.n (SV.tup [(true,[Ci (Jf f0 f1 f2 p c0 c1 c2),Ci (Ji f0 f1 f2 p c0 c1 c2)]),(true,[Ci (Jf t0 t1 t2 p c0 c1 c2),Ci (Ji t0 t1 t2 p c0 c1 c2)])]) ([]) :=
  Runs.of1 (ps := []) (by kernel_rfl) (by simp)
def JJl:List Pm → Qs → Option CRes
  | [.i k,.i bl,.i f0,.i f1,.i f2,.i t0,.i t1,.i t2,.i p,.i c0,.i c1,.i c2,.i d,.b fu,.i fe,.b pr,.i si,.i ra,.i be,.i n,.i sp,.b on],[] => some ⟨SV.tup [(true,[Ci (Jf f0 f1 f2 p c0 c1 c2),Ci (Ji f0 f1 f2 p c0 c1 c2)]),(true,[Ci (Jf t0 t1 t2 p c0 c1 c2),Ci (Ji t0 t1 t2 p c0 c1 c2)])],
 [],[],[],312⟩
  | _,_ => none
theorem Jmt:Ql Tryz.prog 124 (JU qo JJl) := by
  refine JI (JE JTj 124) fun ps ls r hr hn _ => ?_
  unfold JJl at hr
  split at hr
  · cases hr; exact ⟨_,JgK _ _ _ _ _ _ _ _ _ _ _ _ _ _ _ _ _ _ _ _ _ _,fun _ => rfl⟩
  · cases hr
def JQS:List (Nat × JY) := (124,JU qo JJl) :: JfC
theorem JLq:Known Tryz.prog (JC JQS) Zw := J7 JTj Jmt
def JFr:Tpl := ⟨[.agg pI,.one (.bool)],[],0⟩
section
variable (k f0 f1 f2 t0 t1 t2 p c0 c1 c2 d:Int) (e:Bool)
def Jh4:Int:= bif e then Ji t0 t1 t2 p c0 c1 c2 else Ji f0 f1 f2 p c0 c1 c2
def Z6:Int:= bif k != 3 then IntKind.i64.wrap (J4 p t0 t1 t2 - J4 p f0 f1 f2) else bif decide (d < 0) then Jh4 f0 f1 f2 t0 t1 t2 p c0 c1 c2 e else IntKind.i64.wrap (0 - Jh4 f0 f1 f2 t0 t1 t2 p c0 c1 c2 e)
def Jhe:Int:= bif e then Jf t0 t1 t2 p c0 c1 c2 else Jf f0 f1 f2 p c0 c1 c2
def Z5:Int:= bif k != 3 then IntKind.i64.wrap (J5 p t0 t1 t2 - J5 p f0 f1 f2) else bif decide (d < 0) then IntKind.i64.wrap (0 - Jhe f0 f1 f2 t0 t1 t2 p c0 c1 c2 e) else Jhe f0 f1 f2 t0 t1 t2 p c0 c1 c2 e
end
theorem Jm0 (k bl f0 f1 f2 t0 t1 t2 p c0 c1 c2 d:Int) (fu:Bool) (fe:Int) (pr:Bool) (si ra be n sp:Int) (on e:Bool):Runs (Jm (JC JQS) Zw 101) (JFr.args [.i k,.i bl,.i f0,.i f1,.i f2,.i t0,.i t1,.i t2,.i p,.i c0,.i c1,.i c2,.i d,.b fu,.i fe,.b pr,.i si,.i ra,.i be,.i n,.i sp,.b on,.b e]) (JFr.memo [.i k,.i bl,.i f0,.i f1,.i f2,.i t0,.i t1,.i t2,.i p,.i c0,.i c1,.i c2,.i d,.b fu,.i fe,.b pr,.i si,.i ra,.i be,.i n,.i sp,.b on,.b e] []) JFr.n (SV.agg [Ci (Z6 k f0 f1 f2 t0 t1 t2 p c0 c1 c2 d e),Ci (Z5 k f0 f1 f2 t0 t1 t2 p c0 c1 c2 d e)]) ([]) :=
  Runs.of1 (ps := []) (by kernel_rfl) (by simp)
def JQu:List Pm → Qs → Option CRes
  | [.i k,.i bl,.i f0,.i f1,.i f2,.i t0,.i t1,.i t2,.i p,.i c0,.i c1,.i c2,.i d,.b fu,.i fe,.b pr,.i si,.i ra,.i be,.i n,.i sp,.b on,.b e],[] => some ⟨SV.agg [Ci (Z6 k f0 f1 f2 t0 t1 t2 p c0 c1 c2 d e),Ci (Z5 k f0 f1 f2 t0 t1 t2 p c0 c1 c2 d e)],
 [],[],[],576⟩
  | _,_ => none
theorem Jua:Ql Tryz.prog 101 (JU JFr JQu) := by
  refine JI (JE JLq 101) fun ps ls r hr hn _ => ?_
  unfold JQu at hr
  split at hr
  · cases hr; exact ⟨_,Jm0 _ _ _ _ _ _ _ _ _ _ _ _ _ _ _ _ _ _ _ _ _ _ _,fun _ => rfl⟩
  · cases hr
def Jer:List (Nat × JY) := (101,JU JFr JQu) :: JQS
theorem JUL:Known Tryz.prog (JC Jer) Zw := J7 JLq Jua
def JEm:Tpl := ⟨[.agg [.int .i64,.int .i64,.int .i64,.int .i64,.int .i64,.int .i64,.int .i64,.bool],.one (.int .i64)],[],0⟩
section
variable (e0 e1 e2 e3 e4 e5 e6 r:Int)
def Za:Int:=
 IntKind.i64.wrap ((if IntKind.i64.wrap (0 - r) > r then IntKind.i64.wrap (0 - r) else r) + 8)
def JZp:Int:= XH e0 e1 (Z6 (Q9 e6) e0 e1 0 e2 e3 0 17 (JP e4 e6) (JP e5 e6) 0 (Jo e6) false) (Z5 (Q9 e6) e0 e1 0 e2 e3 0 17 (JP e4 e6) (JP e5 e6) 0 (Jo e6) false) r
def JaB:Int:= bif !Jd (JZp e0 e1 e2 e3 e4 e5 e6 r) 1048576 then 0 else bif !Jd (XM e0 e1 (Z6 (Q9 e6) e0 e1 0 e2 e3 0 17 (JP e4 e6) (JP e5 e6) 0 (Jo e6) false) (Z5 (Q9 e6) e0 e1 0 e2 e3 0 17 (JP e4 e6) (JP e5 e6) 0 (Jo e6) false) r) 1048576 then 0 else bif !Jd (XH e2 e3 (Z6 (Q9 e6) e0 e1 0 e2 e3 0 17 (JP e4 e6) (JP e5 e6) 0 (Jo e6) true) (Z5 (Q9 e6) e0 e1 0 e2 e3 0 17 (JP e4 e6) (JP e5 e6) 0 (Jo e6) true) r) 1048576 then 0 else bif !Jd (XM e2 e3 (Z6 (Q9 e6) e0 e1 0 e2 e3 0 17 (JP e4 e6) (JP e5 e6) 0 (Jo e6) true) (Z5 (Q9 e6) e0 e1 0 e2 e3 0 17 (JP e4 e6) (JP e5 e6) 0 (Jo e6) true) r) 1048576 then 0 else JZp e0 e1 e2 e3 e4 e5 e6 r
def XN:Int:= bif e6 != 0 && YL e6 r then bif decide (J8 (J1 e0 e4) (J1 e1 e5) (J1 e0 e4) (J1 e1 e5) < IntKind.i64.wrap (Za r * Za r)) then 0 else bif decide (J8 (J1 e2 e4) (J1 e3 e5) (J1 e2 e4) (J1 e3 e5) < IntKind.i64.wrap (Za r * Za r)) then 0 else JaB e0 e1 e2 e3 e4 e5 e6 r else JaB e0 e1 e2 e3 e4 e5 e6 r
def JVv:Int:= XM e0 e1 (Z6 (Q9 e6) e0 e1 0 e2 e3 0 17 (JP e4 e6) (JP e5 e6) 0 (Jo e6) false) (Z5 (Q9 e6) e0 e1 0 e2 e3 0 17 (JP e4 e6) (JP e5 e6) 0 (Jo e6) false) r
def JZF:Int:= bif !Jd (XH e0 e1 (Z6 (Q9 e6) e0 e1 0 e2 e3 0 17 (JP e4 e6) (JP e5 e6) 0 (Jo e6) false) (Z5 (Q9 e6) e0 e1 0 e2 e3 0 17 (JP e4 e6) (JP e5 e6) 0 (Jo e6) false) r) 1048576 then 0 else bif !Jd (JVv e0 e1 e2 e3 e4 e5 e6 r) 1048576 then 0 else bif !Jd (XH e2 e3 (Z6 (Q9 e6) e0 e1 0 e2 e3 0 17 (JP e4 e6) (JP e5 e6) 0 (Jo e6) true) (Z5 (Q9 e6) e0 e1 0 e2 e3 0 17 (JP e4 e6) (JP e5 e6) 0 (Jo e6) true) r) 1048576 then 0 else bif !Jd (XM e2 e3 (Z6 (Q9 e6) e0 e1 0 e2 e3 0 17 (JP e4 e6) (JP e5 e6) 0 (Jo e6) true) (Z5 (Q9 e6) e0 e1 0 e2 e3 0 17 (JP e4 e6) (JP e5 e6) 0 (Jo e6) true) r) 1048576 then 0 else JVv e0 e1 e2 e3 e4 e5 e6 r
def XO:Int:= bif e6 != 0 && YL e6 r then bif decide (J8 (J1 e0 e4) (J1 e1 e5) (J1 e0 e4) (J1 e1 e5) < IntKind.i64.wrap (Za r * Za r)) then 0 else bif decide (J8 (J1 e2 e4) (J1 e3 e5) (J1 e2 e4) (J1 e3 e5) < IntKind.i64.wrap (Za r * Za r)) then 0 else JZF e0 e1 e2 e3 e4 e5 e6 r else JZF e0 e1 e2 e3 e4 e5 e6 r
def Jap:Int:= XH e2 e3 (Z6 (Q9 e6) e0 e1 0 e2 e3 0 17 (JP e4 e6) (JP e5 e6) 0 (Jo e6) true) (Z5 (Q9 e6) e0 e1 0 e2 e3 0 17 (JP e4 e6) (JP e5 e6) 0 (Jo e6) true) r
def JZD:Int:= bif !Jd (XH e0 e1 (Z6 (Q9 e6) e0 e1 0 e2 e3 0 17 (JP e4 e6) (JP e5 e6) 0 (Jo e6) false) (Z5 (Q9 e6) e0 e1 0 e2 e3 0 17 (JP e4 e6) (JP e5 e6) 0 (Jo e6) false) r) 1048576 then 0 else bif !Jd (XM e0 e1 (Z6 (Q9 e6) e0 e1 0 e2 e3 0 17 (JP e4 e6) (JP e5 e6) 0 (Jo e6) false) (Z5 (Q9 e6) e0 e1 0 e2 e3 0 17 (JP e4 e6) (JP e5 e6) 0 (Jo e6) false) r) 1048576 then 0 else bif !Jd (Jap e0 e1 e2 e3 e4 e5 e6 r) 1048576 then 0 else bif !Jd (XM e2 e3 (Z6 (Q9 e6) e0 e1 0 e2 e3 0 17 (JP e4 e6) (JP e5 e6) 0 (Jo e6) true) (Z5 (Q9 e6) e0 e1 0 e2 e3 0 17 (JP e4 e6) (JP e5 e6) 0 (Jo e6) true) r) 1048576 then 0 else Jap e0 e1 e2 e3 e4 e5 e6 r
def Xj:Int:= bif e6 != 0 && YL e6 r then bif decide (J8 (J1 e0 e4) (J1 e1 e5) (J1 e0 e4) (J1 e1 e5) < IntKind.i64.wrap (Za r * Za r)) then 0 else bif decide (J8 (J1 e2 e4) (J1 e3 e5) (J1 e2 e4) (J1 e3 e5) < IntKind.i64.wrap (Za r * Za r)) then 0 else JZD e0 e1 e2 e3 e4 e5 e6 r else JZD e0 e1 e2 e3 e4 e5 e6 r
def JYX:Int:= XM e2 e3 (Z6 (Q9 e6) e0 e1 0 e2 e3 0 17 (JP e4 e6) (JP e5 e6) 0 (Jo e6) true) (Z5 (Q9 e6) e0 e1 0 e2 e3 0 17 (JP e4 e6) (JP e5 e6) 0 (Jo e6) true) r
def JVw:Int:= bif !Jd (XH e0 e1 (Z6 (Q9 e6) e0 e1 0 e2 e3 0 17 (JP e4 e6) (JP e5 e6) 0 (Jo e6) false) (Z5 (Q9 e6) e0 e1 0 e2 e3 0 17 (JP e4 e6) (JP e5 e6) 0 (Jo e6) false) r) 1048576 then 0 else bif !Jd (XM e0 e1 (Z6 (Q9 e6) e0 e1 0 e2 e3 0 17 (JP e4 e6) (JP e5 e6) 0 (Jo e6) false) (Z5 (Q9 e6) e0 e1 0 e2 e3 0 17 (JP e4 e6) (JP e5 e6) 0 (Jo e6) false) r) 1048576 then 0 else bif !Jd (XH e2 e3 (Z6 (Q9 e6) e0 e1 0 e2 e3 0 17 (JP e4 e6) (JP e5 e6) 0 (Jo e6) true) (Z5 (Q9 e6) e0 e1 0 e2 e3 0 17 (JP e4 e6) (JP e5 e6) 0 (Jo e6) true) r) 1048576 then 0 else bif !Jd (JYX e0 e1 e2 e3 e4 e5 e6 r) 1048576 then 0 else JYX e0 e1 e2 e3 e4 e5 e6 r
def Xi:Int:= bif e6 != 0 && YL e6 r then bif decide (J8 (J1 e0 e4) (J1 e1 e5) (J1 e0 e4) (J1 e1 e5) < IntKind.i64.wrap (Za r * Za r)) then 0 else bif decide (J8 (J1 e2 e4) (J1 e3 e5) (J1 e2 e4) (J1 e3 e5) < IntKind.i64.wrap (Za r * Za r)) then 0 else JVw e0 e1 e2 e3 e4 e5 e6 r else JVw e0 e1 e2 e3 e4 e5 e6 r
def JYI:Int:= bif !Jd (XH e0 e1 (Z6 (Q9 e6) e0 e1 0 e2 e3 0 17 (JP e4 e6) (JP e5 e6) 0 (Jo e6) false) (Z5 (Q9 e6) e0 e1 0 e2 e3 0 17 (JP e4 e6) (JP e5 e6) 0 (Jo e6) false) r) 1048576 then 3 else bif !Jd (XM e0 e1 (Z6 (Q9 e6) e0 e1 0 e2 e3 0 17 (JP e4 e6) (JP e5 e6) 0 (Jo e6) false) (Z5 (Q9 e6) e0 e1 0 e2 e3 0 17 (JP e4 e6) (JP e5 e6) 0 (Jo e6) false) r) 1048576 then 3 else bif !Jd (XH e2 e3 (Z6 (Q9 e6) e0 e1 0 e2 e3 0 17 (JP e4 e6) (JP e5 e6) 0 (Jo e6) true) (Z5 (Q9 e6) e0 e1 0 e2 e3 0 17 (JP e4 e6) (JP e5 e6) 0 (Jo e6) true) r) 1048576 then 3 else bif !Jd (XM e2 e3 (Z6 (Q9 e6) e0 e1 0 e2 e3 0 17 (JP e4 e6) (JP e5 e6) 0 (Jo e6) true) (Z5 (Q9 e6) e0 e1 0 e2 e3 0 17 (JP e4 e6) (JP e5 e6) 0 (Jo e6) true) r) 1048576 then 3 else 0
def Qr:Int:= bif e6 != 0 && YL e6 r then bif decide (J8 (J1 e0 e4) (J1 e1 e5) (J1 e0 e4) (J1 e1 e5) < IntKind.i64.wrap (Za r * Za r)) then 16 else bif decide (J8 (J1 e2 e4) (J1 e3 e5) (J1 e2 e4) (J1 e3 e5) < IntKind.i64.wrap (Za r * Za r)) then 16 else JYI e0 e1 e2 e3 e4 e5 e6 r else JYI e0 e1 e2 e3 e4 e5 e6 r
end
theorem Jl1 (e0 e1 e2 e3 e4 e5 e6:Int) (e7:Bool) (r:Int):Runs (Jm (JC Jer) Zw 66) (JEm.args [.i e0,.i e1,.i e2,.i e3,.i e4,.i e5,.i e6,.b e7,.i r]) (JEm.memo [.i e0,.i e1,.i e2,.i e3,.i e4,.i e5,.i e6,.b e7,.i r] []) JEm.n (SV.tup [(true,[Ci (XN e0 e1 e2 e3 e4 e5 e6 r),Ci (XO e0 e1 e2 e3 e4 e5 e6 r)]),(true,[Ci (Xj e0 e1 e2 e3 e4 e5 e6 r),Ci (Xi e0 e1 e2 e3 e4 e5 e6 r)]),(false,[Ci (Qr e0 e1 e2 e3 e4 e5 e6 r)])]) ([]) :=
  Runs.of1 (ps := []) (by kernel_rfl) (by simp)
def JRC:List Pm → Qs → Option CRes
  | [.i e0,.i e1,.i e2,.i e3,.i e4,.i e5,.i e6,.b e7,.i r],[] => some ⟨SV.tup [(true,[Ci (XN e0 e1 e2 e3 e4 e5 e6 r),Ci (XO e0 e1 e2 e3 e4 e5 e6 r)]),(true,[Ci (Xj e0 e1 e2 e3 e4 e5 e6 r),Ci (Xi e0 e1 e2 e3 e4 e5 e6 r)]),(false,[Ci (Qr e0 e1 e2 e3 e4 e5 e6 r)])],
 [],[],[],10785⟩
  | _,_ => none
theorem Jth:Ql Tryz.prog 66 (JU JEm JRC) := by
  refine JI (JE JUL 66) fun ps ls r hr hn _ => ?_
  unfold JRC at hr
  split at hr
  · cases hr; exact ⟨_,Jl1 _ _ _ _ _ _ _ _ _,fun _ => rfl⟩
  · cases hr
def JdC:List (Nat × JY) := (66,JU JEm JRC) :: Jer
theorem JTf:Known Tryz.prog (JC JdC) Zw := J7 JUL Jth
def JGg:Tpl := ⟨[.agg [.int .i64,.int .i64],.agg [.int .i64,.int .i64],.one (.int .i64),.one (.int .i64)],[],0⟩
section
variable (a b c d i s:Int)
def Kq:Bool:= decide (J8 a b c d > 0)
def QQ:Int:= bif Kq a b c d && decide (IntKind.i64.wrap (JF a b c d * i) > 0) then JG a c else bif Kq a b c d then IntKind.i64.wrap (IntKind.i64.wrap (0 - a) - c) else IntKind.i64.wrap (i * IntKind.i64.wrap (d - b))
def QP:Int:= bif Kq a b c d && decide (IntKind.i64.wrap (JF a b c d * i) > 0) then JG b d else bif Kq a b c d then IntKind.i64.wrap (IntKind.i64.wrap (0 - b) - d) else IntKind.i64.wrap (IntKind.i64.wrap (0 - i) * IntKind.i64.wrap (c - a))
def JDS:List Prop:= [-9223372036854775808 ≤ QQ a b c d i ∧ QQ a b c d i < 9223372036854775808,-9223372036854775808 ≤ s ∧ s < 9223372036854775808,-9223372036854775808 ≤ J8 (QQ a b c d i) (QP a b c d i) (QQ a b c d i) (QP a b c d i) ∧ J8 (QQ a b c d i) (QP a b c d i) (QQ a b c d i) (QP a b c d i) < 9223372036854775808,-9223372036854775808 ≤ QP a b c d i ∧ QP a b c d i < 9223372036854775808,-9223372036854775808 ≤ s ∧ s < 9223372036854775808,-9223372036854775808 ≤ J8 (QQ a b c d i) (QP a b c d i) (QQ a b c d i) (QP a b c d i) ∧ J8 (QQ a b c d i) (QP a b c d i) (QQ a b c d i) (QP a b c d i) < 9223372036854775808]
end
theorem Jms {a:Int} {b:Int} {c:Int} {d:Int} {i:Int} {s:Int} (hW:∀ q ∈ ([Xa s]:List Prop),q):∀ q ∈ (JDS a b c d i s),q := by
  simp only [awc,awn,and_true] at hW
  unfold JDS
  simp only [awc,awn,and_true]
  have s1:Xa (QQ a b c d i) := by
    unfold QQ
    cases (Kq a b c d && decide (IntKind.i64.wrap (JF a b c d * i) > 0)) <;> cases Kq a b c d <;> exact Jk _
  have s2:Xa (QP a b c d i) := by
    unfold QP
    cases (Kq a b c d && decide (IntKind.i64.wrap (JF a b c d * i) > 0)) <;> cases Kq a b c d <;> exact Jk _
  exact ⟨s1,hW,Jk _,s2,hW,Jk _⟩
theorem JjT (a b c d i s:Int) (hNeeds:∀ pN ∈ (JDS a b c d i s),pN):Runs (Jm (JC JdC) Zw 163) (JGg.args [.i a,.i b,.i c,.i d,.i i,.i s]) (JGg.memo [.i a,.i b,.i c,.i d,.i i,.i s] []) JGg.n (SV.agg [Ci (Xl (QQ a b c d i) s (J8 (QQ a b c d i) (QP a b c d i) (QQ a b c d i) (QP a b c d i)) 2),Ci (Xl (QP a b c d i) s (J8 (QQ a b c d i) (QP a b c d i) (QQ a b c d i) (QP a b c d i)) 2)]) ([]) :=
  Runs.of1 (ps := (JDS a b c d i s)) (by kernel_rfl) hNeeds
def JSV:List Pm → Qs → Option CRes
  | [.i a,.i b,.i c,.i d,.i i,.i s],[] => some ⟨SV.agg [Ci (Xl (QQ a b c d i) s (J8 (QQ a b c d i) (QP a b c d i) (QQ a b c d i) (QP a b c d i)) 2),Ci (Xl (QP a b c d i) s (J8 (QQ a b c d i) (QP a b c d i) (QQ a b c d i) (QP a b c d i)) 2)],
 [],[Xa s],[],1770⟩
  | _,_ => none
theorem Jrh:Ql Tryz.prog 163 (JU JGg JSV) := by
  refine JI (JE JTf 163) fun ps ls r hr hn _ => ?_
  unfold JSV at hr
  split at hr
  · cases hr; exact ⟨_,JjT _ _ _ _ _ _ (Jms (by exact hn)),fun _ => rfl⟩
  · cases hr
def Jda:List (Nat × JY) := (163,JU JGg JSV) :: JdC
theorem JUF:Known Tryz.prog (JC Jda) Zw := J7 JTf Jrh
theorem Qt {a:Int} (h:Xa a):0 ≤ J6 a ∧ J6 a < 18446744073709551616 := by
  rw [Xu a h]
  obtain ⟨h1,h2⟩ := h
  split <;> omega
def JDM:Tpl := ⟨[.one (.int .i64),.one (.int .i64),.one (.int .i64),.one (.int .i64)],[],0⟩
section
variable (a b c m:Int)
def JGo:Int:= IntKind.u64.wrap (J6 c - ZF (QL (J6 a) (J6 b)) (Qh (J6 a) (J6 b)) (J6 c))
def jb:Bool:= !decide (Qk a b < 0) == decide (c < 0) && Qk a b != 0
def JGP:Int:= IntKind.u64.wrap (ZI (QL (J6 a) (J6 b)) (Qh (J6 a) (J6 b)) (J6 c) + 1)
def XD:Int:= bif c == 0 || !(m == 0 || m == 1 || m == 2) then 0 else bif decide (QL (J6 a) (J6 b) ≥ J6 c) then 0 else bif JBN m (bif decide (ZF (QL (J6 a) (J6 b)) (Qh (J6 a) (J6 b)) (J6 c) > JGo a b c) then 1 else bif decide (ZF (QL (J6 a) (J6 b)) (Qh (J6 a) (J6 b)) (J6 c) < JGo a b c) then -1 else 0) (decide (ZF (QL (J6 a) (J6 b)) (Qh (J6 a) (J6 b)) (J6 c) > 0)) (jb a b c) then bif JGP a b c == 0 then 0 else YY (JGP a b c) (jb a b c) else YY (ZI (QL (J6 a) (J6 b)) (Qh (J6 a) (J6 b)) (J6 c)) (jb a b c)
def Ji6:Bool:= bif c == 0 || !(m == 0 || m == 1 || m == 2) then false else bif decide (QL (J6 a) (J6 b) ≥ J6 c) then false else bif JBN m (bif decide (ZF (QL (J6 a) (J6 b)) (Qh (J6 a) (J6 b)) (J6 c) > JGo a b c) then 1 else bif decide (ZF (QL (J6 a) (J6 b)) (Qh (J6 a) (J6 b)) (J6 c) < JGo a b c) then -1 else 0) (decide (ZF (QL (J6 a) (J6 b)) (Qh (J6 a) (J6 b)) (J6 c) > 0)) (jb a b c) then bif JGP a b c == 0 then false else JCz (JGP a b c) (jb a b c) else JCz (ZI (QL (J6 a) (J6 b)) (Qh (J6 a) (J6 b)) (J6 c)) (jb a b c)
def JAl:List Prop:= [(c == 0 || !(m == 0 || m == 1 || m == 2)) = false → decide (QL (J6 a) (J6 b) ≥ J6 c) = false → 0 ≤ QL (J6 a) (J6 b) ∧ QL (J6 a) (J6 b) < J6 c ∧ 0 ≤ Qh (J6 a) (J6 b) ∧ Qh (J6 a) (J6 b) < 18446744073709551616 ∧ J6 c < 18446744073709551616]
end
theorem Jgl {a:Int} {b:Int} {c:Int} {m:Int} (hW:∀ q ∈ ([Xa a,Xa b,Xa c]:List Prop),q):∀ q ∈ (JAl a b c m),q := by
  simp only [awc,awn,and_true] at hW
  unfold JAl
  simp only [awc,awn,and_true]
  obtain ⟨ha,hb,hc⟩ := hW
  intro _ h
  have sa := Qt ha
  have sb := Qt hb
  have sc := Qt hc
  have h0 := JgD (x := J6 a) (y := J6 b) sa sb
  have h1 := JeV (J6 a) (J6 b)
  rw [decide_eq_false_iff_not] at h
  exact ⟨h0.1,by omega,h1.1,h1.2,sc.2⟩
theorem Jhj (a b c m:Int) (hNeeds:∀ pN ∈ (JAl a b c m),pN):Runs (Jm (JC Jda) Zw 161) (JDM.args [.i a,.i b,.i c,.i m]) (JDM.memo [.i a,.i b,.i c,.i m] []) JDM.n (SV.tup [(false,[Ci (XD a b c m)]),(false,[Cb (Ji6 a b c m)])]) ([]) :=
  Runs.of1 (ps := (JAl a b c m)) (by kernel_rfl) hNeeds
def JMp:List Pm → Qs → Option CRes
  | [.i a,.i b,.i c,.i m],[] => some ⟨SV.tup [(false,[Ci (XD a b c m)]),(false,[Cb (Ji6 a b c m)])],
 [],[Xa a,Xa b,Xa c],[],507⟩
  | _,_ => none
theorem JqR:Ql Tryz.prog 161 (JU JDM JMp) := by
  refine JI (JE JUF 161) fun ps ls r hr hn _ => ?_
  unfold JMp at hr
  split at hr
  · cases hr; exact ⟨_,Jhj _ _ _ _ (Jgl (by exact hn)),fun _ => rfl⟩
  · cases hr
def JYb:List (Nat × JY) := (161,JU JDM JMp) :: Jda
theorem JPT:Known Tryz.prog (JC JYb) Zw := J7 JUF JqR
def JEz:Tpl := ⟨[.agg [.int .i64,.int .i64,.int .i64,.int .i64],.agg [.int .i64,.int .i64]],[],0⟩
def KJ (a b c d:Int):Int := bif decide (JF a b c d > 0) || JF a b c d == 0 && decide (J8 a b c d > 0) then 0 else 1
theorem Jkv (a b l m c d:Int):Runs (Jm (JC JYb) Zw 172) (JEz.args [.i a,.i b,.i l,.i m,.i c,.i d]) (JEz.memo [.i a,.i b,.i l,.i m,.i c,.i d] []) JEz.n (SV.one (Ci (KJ a b c d))) ([]) :=
  Runs.of1 (ps := []) (by kernel_rfl) (by simp)
def JSD:List Pm → Qs → Option CRes
  | [.i a,.i b,.i l,.i m,.i c,.i d],[] => some ⟨SV.one (Ci (KJ a b c d)),
 [],[],[],73⟩
  | _,_ => none
theorem JuH:Ql Tryz.prog 172 (JU JEz JSD) := by
  refine JI (JE JPT 172) fun ps ls r hr hn _ => ?_
  unfold JSD at hr
  split at hr
  · cases hr; exact ⟨_,Jkv _ _ _ _ _ _,fun _ => rfl⟩
  · cases hr
def JdE:List (Nat × JY) := (172,JU JEz JSD) :: JYb
theorem JTR:Known Tryz.prog (JC JdE) Zw := J7 JPT JuH
def Ww:Tpl := ⟨[.agg [.int .i64,.int .i64,.int .i64,.int .i64],.agg [.int .i64,.int .i64]],[],0⟩
def K7 (a0 a1 b0 b1 p0 p1:Int):Bool := decide (KJ a0 a1 p0 p1 < KJ a0 a1 b0 b1) || KJ a0 a1 p0 p1 == KJ a0 a1 b0 b1 && decide (JF p0 p1 b0 b1 ≥ 0)
theorem Jbd (a0 a1 b0 b1 p0 p1:Int):Runs (Jm (JC JdE) Zw 158) (Ww.args [.i a0,.i a1,.i b0,.i b1,.i p0,.i p1]) (Ww.memo [.i a0,.i a1,.i b0,.i b1,.i p0,.i p1] []) Ww.n (SV.one (Cb (K7 a0 a1 b0 b1 p0 p1))) ([]) :=
  Runs.of1 (ps := []) (by kernel_rfl) (by simp)
def JHo:List Pm → Qs → Option CRes
  | [.i a0,.i a1,.i b0,.i b1,.i p0,.i p1],[] => some ⟨SV.one (Cb (K7 a0 a1 b0 b1 p0 p1)),
 [],[],[],203⟩
  | _,_ => none
theorem Ji2:Ql Tryz.prog 158 (JU Ww JHo) := by
  refine JI (JE JTR 158) fun ps ls r hr hn _ => ?_
  unfold JHo at hr
  split at hr
  · cases hr; exact ⟨_,Jbd _ _ _ _ _ _,fun _ => rfl⟩
  · cases hr
def JMS:List (Nat × JY) := (158,JU Ww JHo) :: JdE
theorem JK6:Known Tryz.prog (JC JMS) Zw := J7 JTR Ji2
def zx:Tpl := ⟨[.agg pI,.agg [.int .i64,.int .i64]],[],0⟩
def KN (f0 f1 f2 t0 t1 t2 p c0 c1 c2 d:Int) (fu:Bool) (u w:Int):Bool := fu || K7 (bif decide (d < 0) then Jf t0 t1 t2 p c0 c1 c2 else Jf f0 f1 f2 p c0 c1 c2) (bif decide (d < 0) then Ji t0 t1 t2 p c0 c1 c2 else Ji f0 f1 f2 p c0 c1 c2) (bif decide (d < 0) then Jf f0 f1 f2 p c0 c1 c2 else Jf t0 t1 t2 p c0 c1 c2) (bif decide (d < 0) then Ji f0 f1 f2 p c0 c1 c2 else Ji t0 t1 t2 p c0 c1 c2) u w
theorem JeD (k bl f0 f1 f2 t0 t1 t2 p c0 c1 c2 d:Int) (fu:Bool) (fe:Int) (pr:Bool) (si ra be n sp:Int) (on:Bool) (u w:Int):Runs (Jm (JC JMS) Zw 130) (zx.args [.i k,.i bl,.i f0,.i f1,.i f2,.i t0,.i t1,.i t2,.i p,.i c0,.i c1,.i c2,.i d,.b fu,.i fe,.b pr,.i si,.i ra,.i be,.i n,.i sp,.b on,.i u,.i w]) (zx.memo [.i k,.i bl,.i f0,.i f1,.i f2,.i t0,.i t1,.i t2,.i p,.i c0,.i c1,.i c2,.i d,.b fu,.i fe,.b pr,.i si,.i ra,.i be,.i n,.i sp,.b on,.i u,.i w] []) zx.n (SV.one (Cb (KN f0 f1 f2 t0 t1 t2 p c0 c1 c2 d fu u w))) ([]) :=
  Runs.of1 (ps := []) (by kernel_rfl) (by simp)
def JIn:List Pm → Qs → Option CRes
  | [.i k,.i bl,.i f0,.i f1,.i f2,.i t0,.i t1,.i t2,.i p,.i c0,.i c1,.i c2,.i d,.b fu,.i fe,.b pr,.i si,.i ra,.i be,.i n,.i sp,.b on,.i u,.i w],[] => some ⟨SV.one (Cb (KN f0 f1 f2 t0 t1 t2 p c0 c1 c2 d fu u w)),
 [],[],[],587⟩
  | _,_ => none
theorem Jl3:Ql Tryz.prog 130 (JU zx JIn) := by
  refine JI (JE JK6 130) fun ps ls r hr hn _ => ?_
  unfold JIn at hr
  split at hr
  · cases hr; exact ⟨_,JeD _ _ _ _ _ _ _ _ _ _ _ _ _ _ _ _ _ _ _ _ _ _ _ _,fun _ => rfl⟩
  · cases hr
def JQj:List (Nat × JY) := (130,JU zx JIn) :: JMS
theorem JLg:Known Tryz.prog (JC JQj) Zw := J7 JK6 Jl3
def JGT:Tpl := ⟨[.agg [.int .i64,.int .i64,.int .i64,.int .i64,.int .i64,.int .i64,.int .i64,.bool],.agg [.int .i64,.int .i64],.agg [.int .i64,.int .i64]],[],0⟩
def JI8 (e0 e1 e2 e3 e4 e5 e6:Int) (e7:Bool) (u w y z:Int):Bool := bif e6 == 0 then decide (J8 (J1 u y) (J1 w z) (J1 e2 e0) (J1 e3 e1) > 0) else KN e0 e1 0 e2 e3 0 17 (JP e4 e6) (JP e5 e6) 0 (Jo e6) (JNo e6 e7) (J1 u e4) (J1 w e5) && (JF (J1 e0 e4) (J1 e1 e5) (J1 u e4) (J1 w e5) != 0 || decide (J8 (J1 e0 e4) (J1 e1 e5) (J1 u e4) (J1 w e5) ≤ 0))
theorem JlD (e0 e1 e2 e3 e4 e5 e6:Int) (e7:Bool) (u w y z:Int):Runs (Jm (JC JQj) Zw 137) (JGT.args [.i e0,.i e1,.i e2,.i e3,.i e4,.i e5,.i e6,.b e7,.i u,.i w,.i y,.i z]) (JGT.memo [.i e0,.i e1,.i e2,.i e3,.i e4,.i e5,.i e6,.b e7,.i u,.i w,.i y,.i z] []) JGT.n (SV.one (Cb (JI8 e0 e1 e2 e3 e4 e5 e6 e7 u w y z))) ([]) :=
  Runs.of1 (ps := []) (by kernel_rfl) (by simp)
def JSy:List Pm → Qs → Option CRes
  | [.i e0,.i e1,.i e2,.i e3,.i e4,.i e5,.i e6,.b e7,.i u,.i w,.i y,.i z],[] => some ⟨SV.one (Cb (JI8 e0 e1 e2 e3 e4 e5 e6 e7 u w y z)),
 [],[],[],1039⟩
  | _,_ => none
theorem JsH:Ql Tryz.prog 137 (JU JGT JSy) := by
  refine JI (JE JLg 137) fun ps ls r hr hn _ => ?_
  unfold JSy at hr
  split at hr
  · cases hr; exact ⟨_,JlD _ _ _ _ _ _ _ _ _ _ _ _,fun _ => rfl⟩
  · cases hr
def JL6:List (Nat × JY) := (137,JU JGT JSy) :: JQj
theorem JTB:Known Tryz.prog (JC JL6) Zw := J7 JLg JsH
def bs (P:Int → Bool):Nat → Int → Int → Int
  | 0,_,b => b
  | f + 1,a,b => bif decide (b - a > 1) then (bif P ((a + b).tdiv 2) then bs P f a ((a + b).tdiv 2) else bs P f ((a + b).tdiv 2) b) else b
theorem JZC {a b:Int} (h0:0 ≤ a) (h:b - a > 1):a < (a + b).tdiv 2 ∧ (a + b).tdiv 2 < b := by
  rw [Int.tdiv_eq_ediv_of_nonneg (by omega)]
  omega
theorem JVL (P:Int → Bool):∀ (f g:Nat) (a b:Int),0 ≤ a → (b - a).toNat ≤ f → (b - a).toNat ≤ g → bs P f a b = bs P g a b
  | 0,0,_,_,_,_,_ => rfl
  | 0,g + 1,a,b,_,h,_ => by
    unfold bs
    rw [decide_eq_false (show ¬ b - a > 1 by omega)]; rfl
  | f + 1,0,a,b,_,_,h => by
    unfold bs
    rw [decide_eq_false (show ¬ b - a > 1 by omega)]; rfl
  | f + 1,g + 1,a,b,h0,h1,h2 => by
    unfold bs
    by_cases h:b - a > 1
    · obtain ⟨m1,m2⟩ := JZC h0 h
      rw [JVL P f g a _ h0 (by omega) (by omega),JVL P f g _ b (by omega) (by omega) (by omega)]
    · rw [decide_eq_false h]; rfl
def bs0 (n:Int):Int × Int := (0,n)
def bsF (P:Int → Bool) (s:Int × Int):Int := bs P (s.2 - s.1).toNat s.1 s.2
theorem JoL {P:Int → Bool} {a b:Int} (h:¬ b - a > 1):bsF P (a,b) = b := by
  show bs P (b - a).toNat a b = b
  cases (b - a).toNat with
  | zero => rfl
  | succ f => unfold bs; rw [decide_eq_false h]; rfl
theorem Js6 {P:Int → Bool} {a b:Int} (h0:0 ≤ a) (h:b - a > 1):bsF P (a,b) = bif P ((a + b).tdiv 2) then bsF P (a,(a + b).tdiv 2) else bsF P ((a + b).tdiv 2,b) := by
  obtain ⟨m1,m2⟩ := JZC h0 h
  show bs P (b - a).toNat a b = _
  have e:(b - a).toNat = (b - a - 1).toNat + 1 := by omega
  rw [e]
  unfold bs
  rw [decide_eq_true h,cond_true]
  show (bif P ((a + b).tdiv 2) then bs P (b - a - 1).toNat a ((a + b).tdiv 2) else bs P (b - a - 1).toNat ((a + b).tdiv 2) b) = _
  rw [JVL P (b - a - 1).toNat ((a + b).tdiv 2 - a).toNat a _ h0 (by omega) (by omega),JVL P (b - a - 1).toNat (b - (a + b).tdiv 2).toNat _ b (by omega) (by omega) (by omega)]
  rfl
def bsN (P:Int → Bool) (s:Int × Int):Int × Int := (bif P ((s.1 + s.2).tdiv 2) then s.1 else (s.1 + s.2).tdiv 2,bif P ((s.1 + s.2).tdiv 2) then (s.1 + s.2).tdiv 2 else s.2)
theorem JrS {P:Int → Bool} {s:Int × Int} (h0:0 ≤ s.1) (h:s.2 - s.1 > 1):0 ≤ (bsN P s).1 ∧ (bsN P s).1 ≤ (bsN P s).2 ∧ (bsN P s).2 ≤ s.2 ∧ ((bsN P s).2 - (bsN P s).1).toNat < (s.2 - s.1).toNat ∧ bsF P (bsN P s) = bsF P s := by
  rcases s with ⟨a,b⟩
  obtain ⟨m1,m2⟩ := JZC h0 h
  have hs := Js6 (P := P) h0 h
  unfold bsN
  simp only at h0 h m1 m2 hs ⊢
  rw [hs]
  cases P ((a + b).tdiv 2)
  · simp only [cond_false]
    exact ⟨by omega,by omega,by omega,by omega,trivial⟩
  · simp only [cond_true]
    exact ⟨by omega,by omega,by omega,by omega,trivial⟩
theorem JuT {s:Int × Int} (h0:0 ≤ s.1) (h1:s.1 ≤ s.2) (h2:s.2 ≤ 1000000000000):IntKind.i64.wrap (s.2 - s.1) = s.2 - s.1 ∧ IntKind.i64.wrap ((IntKind.i64.wrap (s.1 + s.2)).tdiv 2) = (s.1 + s.2).tdiv 2 ∧ Xa ((s.1 + s.2).tdiv 2) := by
  have e:(s.1 + s.2).tdiv 2 = (s.1 + s.2) / 2 := Int.tdiv_eq_ediv_of_nonneg (by omega)
  rw [X6 (x := s.2 - s.1) (by omega) (by omega),X6 (x := s.1 + s.2) (by omega) (by omega),e,X6 (by omega) (by omega)]
  exact ⟨rfl,rfl,by omega,by omega⟩
def Jcx (mem:Jn) (id:Nat):Option (List Int × Bool) := match SX.JD mem id with
  | some (.blk _ cs) => (match cs.reverse with
    | (_,.bool b) :: r => (JnM r.reverse).map fun l => (l,b.val)
    | _ => none)
  | _ => none
section
variable (l0 l1 d0 d1 n:Int) (id t:Nat) (x y e0 e1 e2 e3 e4 e5 e6 r k:Int) (e7:Bool)
def Jqm:Nat × SX.Obj:= (id,.blk 91 [(t,I e0),(t + 1,I e1),(t + 2,I e2),(t + 3,I e3),(t + 4,I e4),(t + 5,I e5),(t + 6,I e6),(t + 7,.bool (.v e7))])
def Jv6:Nat × SX.Obj:= (id,.blk 54 [(t,I x),(t + 1,I y)])
def Jve:Nat × SX.Obj:= (id,.blk 54 [(t,.int .i64 (.c 0)),(t + 1,.int .i64 (.c 0))])
def stP:Bool:= ZX e0 e1 e2 e3 e4 e5 e6 (JG l0 (XD d0 k n 2)) (JG l1 (XD d1 k n 2)) r
end
def stM (l0 l1 d0 d1 n e0 e1 e2 e3 e4 e5 e6:Int) (e7:Bool) (r:Int):Jn := [(76,.clo [.one (.ptr 53 0),.one (.ptr 71 0),.one (.ptr 12 0)]),(71,.blk 3 [(74,I n)]),Jv6 53 57 d0 d1,Jve 20 21,Jv6 12 13 l0 l1,(0,.clo [.one (.ptr 1 0),.one (.ptr 2 0)]),Jqm 1 3 e0 e1 e2 e3 e4 e5 e6 e7,(2,.blk 3 [(11,I r)])]
def stF (l0 l1 d0 d1 n e0 e1 e2 e3 e4 e5 e6:Int) (e7:Bool) (r:Int):Fam (Int × Int) Int where
  k := 60
  E s := [(11,ent 1000000000 (.one (I s.2))),(10,ent 1000000001 (.one (I s.1))),(9,ent 78 (.one (.clo 160 76))),(6,ent 23 (.one (.ptr 20 0))),(2,ent 4 (.one (.clo 133 0)))]
  M _ := stM l0 l1 d0 d1 n e0 e1 e2 e3 e4 e5 e6 e7 r
  out b := .leaf (.exit 0) [(11,ent 83 (.one (I b))),(9,ent 78 (.one (.clo 160 76))),(6,ent 23 (.one (.ptr 20 0)))] (stM l0 l1 d0 d1 n e0 e1 e2 e3 e4 e5 e6 e7 r)
  fin s := bsF (stP l0 l1 d0 d1 n e0 e1 e2 e3 e4 e5 e6 r) s
  next s _ := bsN (stP l0 l1 d0 d1 n e0 e1 e2 e3 e4 e5 e6 r) s
  J s := 0 ≤ s.1 ∧ s.1 ≤ s.2 ∧ s.2 ≤ 1000000000000 ∧ Xa d0 ∧ Xa d1 ∧ Xa n
  μ s := (s.2 - s.1).toNat
section
variable (l0 l1 d0 d1 n e0 e1 e2 e3 e4 e5 e6:Int) (e7:Bool) (r:Int) (s:Int × Int)
def Js9:Prop:= decide (IntKind.i64.wrap (s.snd - s.fst) > 1) = true
def JJZ:Int:= IntKind.i64.wrap ((IntKind.i64.wrap (s.fst + s.snd)).tdiv 2)
def JtA:Prop:= -9223372036854775808 ≤ n ∧ n < 9223372036854775808
def JuR:Int:= ((stF l0 l1 d0 d1 n e0 e1 e2 e3 e4 e5 e6 e7 r).next s 0).fst
def Jsb:Int:= ((stF l0 l1 d0 d1 n e0 e1 e2 e3 e4 e5 e6 e7 r).next s 0).snd
def JwV:Int:= (stF l0 l1 d0 d1 n e0 e1 e2 e3 e4 e5 e6 e7 r).fin s
def JZJ:List Prop:= [Js9 s → (-9223372036854775808 ≤ d0 ∧ d0 < 9223372036854775808) ∧ (-9223372036854775808 ≤ JJZ s ∧ JJZ s < 9223372036854775808) ∧ JtA n ∧ (-9223372036854775808 ≤ d1 ∧ d1 < 9223372036854775808) ∧ (-9223372036854775808 ≤ JJZ s ∧ JJZ s < 9223372036854775808) ∧ JtA n,Js9 s → (0 ≤ JuR l0 l1 d0 d1 n e0 e1 e2 e3 e4 e5 e6 e7 r s ∧ JuR l0 l1 d0 d1 n e0 e1 e2 e3 e4 e5 e6 e7 r s ≤ Jsb l0 l1 d0 d1 n e0 e1 e2 e3 e4 e5 e6 e7 r s ∧ Jsb l0 l1 d0 d1 n e0 e1 e2 e3 e4 e5 e6 e7 r s ≤ 1000000000000 ∧ (-9223372036854775808 ≤ d0 ∧ d0 < 9223372036854775808) ∧ (-9223372036854775808 ≤ d1 ∧ d1 < 9223372036854775808) ∧ JtA n) ∧ (stF l0 l1 d0 d1 n e0 e1 e2 e3 e4 e5 e6 e7 r).μ ((stF l0 l1 d0 d1 n e0 e1 e2 e3 e4 e5 e6 e7 r).next s 0) < (stF l0 l1 d0 d1 n e0 e1 e2 e3 e4 e5 e6 e7 r).μ s ∧ (stF l0 l1 d0 d1 n e0 e1 e2 e3 e4 e5 e6 e7 r).fin ((stF l0 l1 d0 d1 n e0 e1 e2 e3 e4 e5 e6 e7 r).next s 0) = JwV l0 l1 d0 d1 n e0 e1 e2 e3 e4 e5 e6 e7 r s ∧ (Jsb l0 l1 d0 d1 n e0 e1 e2 e3 e4 e5 e6 e7 r s = bif ZX e0 e1 e2 e3 e4 e5 e6 (JG l0 (XD d0 (JJZ s) n 2)) (JG l1 (XD d1 (JJZ s) n 2)) r then JJZ s else s.snd) ∧ JuR l0 l1 d0 d1 n e0 e1 e2 e3 e4 e5 e6 e7 r s = bif ZX e0 e1 e2 e3 e4 e5 e6 (JG l0 (XD d0 (JJZ s) n 2)) (JG l1 (XD d1 (JJZ s) n 2)) r then s.fst else JJZ s,decide (IntKind.i64.wrap (s.snd - s.fst) > 1) = false → JwV l0 l1 d0 d1 n e0 e1 e2 e3 e4 e5 e6 e7 r s = s.snd]
end
theorem Jr6 (l0 l1 d0 d1 n e0 e1 e2 e3 e4 e5 e6:Int) (e7:Bool) (r:Int) (s:Int × Int) (hNeeds:∀ pN ∈ (JZJ l0 l1 d0 d1 n e0 e1 e2 e3 e4 e5 e6 e7 r s),pN):Q4 (Xd (stF l0 l1 d0 d1 n e0 e1 e2 e3 e4 e5 e6 e7 r) (QX Tryz.prog (JC JL6) Zw 135 0) 82 s) :=
  Q4.of (ps := (JZJ l0 l1 d0 d1 n e0 e1 e2 e3 e4 e5 e6 e7 r s)) (by kernel_rfl) (by kernel_rfl) hNeeds
theorem Job (l0 l1 d0 d1 n e0 e1 e2 e3 e4 e5 e6:Int) (e7:Bool) (r:Int):Qw (stF l0 l1 d0 d1 n e0 e1 e2 e3 e4 e5 e6 e7 r) (QX Tryz.prog (JC JL6) Zw 135 0) 82 := by
  intro s hJ
  obtain ⟨h0,h1,h2,h3,h4,h5⟩:0 ≤ s.1 ∧ s.1 ≤ s.2 ∧ s.2 ≤ 1000000000000 ∧ Xa d0 ∧ Xa d1 ∧ Xa n := hJ
  obtain ⟨w1,w2,w3⟩ := JuT h0 h1 h2
  have hk:JJZ s = (s.1 + s.2).tdiv 2 := w2
  refine Jr6 l0 l1 d0 d1 n e0 e1 e2 e3 e4 e5 e6 e7 r s ?_
  unfold JZJ
  rw [hk]
  unfold Js9
  rw [w1]
  intro p hp
  simp only [List.mem_cons,List.not_mem_nil,or_false] at hp
  rcases hp with rfl | rfl | rfl
  · exact fun _ => ⟨h3,w3,h5,h4,w3,h5⟩
  · intro h
    have h:s.2 - s.1 > 1 := by simpa using h
    obtain ⟨b1,b2,b3,b4,b5⟩ := JrS (P := stP l0 l1 d0 d1 n e0 e1 e2 e3 e4 e5 e6 r) h0 h
    exact ⟨⟨b1,b2,Int.le_trans b3 h2,h3,h4,h5⟩,b4,b5,rfl,rfl⟩
  · intro h
    have h:¬ s.2 - s.1 > 1 := by simpa using h
    show bsF _ (s.1,s.2) = s.2
    exact JoL h
def stL:QE := fun env mem m => match Wi env 11,JIN mem 12,JIN mem 53,JIN mem 71,Jcx mem 1,JIN mem 2 with
  | some b,some [l0,l1],some [d0,d1],some [n],some ([e0,e1,e2,e3,e4,e5,e6],e7),some [r] => jk (stF l0 l1 d0 d1 n e0 e1 e2 e3 e4 e5 e6 e7 r) 82 (fun _ _ => some (bs0 b)) env mem m
  | _,_,_,_,_,_ => none
def JpS:FuncId → Nat → Option QE := JA9 Zw 135 5 stL
theorem Jbu:Known Tryz.prog (JC JL6) JpS := by
  refine Qe 0 JTB (by kernel_rfl) (Qv fun env mem m x h => ?_)
  unfold stL at h
  have hlen:(QW Tryz.prog 135).length = 1 := by kernel_rfl
  split at h
  · exact ⟨_,XG (Qc Zz JTB (by omega)) (Job _ _ _ _ _ _ _ _ _ _ _ _ _ _),h⟩
  · cases h
theorem Jja (P:Int → Bool):∀ (f:Nat) (a b:Int),0 ≤ a → a ≤ b → a ≤ bs P f a b ∧ bs P f a b ≤ b
  | 0,a,b,_,h => ⟨h,Int.le_refl _⟩
  | f + 1,a,b,h0,h => by
    unfold bs
    by_cases g:b - a > 1
    · obtain ⟨m1,m2⟩ := JZC h0 g
      rw [decide_eq_true g,cond_true]
      cases P ((a + b).tdiv 2)
      · have := Jja P f ((a + b).tdiv 2) b (by omega) (by omega)
        rw [cond_false]; omega
      · have := Jja P f a ((a + b).tdiv 2) h0 (by omega)
        rw [cond_true]; omega
    · rw [decide_eq_false g,cond_false]; omega
theorem Jo2 (P:Int → Bool) {n:Int} (h:0 ≤ n):0 ≤ bsF P (bs0 n) ∧ bsF P (bs0 n) ≤ n := Jja P _ 0 n (by omega) h
def Wz:Tpl := ⟨[.agg [.int .i64,.int .i64],.agg [.int .i64,.int .i64],.one (.clo 133 0)],[(0,.clo [.one (.ptr 1 0),.one (.ptr 2 0)]),(1,.blk 91 [(3,.int .i64),(4,.int .i64),(5,.int .i64),(6,.int .i64),(7,.int .i64),(8,.int .i64),(9,.int .i64),(10,.bool)]),(2,.blk 3 [(11,.int .i64)])],12⟩
section
variable (l0 l1 h0 h1 e0 e1 e2 e3 e4 e5 e6:Int) (e7:Bool) (r:Int)
def JE5:Int:=
 if IntKind.i64.wrap (0 - J1 h0 l0) > J1 h0 l0 then IntKind.i64.wrap (0 - J1 h0 l0) else J1 h0 l0
def JDr:Int:=
 if J1 h1 l1 > JE5 l0 h0 then J1 h1 l1 else JE5 l0 h0
def QD:Int:=
 if IntKind.i64.wrap (0 - J1 h1 l1) > JDr l0 l1 h0 h1 then IntKind.i64.wrap (0 - J1 h1 l1) else JDr l0 l1 h0 h1
def JCQ:Int:= JG l0 (XD (J1 h0 l0) ((stF l0 l1 (J1 h0 l0) (J1 h1 l1) (QD l0 l1 h0 h1) e0 e1 e2 e3 e4 e5 e6 e7 r).fin (bs0 (QD l0 l1 h0 h1))) (QD l0 l1 h0 h1) 2)
def JCo:Int:= JG l1 (XD (J1 h1 l1) ((stF l0 l1 (J1 h0 l0) (J1 h1 l1) (QD l0 l1 h0 h1) e0 e1 e2 e3 e4 e5 e6 e7 r).fin (bs0 (QD l0 l1 h0 h1))) (QD l0 l1 h0 h1) 2)
def JDf:Prop:= -9223372036854775808 ≤ J1 h0 l0 ∧ J1 h0 l0 < 9223372036854775808
def JK0:Prop:= -9223372036854775808 ≤ QD l0 l1 h0 h1 ∧ QD l0 l1 h0 h1 < 9223372036854775808
def Yj:Int:= (stF l0 l1 (J1 h0 l0) (J1 h1 l1) (QD l0 l1 h0 h1) e0 e1 e2 e3 e4 e5 e6 e7 r).fin (bs0 (QD l0 l1 h0 h1))
def jG:List Prop:= [0 ≤ (bs0 (QD l0 l1 h0 h1)).fst ∧ (bs0 (QD l0 l1 h0 h1)).fst ≤ (bs0 (QD l0 l1 h0 h1)).snd ∧ (bs0 (QD l0 l1 h0 h1)).snd ≤ 1000000000000 ∧ JDf l0 h0 ∧ JDf l1 h1 ∧ JK0 l0 l1 h0 h1,(bs0 (QD l0 l1 h0 h1)).snd = QD l0 l1 h0 h1,(bs0 (QD l0 l1 h0 h1)).fst = 0,JDf l0 h0,-9223372036854775808 ≤ Yj l0 l1 h0 h1 e0 e1 e2 e3 e4 e5 e6 e7 r ∧ Yj l0 l1 h0 h1 e0 e1 e2 e3 e4 e5 e6 e7 r < 9223372036854775808,JK0 l0 l1 h0 h1,JDf l1 h1,-9223372036854775808 ≤ Yj l0 l1 h0 h1 e0 e1 e2 e3 e4 e5 e6 e7 r ∧ Yj l0 l1 h0 h1 e0 e1 e2 e3 e4 e5 e6 e7 r < 9223372036854775808,JK0 l0 l1 h0 h1]
end
theorem Jbk {l0:Int} {l1:Int} {h0:Int} {h1:Int} {e0:Int} {e1:Int} {e2:Int} {e3:Int} {e4:Int} {e5:Int} {e6:Int} {e7:Bool} {r:Int} (hW:∀ q ∈ ([bd 1048576 l0,bd 1048576 l1,bd 1048576 h0,bd 1048576 h1]:List Prop),q):∀ q ∈ (jG l0 l1 h0 h1 e0 e1 e2 e3 e4 e5 e6 e7 r),q := by
  simp only [awc,awn,and_true] at hW
  unfold jG
  simp only [awc,awn,and_true]
  obtain ⟨b0,b1,b2,b3⟩ := hW
  have d0:J1 h0 l0 = h0 - l0 := XY (by omega) (by omega)
  have d1:J1 h1 l1 = h1 - l1 := XY (by omega) (by omega)
  have hn:0 ≤ QD l0 l1 h0 h1 ∧ QD l0 l1 h0 h1 ≤ 2097152 := by
    unfold QD JDr JE5
    rw [d0,d1,X6 (x := 0 - (h0 - l0)) (by omega) (by omega),X6 (x := 0 - (h1 - l1)) (by omega) (by omega)]
    repeat' split
    all_goals omega
  have hf:0 ≤ Yj l0 l1 h0 h1 e0 e1 e2 e3 e4 e5 e6 e7 r ∧ Yj l0 l1 h0 h1 e0 e1 e2 e3 e4 e5 e6 e7 r ≤ QD l0 l1 h0 h1 := Jo2 _ hn.1
  have i6:Xa (Yj l0 l1 h0 h1 e0 e1 e2 e3 e4 e5 e6 e7 r) := ⟨by omega,by omega⟩
  have i5:Xa (QD l0 l1 h0 h1) := ⟨by omega,by omega⟩
  have i0:Xa (J1 h0 l0) := Jk _
  have i1:Xa (J1 h1 l1) := Jk _
  exact ⟨⟨Int.le_refl 0,hn.1,show QD l0 l1 h0 h1 ≤ _ by omega,i0,i1,i5⟩,rfl,rfl,i0,i6,i5,i1,i6,i5⟩
def JTJ (e0 e1 e2 e3 e4 e5 e6:Int) (e7:Bool) (r:Int):Jn := [(0,Obj.clo [SV.one (SC.ptr 1 0),SV.one (SC.ptr 2 0)]),(1,Obj.blk 91 [(3,Ci e0),(4,Ci e1),(5,Ci e2),(6,Ci e3),(7,Ci e4),(8,Ci e5),(9,Ci e6),(10,Cb e7)]),(2,Obj.blk 3 [(11,Ci r)])]
theorem JbJ (l0 l1 h0 h1 e0 e1 e2 e3 e4 e5 e6:Int) (e7:Bool) (r:Int) (hNeeds:∀ pN ∈ (jG l0 l1 h0 h1 e0 e1 e2 e3 e4 e5 e6 e7 r),pN):Runs (Jm (JC JL6) JpS 135) (Wz.args [.i l0,.i l1,.i h0,.i h1,.i e0,.i e1,.i e2,.i e3,.i e4,.i e5,.i e6,.b e7,.i r]) (Wz.memo [.i l0,.i l1,.i h0,.i h1,.i e0,.i e1,.i e2,.i e3,.i e4,.i e5,.i e6,.b e7,.i r] []) Wz.n (SV.agg [Ci (JCQ l0 l1 h0 h1 e0 e1 e2 e3 e4 e5 e6 e7 r),Ci (JCo l0 l1 h0 h1 e0 e1 e2 e3 e4 e5 e6 e7 r)]) (JTJ e0 e1 e2 e3 e4 e5 e6 e7 r) :=
  Runs.of1 (ps := (jG l0 l1 h0 h1 e0 e1 e2 e3 e4 e5 e6 e7 r)) (by kernel_rfl) hNeeds
def JGu:List Pm → Qs → Option CRes
  | [.i l0,.i l1,.i h0,.i h1,.i e0,.i e1,.i e2,.i e3,.i e4,.i e5,.i e6,.b e7,.i r],[] => some ⟨SV.agg [Ci (JCQ l0 l1 h0 h1 e0 e1 e2 e3 e4 e5 e6 e7 r),Ci (JCo l0 l1 h0 h1 e0 e1 e2 e3 e4 e5 e6 e7 r)],
 JTJ e0 e1 e2 e3 e4 e5 e6 e7 r,[bd 1048576 l0,bd 1048576 l1,bd 1048576 h0,bd 1048576 h1],[],1229⟩
  | _,_ => none
theorem Jhf:Ql Tryz.prog 135 (JU Wz JGu) := by
  refine JI (JE Jbu 135) fun ps ls r hr hn _ => ?_
  unfold JGu at hr
  split at hr
  · cases hr; exact ⟨_,JbJ _ _ _ _ _ _ _ _ _ _ _ _ _ (Jbk (by exact hn)),fun _ => rfl⟩
  · cases hr
def jh:List (Nat × JY) := (135,JU Wz JGu) :: JL6
theorem JJk:Known Tryz.prog (JC jh) JpS := J7 Jbu Jhf
structure CvS where
  i:Nat
  a0:Int
  a1:Int
  b0:Int
  b1:Int
section
variable (P:Int → Int → Bool) (a0 a1 b0 b1 d z:Int) (full:Bool) (s:CvS)
def JM7:Bool:= Jd (IntKind.i64.wrap (s.b0 - s.a0)) 1 && Jd (IntKind.i64.wrap (s.b1 - s.a1)) 1
def oH0:Int:= Xl (QQ a0 a1 b0 b1 d) z (J8 (QQ a0 a1 b0 b1 d) (QP a0 a1 b0 b1 d) (QQ a0 a1 b0 b1 d) (QP a0 a1 b0 b1 d)) 2
def oH1:Int:= Xl (QP a0 a1 b0 b1 d) z (J8 (QQ a0 a1 b0 b1 d) (QP a0 a1 b0 b1 d) (QQ a0 a1 b0 b1 d) (QP a0 a1 b0 b1 d)) 2
def JUf:Int:= bif !full || decide (Int.ofNat s.i > 0) then oH0 s.a0 s.a1 s.b0 s.b1 d z else IntKind.i64.wrap (0 - s.a0)
def JUm:Int:= bif !full || decide (Int.ofNat s.i > 0) then oH1 s.a0 s.a1 s.b0 s.b1 d z else IntKind.i64.wrap (0 - s.a1)
def cvN:CvS:= ⟨s.i + 1,bif P (JUf d z full s) (JUm d z full s) then s.a0 else JUf d z full s,bif P (JUf d z full s) (JUm d z full s) then s.a1 else JUm d z full s, bif P (JUf d z full s) (JUm d z full s) then JUf d z full s else s.b0,bif P (JUf d z full s) (JUm d z full s) then JUm d z full s else s.b1⟩
end
def cv (P:Int → Int → Bool) (d z:Int) (full:Bool):Nat → CvS → Int × Int
  | 0,s => (s.b0,s.b1)
  | f + 1,s => bif (!full || decide (Int.ofNat s.i > 0)) && JM7 s then (s.b0,s.b1) else cv P d z full f (cvN P d z full s)
def cv0 (a0 a1 b0 b1:Int):CvS := ⟨0,a0,a1,b0,b1⟩
def Jp5 (id t u:Nat) (x y:Int):Nat × SX.Obj := (id,.blk 54 [(t,I x),(u,I y)])
def crP (f4 f5 e0 e1 e2 e3 e4 e5 e6 r u w:Int):Bool := ZX e0 e1 e2 e3 e4 e5 e6 (JG f4 u) (JG f5 w) r
def crM (f0 f1 f2 f3 f4 f5 f6:Int) (f7:Bool) (e0 e1 e2 e3 e4 e5 e6:Int) (e7:Bool) (r:Int):Jn := [Jve 30 31,Jqm 12 13 f0 f1 f2 f3 f4 f5 f6 f7,(0,.clo [.one (.ptr 1 0),.one (.ptr 2 0)]),Jqm 1 3 e0 e1 e2 e3 e4 e5 e6 e7,(2,.blk 3 [(11,I r)])]
def crF (z:Int) (f0 f1 f2 f3 f4 f5 f6:Int) (f7:Bool) (e0 e1 e2 e3 e4 e5 e6:Int) (e7:Bool) (r:Int):Fam CvS (Int × Int) where
  k := 60
  E s := [(44,ent 1000000000 (.one (I (Int.ofNat s.i)))),(15,ent 377 (.one (.ptr 374 0))),(14,ent 373 (.one (.ptr 370 0))),(12,ent 309 (.one (I z))),(10,ent 33 (.one (.ptr 30 0))),(5,ent 21 (.one (.ptr 12 0))),(4,ent 8 (.one (.clo 133 0)))]
  M s := Jp5 374 1000000001 1000000002 s.b0 s.b1 :: Jp5 370 1000000003 1000000004 s.a0 s.a1 :: crM f0 f1 f2 f3 f4 f5 f6 f7 e0 e1 e2 e3 e4 e5 e6 e7 r
  out t := .leaf (.exit 0) [(15,ent 377 (.one (.ptr 374 0))),(10,ent 33 (.one (.ptr 30 0))),(5,ent 21 (.one (.ptr 12 0)))] (Jp5 374 386 387 t.1 t.2 :: crM f0 f1 f2 f3 f4 f5 f6 f7 e0 e1 e2 e3 e4 e5 e6 e7 r)
  fin s := cv (crP f4 f5 e0 e1 e2 e3 e4 e5 e6 r) f6 z f7 (24 - s.i) s
  next s _ := cvN (crP f4 f5 e0 e1 e2 e3 e4 e5 e6 r) f6 z f7 s
  J s := s.i ≤ 24 ∧ Xa z
  μ s := 24 - s.i
section
variable (z f0 f1 f2 f3 f4 f5 f6:Int) (f7:Bool) (e0 e1 e2 e3 e4 e5 e6:Int) (e7:Bool) (r:Int) (s:CvS)
def Jwc:Prop:= decide (Int.ofNat s.i < 24) = true
def JwH:Prop:= (!f7 || decide (Int.ofNat s.i > 0)) = true
def JwR:Prop:= (Jd (IntKind.i64.wrap (s.b0 - s.a0)) 1 && Jd (IntKind.i64.wrap (s.b1 - s.a1)) 1) = false
def Jt4:Prop:= -9223372036854775808 ≤ z ∧ z < 9223372036854775808
def Jnh:Prop:= ((crF z f0 f1 f2 f3 f4 f5 f6 f7 e0 e1 e2 e3 e4 e5 e6 e7 r).fin s).fst = s.b0 ∧ ((crF z f0 f1 f2 f3 f4 f5 f6 f7 e0 e1 e2 e3 e4 e5 e6 e7 r).fin s).snd = s.b1
def JwC:Int:= J8 (QQ s.a0 s.a1 s.b0 s.b1 f6) (QP s.a0 s.a1 s.b0 s.b1 f6) (QQ s.a0 s.a1 s.b0 s.b1 f6) (QP s.a0 s.a1 s.b0 s.b1 f6)
def JWS:Int:= Xl (QQ s.a0 s.a1 s.b0 s.b1 f6) z (JwC f6 s) 2
def JXW:Int:= Xl (QP s.a0 s.a1 s.b0 s.b1 f6) z (JwC f6 s) 2
def JXn:List Prop:=
 [Jwc s → JwH f7 s → JwR s → Jt4 z,Jwc s → (JwH f7 s → ((Jd (IntKind.i64.wrap (s.b0 - s.a0)) 1 && Jd (IntKind.i64.wrap (s.b1 - s.a1)) 1) = true → Jnh z f0 f1 f2 f3 f4 f5 f6 f7 e0 e1 e2 e3 e4 e5 e6 e7 r s) ∧ (JwR s → (((crF z f0 f1 f2 f3 f4 f5 f6 f7 e0 e1 e2 e3 e4 e5 e6 e7 r).next s 1).i ≤ 24 ∧ Jt4 z) ∧ (crF z f0 f1 f2 f3 f4 f5 f6 f7 e0 e1 e2 e3 e4 e5 e6 e7 r).μ ((crF z f0 f1 f2 f3 f4 f5 f6 f7 e0 e1 e2 e3 e4 e5 e6 e7 r).next s 1) < (crF z f0 f1 f2 f3 f4 f5 f6 f7 e0 e1 e2 e3 e4 e5 e6 e7 r).μ s ∧ (crF z f0 f1 f2 f3 f4 f5 f6 f7 e0 e1 e2 e3 e4 e5 e6 e7 r).fin ((crF z f0 f1 f2 f3 f4 f5 f6 f7 e0 e1 e2 e3 e4 e5 e6 e7 r).next s 1) = (crF z f0 f1 f2 f3 f4 f5 f6 f7 e0 e1 e2 e3 e4 e5 e6 e7 r).fin s ∧ Int.ofNat ((crF z f0 f1 f2 f3 f4 f5 f6 f7 e0 e1 e2 e3 e4 e5 e6 e7 r).next s 1).i = IntKind.i64.wrap (Int.ofNat s.i + 1) ∧ (((crF z f0 f1 f2 f3 f4 f5 f6 f7 e0 e1 e2 e3 e4 e5 e6 e7 r).next s 1).b0 = bif ZX e0 e1 e2 e3 e4 e5 e6 (JG f4 (JWS z f6 s)) (JG f5 (JXW z f6 s)) r then JWS z f6 s else s.b0) ∧ (((crF z f0 f1 f2 f3 f4 f5 f6 f7 e0 e1 e2 e3 e4 e5 e6 e7 r).next s 1).b1 = bif ZX e0 e1 e2 e3 e4 e5 e6 (JG f4 (JWS z f6 s)) (JG f5 (JXW z f6 s)) r then JXW z f6 s else s.b1) ∧ (((crF z f0 f1 f2 f3 f4 f5 f6 f7 e0 e1 e2 e3 e4 e5 e6 e7 r).next s 1).a0 = bif ZX e0 e1 e2 e3 e4 e5 e6 (JG f4 (JWS z f6 s)) (JG f5 (JXW z f6 s)) r then s.a0 else JWS z f6 s) ∧ ((crF z f0 f1 f2 f3 f4 f5 f6 f7 e0 e1 e2 e3 e4 e5 e6 e7 r).next s 1).a1 = bif ZX e0 e1 e2 e3 e4 e5 e6 (JG f4 (JWS z f6 s)) (JG f5 (JXW z f6 s)) r then s.a1 else JXW z f6 s)) ∧ ((!f7 || decide (Int.ofNat s.i > 0)) = false → (((crF z f0 f1 f2 f3 f4 f5 f6 f7 e0 e1 e2 e3 e4 e5 e6 e7 r).next s 2).i ≤ 24 ∧ Jt4 z) ∧ (crF z f0 f1 f2 f3 f4 f5 f6 f7 e0 e1 e2 e3 e4 e5 e6 e7 r).μ ((crF z f0 f1 f2 f3 f4 f5 f6 f7 e0 e1 e2 e3 e4 e5 e6 e7 r).next s 2) < (crF z f0 f1 f2 f3 f4 f5 f6 f7 e0 e1 e2 e3 e4 e5 e6 e7 r).μ s ∧ (crF z f0 f1 f2 f3 f4 f5 f6 f7 e0 e1 e2 e3 e4 e5 e6 e7 r).fin ((crF z f0 f1 f2 f3 f4 f5 f6 f7 e0 e1 e2 e3 e4 e5 e6 e7 r).next s 2) = (crF z f0 f1 f2 f3 f4 f5 f6 f7 e0 e1 e2 e3 e4 e5 e6 e7 r).fin s ∧ Int.ofNat ((crF z f0 f1 f2 f3 f4 f5 f6 f7 e0 e1 e2 e3 e4 e5 e6 e7 r).next s 2).i = IntKind.i64.wrap (Int.ofNat s.i + 1) ∧ (((crF z f0 f1 f2 f3 f4 f5 f6 f7 e0 e1 e2 e3 e4 e5 e6 e7 r).next s 2).b0 = bif ZX e0 e1 e2 e3 e4 e5 e6 (JG f4 (IntKind.i64.wrap (0 - s.a0))) (JG f5 (IntKind.i64.wrap (0 - s.a1))) r then IntKind.i64.wrap (0 - s.a0) else s.b0) ∧ (((crF z f0 f1 f2 f3 f4 f5 f6 f7 e0 e1 e2 e3 e4 e5 e6 e7 r).next s 2).b1 = bif ZX e0 e1 e2 e3 e4 e5 e6 (JG f4 (IntKind.i64.wrap (0 - s.a0))) (JG f5 (IntKind.i64.wrap (0 - s.a1))) r then IntKind.i64.wrap (0 - s.a1) else s.b1) ∧ (((crF z f0 f1 f2 f3 f4 f5 f6 f7 e0 e1 e2 e3 e4 e5 e6 e7 r).next s 2).a0 = bif ZX e0 e1 e2 e3 e4 e5 e6 (JG f4 (IntKind.i64.wrap (0 - s.a0))) (JG f5 (IntKind.i64.wrap (0 - s.a1))) r then s.a0 else IntKind.i64.wrap (0 - s.a0)) ∧ ((crF z f0 f1 f2 f3 f4 f5 f6 f7 e0 e1 e2 e3 e4 e5 e6 e7 r).next s 2).a1 = bif ZX e0 e1 e2 e3 e4 e5 e6 (JG f4 (IntKind.i64.wrap (0 - s.a0))) (JG f5 (IntKind.i64.wrap (0 - s.a1))) r then s.a1 else IntKind.i64.wrap (0 - s.a1)),decide (Int.ofNat s.i < 24) = false → Jnh z f0 f1 f2 f3 f4 f5 f6 f7 e0 e1 e2 e3 e4 e5 e6 e7 r s]
end
theorem JsO (z f0 f1 f2 f3 f4 f5 f6:Int) (f7:Bool) (e0 e1 e2 e3 e4 e5 e6:Int) (e7:Bool) (r:Int) (s:CvS) (hNeeds:∀ pN ∈ (JXn z f0 f1 f2 f3 f4 f5 f6 f7 e0 e1 e2 e3 e4 e5 e6 e7 r s),pN):Q4 (Xd (crF z f0 f1 f2 f3 f4 f5 f6 f7 e0 e1 e2 e3 e4 e5 e6 e7 r) (QX Tryz.prog (JC jh) JpS 136 0) 385 s) :=
  Q4.of (ps := (JXn z f0 f1 f2 f3 f4 f5 f6 f7 e0 e1 e2 e3 e4 e5 e6 e7 r s)) (by kernel_rfl) (by kernel_rfl) hNeeds
theorem Jvg (P:Int → Int → Bool) (d z:Int) (full:Bool) (s:CvS) (h:s.i < 24):cv P d z full (24 - s.i) s = bif (!full || decide (Int.ofNat s.i > 0)) && JM7 s then (s.b0,s.b1) else cv P d z full (24 - (s.i + 1)) (cvN P d z full s) := by
  have e:24 - s.i = (24 - (s.i + 1)) + 1 := by omega
  rw [e]; rfl
theorem Jq0 (z f0 f1 f2 f3 f4 f5 f6:Int) (f7:Bool) (e0 e1 e2 e3 e4 e5 e6:Int) (e7:Bool) (r:Int):Qw (crF z f0 f1 f2 f3 f4 f5 f6 f7 e0 e1 e2 e3 e4 e5 e6 e7 r) (QX Tryz.prog (JC jh) JpS 136 0) 385 := by
  intro s hJ
  obtain ⟨hi,hz⟩:s.i ≤ 24 ∧ Xa z := hJ
  refine JsO z f0 f1 f2 f3 f4 f5 f6 f7 e0 e1 e2 e3 e4 e5 e6 e7 r s ?_
  unfold JXn
  intro p hp
  simp only [List.mem_cons,List.not_mem_nil,or_false] at hp
  have hw:IntKind.i64.wrap (Int.ofNat s.i + 1) = Int.ofNat (s.i + 1) := by
    rw [X6 (by simp; omega) (by simp; omega)]; rfl
  rcases hp with rfl | rfl | rfl
  · exact fun _ _ _ => hz
  · intro h0
    have hi':s.i < 24 := by
      have h0:decide (Int.ofNat s.i < 24) = true := h0
      simp at h0; omega
    have E1 := Jvg (crP f4 f5 e0 e1 e2 e3 e4 e5 e6 r) f6 z f7 s hi'
    refine ⟨fun g1 => ⟨fun g2 => ?_,fun g2 => ?_⟩,fun g1 => ?_⟩
    · have g1:(!f7 || decide (Int.ofNat s.i > 0)) = true := g1
      have g2:JM7 s = true := g2
      rw [g1,g2] at E1
      have e2:(crF z f0 f1 f2 f3 f4 f5 f6 f7 e0 e1 e2 e3 e4 e5 e6 e7 r).fin s = (s.b0,s.b1) := E1
      unfold Jnh
      rw [e2]
      exact ⟨rfl,rfl⟩
    · have g1:(!f7 || decide (Int.ofNat s.i > 0)) = true := g1
      have g2:JM7 s = false := g2
      rw [g1,g2] at E1
      have m0:JUf f6 z f7 s = JWS z f6 s := by unfold JUf; rw [g1]; rfl
      have m1:JUm f6 z f7 s = JXW z f6 s := by unfold JUm; rw [g1]; rfl
      refine ⟨⟨by show s.i + 1 ≤ 24; omega,hz⟩,?_,E1.symm,hw.symm,?_,?_,?_,?_⟩
      · show 24 - (s.i + 1) < 24 - s.i; omega
      all_goals (rw [← m0,← m1]; rfl)
    · have m0:JUf f6 z f7 s = IntKind.i64.wrap (0 - s.a0) := by unfold JUf; rw [g1]; rfl
      have m1:JUm f6 z f7 s = IntKind.i64.wrap (0 - s.a1) := by unfold JUm; rw [g1]; rfl
      rw [g1] at E1
      refine ⟨⟨by show s.i + 1 ≤ 24; omega,hz⟩,?_,E1.symm,hw.symm,?_,?_,?_,?_⟩
      · show 24 - (s.i + 1) < 24 - s.i; omega
      all_goals (rw [← m0,← m1]; rfl)
  · intro h
    have hi':24 - s.i = 0 := by
      simp at h; omega
    have e2:(crF z f0 f1 f2 f3 f4 f5 f6 f7 e0 e1 e2 e3 e4 e5 e6 e7 r).fin s = (s.b0,s.b1) := by
      show cv _ _ _ _ (24 - s.i) s = _
      rw [hi']; rfl
    unfold Jnh
    rw [e2]
    exact ⟨rfl,rfl⟩
def crL:QE := fun env mem m => match Wi env 12,JIN mem 374,JIN mem 370,Jcx mem 12,Jcx mem 1,JIN mem 2 with
  | some z,some [b0,b1],some [a0,a1],some ([f0,f1,f2,f3,f4,f5,f6],f7),some ([e0,e1,e2,e3,e4,e5,e6],e7),some [r] => jk (crF z f0 f1 f2 f3 f4 f5 f6 f7 e0 e1 e2 e3 e4 e5 e6 e7 r) 385 (fun _ _ => some (cv0 a0 a1 b0 b1)) env mem m
  | _,_,_,_,_,_ => none
def zW:FuncId → Nat → Option QE := JA9 JpS 136 6 crL
theorem Jck:Known Tryz.prog (JC jh) zW := by
  refine Qe 0 JJk (by kernel_rfl) (Qv fun env mem m x h => ?_)
  unfold crL at h
  have hlen:(QW Tryz.prog 136).length = 1 := by kernel_rfl
  split at h
  · exact ⟨_,XG (Qc Zz JJk (by omega)) (Jq0 _ _ _ _ _ _ _ _ _ _ _ _ _ _ _ _ _ _),h⟩
  · cases h
def JCM:Tpl := ⟨[.agg [.int .i64,.int .i64,.int .i64,.int .i64,.int .i64,.int .i64,.int .i64,.bool],.agg [.int .i64,.int .i64],.agg [.int .i64,.int .i64],.one (.int .i64),.one (.clo 133 0)],[(0,.clo [.one (.ptr 1 0),.one (.ptr 2 0)]),(1,.blk 91 [(3,.int .i64),(4,.int .i64),(5,.int .i64),(6,.int .i64),(7,.int .i64),(8,.int .i64),(9,.int .i64),(10,.bool)]),(2,.blk 3 [(11,.int .i64)])],12⟩
section
variable (f0 f1 f2 f3 f4 f5 f6:Int) (f7:Bool) (l0 l1 h0 h1 rr e0 e1 e2 e3 e4 e5 e6:Int) (e7:Bool) (r:Int)
def JKK:Int:= JG f4 ((crF (IntKind.i64.wrap (JET (J8 (J1 f0 f4) (J1 f1 f5) (J1 f0 f4) (J1 f1 f5)) 2 - IntKind.i64.wrap (f6 * rr))) f0 f1 f2 f3 f4 f5 f6 f7 e0 e1 e2 e3 e4 e5 e6 e7 r).fin (cv0 (J1 l0 f4) (J1 l1 f5) (J1 h0 f4) (J1 h1 f5))).fst
def JJe:Int:= JG f5 ((crF (IntKind.i64.wrap (JET (J8 (J1 f0 f4) (J1 f1 f5) (J1 f0 f4) (J1 f1 f5)) 2 - IntKind.i64.wrap (f6 * rr))) f0 f1 f2 f3 f4 f5 f6 f7 e0 e1 e2 e3 e4 e5 e6 e7 r).fin (cv0 (J1 l0 f4) (J1 l1 f5) (J1 h0 f4) (J1 h1 f5))).snd
def Jd4:Int:= IntKind.i64.wrap (JET (J8 (J1 f0 f4) (J1 f1 f5) (J1 f0 f4) (J1 f1 f5)) 2 - IntKind.i64.wrap (f6 * rr))
def JBM:List Prop:= [-9223372036854775808 ≤ J8 (J1 f0 f4) (J1 f1 f5) (J1 f0 f4) (J1 f1 f5) ∧ J8 (J1 f0 f4) (J1 f1 f5) (J1 f0 f4) (J1 f1 f5) < 9223372036854775808,(cv0 (J1 l0 f4) (J1 l1 f5) (J1 h0 f4) (J1 h1 f5)).i ≤ 24 ∧ -9223372036854775808 ≤ Jd4 f0 f1 f4 f5 f6 rr ∧ Jd4 f0 f1 f4 f5 f6 rr < 9223372036854775808,Int.ofNat (cv0 (J1 l0 f4) (J1 l1 f5) (J1 h0 f4) (J1 h1 f5)).i = 0,(cv0 (J1 l0 f4) (J1 l1 f5) (J1 h0 f4) (J1 h1 f5)).b0 = J1 h0 f4,(cv0 (J1 l0 f4) (J1 l1 f5) (J1 h0 f4) (J1 h1 f5)).b1 = J1 h1 f5,(cv0 (J1 l0 f4) (J1 l1 f5) (J1 h0 f4) (J1 h1 f5)).a0 = J1 l0 f4,(cv0 (J1 l0 f4) (J1 l1 f5) (J1 h0 f4) (J1 h1 f5)).a1 = J1 l1 f5]
end
theorem Jh2 {f0:Int} {f1:Int} {f4:Int} {f5:Int} {f6:Int} {l0:Int} {l1:Int} {h0:Int} {h1:Int} {rr:Int}:∀ q ∈ (JBM f0 f1 f4 f5 f6 l0 l1 h0 h1 rr),q := by
  unfold JBM
  simp only [awc,awn,and_true]
  exact ⟨Jk _,⟨Nat.zero_le _,Jk _⟩,rfl,rfl,rfl,rfl,rfl⟩
def Jci (e0 e1 e2 e3 e4 e5 e6:Int) (e7:Bool) (r:Int):Jn := [(0,Obj.clo [SV.one (SC.ptr 1 0),SV.one (SC.ptr 2 0)]),(1,Obj.blk 91 [(3,Ci e0),(4,Ci e1),(5,Ci e2),(6,Ci e3),(7,Ci e4),(8,Ci e5),(9,Ci e6),(10,Cb e7)]),(2,Obj.blk 3 [(11,Ci r)])]
theorem JhQ (f0 f1 f2 f3 f4 f5 f6:Int) (f7:Bool) (l0 l1 h0 h1 rr e0 e1 e2 e3 e4 e5 e6:Int) (e7:Bool) (r:Int) (hNeeds:∀ pN ∈ (JBM f0 f1 f4 f5 f6 l0 l1 h0 h1 rr),pN):Runs (Jm (JC jh) zW 136) (JCM.args [.i f0,.i f1,.i f2,.i f3,.i f4,.i f5,.i f6,.b f7,.i l0,.i l1,.i h0,.i h1,.i rr,.i e0,.i e1,.i e2,.i e3,.i e4,.i e5,.i e6,.b e7,.i r]) (JCM.memo [.i f0,.i f1,.i f2,.i f3,.i f4,.i f5,.i f6,.b f7,.i l0,.i l1,.i h0,.i h1,.i rr,.i e0,.i e1,.i e2,.i e3,.i e4,.i e5,.i e6,.b e7,.i r] []) JCM.n (SV.agg [Ci (JKK f0 f1 f2 f3 f4 f5 f6 f7 l0 l1 h0 h1 rr e0 e1 e2 e3 e4 e5 e6 e7 r),Ci (JJe f0 f1 f2 f3 f4 f5 f6 f7 l0 l1 h0 h1 rr e0 e1 e2 e3 e4 e5 e6 e7 r)]) (Jci e0 e1 e2 e3 e4 e5 e6 e7 r) :=
  Runs.of1 (ps := (JBM f0 f1 f4 f5 f6 l0 l1 h0 h1 rr)) (by kernel_rfl) hNeeds
def JN3:List Pm → Qs → Option CRes
  | [.i f0,.i f1,.i f2,.i f3,.i f4,.i f5,.i f6,.b f7,.i l0,.i l1,.i h0,.i h1,.i rr,.i e0,.i e1,.i e2,.i e3,.i e4,.i e5,.i e6,.b e7,.i r],[] => some ⟨SV.agg [Ci (JKK f0 f1 f2 f3 f4 f5 f6 f7 l0 l1 h0 h1 rr e0 e1 e2 e3 e4 e5 e6 e7 r),Ci (JJe f0 f1 f2 f3 f4 f5 f6 f7 l0 l1 h0 h1 rr e0 e1 e2 e3 e4 e5 e6 e7 r)],
 Jci e0 e1 e2 e3 e4 e5 e6 e7 r,[],[],478⟩
  | _,_ => none
theorem Joy:Ql Tryz.prog 136 (JU JCM JN3) := by
  refine JI (JE Jck 136) fun ps ls r hr hn _ => ?_
  unfold JN3 at hr
  split at hr
  · cases hr; exact ⟨_,JhQ _ _ _ _ _ _ _ _ _ _ _ _ _ _ _ _ _ _ _ _ _ _ (fun p hp => Jh2 p hp),fun _ => rfl⟩
  · cases hr
def Jav:List (Nat × JY) := (136,JU JCM JN3) :: jh
theorem JNp:Known Tryz.prog (JC Jav) zW := J7 Jck Joy
theorem JUz (A B C D X:Int) (hX:X = A ∨ X = B ∨ X = C ∨ X = D):bd 1048576 (bif !Jd A 1048576 then 0 else bif !Jd B 1048576 then 0 else bif !Jd C 1048576 then 0 else bif !Jd D 1048576 then 0 else X) := by
  have z:bd 1048576 0 := by decide
  cases hA:Jd A 1048576
  · exact z
  cases hB:Jd B 1048576
  · exact z
  cases hC:Jd C 1048576
  · exact z
  cases hD:Jd D 1048576
  · exact z
  have q:∀ {x},Jd x 1048576 = true → bd 1048576 x := fun h => (j3 (by omega) (by omega)).1 h
  rcases hX with rfl | rfl | rfl | rfl
  · exact q hA
  · exact q hB
  · exact q hC
  · exact q hD
theorem JFE (e0 e1 e2 e3 e4 e5 e6 r:Int):bd 1048576 (XN e0 e1 e2 e3 e4 e5 e6 r) ∧ bd 1048576 (XO e0 e1 e2 e3 e4 e5 e6 r) ∧ bd 1048576 (Xj e0 e1 e2 e3 e4 e5 e6 r) ∧ bd 1048576 (Xi e0 e1 e2 e3 e4 e5 e6 r) := by
  have z:bd 1048576 0 := by decide
  have key:∀ (p q s:Bool) (x:Int),bd 1048576 x → bd 1048576 (bif p then bif q then 0 else bif s then 0 else x else x) := fun p q s x h => by
    cases p <;> cases q <;> cases s <;> first | exact h | exact z
  refine ⟨key _ _ _ _ ?_,key _ _ _ _ ?_,key _ _ _ _ ?_,key _ _ _ _ ?_⟩
  · exact JUz _ _ _ _ _ (.inl rfl)
  · exact JUz _ _ _ _ _ (.inr (.inl rfl))
  · exact JUz _ _ _ _ _ (.inr (.inr (.inl rfl)))
  · exact JUz _ _ _ _ _ (.inr (.inr (.inr rfl)))
def JJ6:Tpl := ⟨[.agg [.int .i64,.int .i64,.int .i64,.int .i64,.int .i64,.int .i64,.int .i64,.bool],.agg [.int .i64,.int .i64,.int .i64,.int .i64,.int .i64,.int .i64,.int .i64,.bool],.one (.int .i64)],[],0⟩
section
variable (e0 e1 e2 e3 e4 e5 e6:Int) (e7:Bool) (f0 f1 f2 f3 f4 f5 f6:Int) (f7:Bool) (r:Int)
def JBk:Int:= bif f6 == 0 then JCQ (XN f0 f1 f2 f3 f4 f5 f6 r) (XO f0 f1 f2 f3 f4 f5 f6 r) (Xj f0 f1 f2 f3 f4 f5 f6 r) (Xi f0 f1 f2 f3 f4 f5 f6 r) e0 e1 e2 e3 e4 e5 e6 e7 r else JKK f0 f1 f2 f3 f4 f5 f6 f7 (XN f0 f1 f2 f3 f4 f5 f6 r) (XO f0 f1 f2 f3 f4 f5 f6 r) (Xj f0 f1 f2 f3 f4 f5 f6 r) (Xi f0 f1 f2 f3 f4 f5 f6 r) r e0 e1 e2 e3 e4 e5 e6 e7 r
def JBl:Int:= bif f6 == 0 then JCo (XN f0 f1 f2 f3 f4 f5 f6 r) (XO f0 f1 f2 f3 f4 f5 f6 r) (Xj f0 f1 f2 f3 f4 f5 f6 r) (Xi f0 f1 f2 f3 f4 f5 f6 r) e0 e1 e2 e3 e4 e5 e6 e7 r else JJe f0 f1 f2 f3 f4 f5 f6 f7 (XN f0 f1 f2 f3 f4 f5 f6 r) (XO f0 f1 f2 f3 f4 f5 f6 r) (Xj f0 f1 f2 f3 f4 f5 f6 r) (Xi f0 f1 f2 f3 f4 f5 f6 r) r e0 e1 e2 e3 e4 e5 e6 e7 r
def JMP:Int:= bif Qr e0 e1 e2 e3 e4 e5 e6 r != 0 then 0 else bif Qr f0 f1 f2 f3 f4 f5 f6 r != 0 then 0 else bif !ZX e0 e1 e2 e3 e4 e5 e6 (Xj f0 f1 f2 f3 f4 f5 f6 r) (Xi f0 f1 f2 f3 f4 f5 f6 r) r then 0 else bif !Jd (JBk e0 e1 e2 e3 e4 e5 e6 e7 f0 f1 f2 f3 f4 f5 f6 f7 r) 1048576 || !Jd (JBl e0 e1 e2 e3 e4 e5 e6 e7 f0 f1 f2 f3 f4 f5 f6 f7 r) 1048576 then 0 else bif !JI8 e0 e1 e2 e3 e4 e5 e6 e7 (JBk e0 e1 e2 e3 e4 e5 e6 e7 f0 f1 f2 f3 f4 f5 f6 f7 r) (JBl e0 e1 e2 e3 e4 e5 e6 e7 f0 f1 f2 f3 f4 f5 f6 f7 r) (XN e0 e1 e2 e3 e4 e5 e6 r) (XO e0 e1 e2 e3 e4 e5 e6 r) then 0 else JBk e0 e1 e2 e3 e4 e5 e6 e7 f0 f1 f2 f3 f4 f5 f6 f7 r
def JN2:Int:= bif Qr e0 e1 e2 e3 e4 e5 e6 r != 0 then 0 else bif Qr f0 f1 f2 f3 f4 f5 f6 r != 0 then 0 else bif !ZX e0 e1 e2 e3 e4 e5 e6 (Xj f0 f1 f2 f3 f4 f5 f6 r) (Xi f0 f1 f2 f3 f4 f5 f6 r) r then 0 else bif !Jd (JBk e0 e1 e2 e3 e4 e5 e6 e7 f0 f1 f2 f3 f4 f5 f6 f7 r) 1048576 || !Jd (JBl e0 e1 e2 e3 e4 e5 e6 e7 f0 f1 f2 f3 f4 f5 f6 f7 r) 1048576 then 0 else bif !JI8 e0 e1 e2 e3 e4 e5 e6 e7 (JBk e0 e1 e2 e3 e4 e5 e6 e7 f0 f1 f2 f3 f4 f5 f6 f7 r) (JBl e0 e1 e2 e3 e4 e5 e6 e7 f0 f1 f2 f3 f4 f5 f6 f7 r) (XN e0 e1 e2 e3 e4 e5 e6 r) (XO e0 e1 e2 e3 e4 e5 e6 r) then 0 else JBl e0 e1 e2 e3 e4 e5 e6 e7 f0 f1 f2 f3 f4 f5 f6 f7 r
def JPz:Int:= bif Qr e0 e1 e2 e3 e4 e5 e6 r != 0 then Qr e0 e1 e2 e3 e4 e5 e6 r else bif Qr f0 f1 f2 f3 f4 f5 f6 r != 0 then Qr f0 f1 f2 f3 f4 f5 f6 r else bif !ZX e0 e1 e2 e3 e4 e5 e6 (Xj f0 f1 f2 f3 f4 f5 f6 r) (Xi f0 f1 f2 f3 f4 f5 f6 r) r then 16 else bif !Jd (JBk e0 e1 e2 e3 e4 e5 e6 e7 f0 f1 f2 f3 f4 f5 f6 f7 r) 1048576 || !Jd (JBl e0 e1 e2 e3 e4 e5 e6 e7 f0 f1 f2 f3 f4 f5 f6 f7 r) 1048576 then 3 else bif !JI8 e0 e1 e2 e3 e4 e5 e6 e7 (JBk e0 e1 e2 e3 e4 e5 e6 e7 f0 f1 f2 f3 f4 f5 f6 f7 r) (JBl e0 e1 e2 e3 e4 e5 e6 e7 f0 f1 f2 f3 f4 f5 f6 f7 r) (XN e0 e1 e2 e3 e4 e5 e6 r) (XO e0 e1 e2 e3 e4 e5 e6 r) then 16 else 0
def JH9:List Prop:= [(Qr e0 e1 e2 e3 e4 e5 e6 r != 0) = false → (Qr f0 f1 f2 f3 f4 f5 f6 r != 0) = false → (!ZX e0 e1 e2 e3 e4 e5 e6 (Xj f0 f1 f2 f3 f4 f5 f6 r) (Xi f0 f1 f2 f3 f4 f5 f6 r) r) = false → (f6 == 0) = true → (-1048576 ≤ XN f0 f1 f2 f3 f4 f5 f6 r ∧ XN f0 f1 f2 f3 f4 f5 f6 r ≤ 1048576) ∧ (-1048576 ≤ XO f0 f1 f2 f3 f4 f5 f6 r ∧ XO f0 f1 f2 f3 f4 f5 f6 r ≤ 1048576) ∧ (-1048576 ≤ Xj f0 f1 f2 f3 f4 f5 f6 r ∧ Xj f0 f1 f2 f3 f4 f5 f6 r ≤ 1048576) ∧ -1048576 ≤ Xi f0 f1 f2 f3 f4 f5 f6 r ∧ Xi f0 f1 f2 f3 f4 f5 f6 r ≤ 1048576]
end
theorem Jok {e0:Int} {e1:Int} {e2:Int} {e3:Int} {e4:Int} {e5:Int} {e6:Int} {f0:Int} {f1:Int} {f2:Int} {f3:Int} {f4:Int} {f5:Int} {f6:Int} {r:Int}:∀ q ∈ (JH9 e0 e1 e2 e3 e4 e5 e6 f0 f1 f2 f3 f4 f5 f6 r),q := by
  unfold JH9
  simp only [awc,awn,and_true]
  intro _ _ _ _
  exact JFE _ _ _ _ _ _ _ _
theorem Jqc (e0 e1 e2 e3 e4 e5 e6:Int) (e7:Bool) (f0 f1 f2 f3 f4 f5 f6:Int) (f7:Bool) (r:Int) (hNeeds:∀ pN ∈ (JH9 e0 e1 e2 e3 e4 e5 e6 f0 f1 f2 f3 f4 f5 f6 r),pN):Runs (Jm (JC Jav) zW 108) (JJ6.args [.i e0,.i e1,.i e2,.i e3,.i e4,.i e5,.i e6,.b e7,.i f0,.i f1,.i f2,.i f3,.i f4,.i f5,.i f6,.b f7,.i r]) (JJ6.memo [.i e0,.i e1,.i e2,.i e3,.i e4,.i e5,.i e6,.b e7,.i f0,.i f1,.i f2,.i f3,.i f4,.i f5,.i f6,.b f7,.i r] []) JJ6.n (SV.tup [(true,[Ci (JMP e0 e1 e2 e3 e4 e5 e6 e7 f0 f1 f2 f3 f4 f5 f6 f7 r),Ci (JN2 e0 e1 e2 e3 e4 e5 e6 e7 f0 f1 f2 f3 f4 f5 f6 f7 r)]),(false,[Ci (JPz e0 e1 e2 e3 e4 e5 e6 e7 f0 f1 f2 f3 f4 f5 f6 f7 r)])]) ([]) :=
  Runs.of1 (ps := (JH9 e0 e1 e2 e3 e4 e5 e6 f0 f1 f2 f3 f4 f5 f6 r)) (by kernel_rfl) hNeeds
def JYn:List Pm → Qs → Option CRes
  | [.i e0,.i e1,.i e2,.i e3,.i e4,.i e5,.i e6,.b e7,.i f0,.i f1,.i f2,.i f3,.i f4,.i f5,.i f6,.b f7,.i r],[] => some ⟨SV.tup [(true,[Ci (JMP e0 e1 e2 e3 e4 e5 e6 e7 f0 f1 f2 f3 f4 f5 f6 f7 r),Ci (JN2 e0 e1 e2 e3 e4 e5 e6 e7 f0 f1 f2 f3 f4 f5 f6 f7 r)]),(false,[Ci (JPz e0 e1 e2 e3 e4 e5 e6 e7 f0 f1 f2 f3 f4 f5 f6 f7 r)])],
 [],[],[],25762⟩
  | _,_ => none
theorem Jvv:Ql Tryz.prog 108 (JU JJ6 JYn) := by
  refine JI (JE JNp 108) fun ps ls r hr hn _ => ?_
  unfold JYn at hr
  split at hr
  · cases hr; exact ⟨_,Jqc _ _ _ _ _ _ _ _ _ _ _ _ _ _ _ _ _ (fun p hp => Jok p hp),fun _ => rfl⟩
  · cases hr
def JlU:List (Nat × JY) := (108,JU JJ6 JYn) :: Jav
theorem JZk:Known Tryz.prog (JC JlU) zW := J7 JNp Jvv
def JCl:Tpl := ⟨[.agg pI],[],0⟩
def XX (k f0 f1 f2 t0 t1 t2 p c0 c1 c2 d:Int) (fu:Bool):Int := bif k != 3 || !Kk p || !XK f0 f1 f2 || !XK t0 t1 t2 || !XK c0 c1 c2 || d != 1 && d != -1 || J9 p f0 f1 f2 != J9 p c0 c1 c2 then 1 else bif decide (J8 (Jf f0 f1 f2 p c0 c1 c2) (Ji f0 f1 f2 p c0 c1 c2) (Jf f0 f1 f2 p c0 c1 c2) (Ji f0 f1 f2 p c0 c1 c2) < 64) || decide (J8 (Jf t0 t1 t2 p c0 c1 c2) (Ji t0 t1 t2 p c0 c1 c2) (Jf t0 t1 t2 p c0 c1 c2) (Ji t0 t1 t2 p c0 c1 c2) < 64) || !jR (J8 (Jf f0 f1 f2 p c0 c1 c2) (Ji f0 f1 f2 p c0 c1 c2) (Jf f0 f1 f2 p c0 c1 c2) (Ji f0 f1 f2 p c0 c1 c2)) (J8 (Jf t0 t1 t2 p c0 c1 c2) (Ji t0 t1 t2 p c0 c1 c2) (Jf t0 t1 t2 p c0 c1 c2) (Ji t0 t1 t2 p c0 c1 c2)) || fu && !(Jf f0 f1 f2 p c0 c1 c2 == Jf t0 t1 t2 p c0 c1 c2 && Ji f0 f1 f2 p c0 c1 c2 == Ji t0 t1 t2 p c0 c1 c2) || !fu && XF (Jf f0 f1 f2 p c0 c1 c2) (Ji f0 f1 f2 p c0 c1 c2) (Jf t0 t1 t2 p c0 c1 c2) (Ji t0 t1 t2 p c0 c1 c2) then 12 else 0
theorem Jhv (k bl f0 f1 f2 t0 t1 t2 p c0 c1 c2 d:Int) (fu:Bool) (fe:Int) (pr:Bool) (si ra be n sp:Int) (on:Bool):Runs (Jm (JC JlU) zW 95) (JCl.args [.i k,.i bl,.i f0,.i f1,.i f2,.i t0,.i t1,.i t2,.i p,.i c0,.i c1,.i c2,.i d,.b fu,.i fe,.b pr,.i si,.i ra,.i be,.i n,.i sp,.b on]) (JCl.memo [.i k,.i bl,.i f0,.i f1,.i f2,.i t0,.i t1,.i t2,.i p,.i c0,.i c1,.i c2,.i d,.b fu,.i fe,.b pr,.i si,.i ra,.i be,.i n,.i sp,.b on] []) JCl.n (SV.one (Ci (XX k f0 f1 f2 t0 t1 t2 p c0 c1 c2 d fu))) ([]) :=
  Runs.of1 (ps := []) (by kernel_rfl) (by simp)
def JMk:List Pm → Qs → Option CRes
  | [.i k,.i bl,.i f0,.i f1,.i f2,.i t0,.i t1,.i t2,.i p,.i c0,.i c1,.i c2,.i d,.b fu,.i fe,.b pr,.i si,.i ra,.i be,.i n,.i sp,.b on],[] => some ⟨SV.one (Ci (XX k f0 f1 f2 t0 t1 t2 p c0 c1 c2 d fu)),
 [],[],[],1152⟩
  | _,_ => none
theorem JqS:Ql Tryz.prog 95 (JU JCl JMk) := by
  refine JI (JE JZk 95) fun ps ls r hr hn _ => ?_
  unfold JMk at hr
  split at hr
  · cases hr; exact ⟨_,Jhv _ _ _ _ _ _ _ _ _ _ _ _ _ _ _ _ _ _ _ _ _ _,fun _ => rfl⟩
  · cases hr
def JYd:List (Nat × JY) := (95,JU JCl JMk) :: JlU
theorem JPA:Known Tryz.prog (JC JYd) zW := J7 JZk JqS
def z5:Tpl := ⟨[.one (.int .i64)],[],0⟩
def J3 (k:Int):Bool := decide (k ≥ 1) && decide (k ≤ 6)
theorem JdU (k:Int):Runs (Jm (JC JYd) zW 46) (z5.args [.i k]) (z5.memo [.i k] []) z5.n (SV.one (Cb (J3 k))) ([]) :=
  Runs.of1 (ps := []) (by kernel_rfl) (by simp)
def JIk:List Pm → Qs → Option CRes
  | [.i k],[] => some ⟨SV.one (Cb (J3 k)),
 [],[],[],8⟩
  | _,_ => none
theorem Jj5:Ql Tryz.prog 46 (JU z5 JIk) := by
  refine JI (JE JPA 46) fun ps ls r hr hn _ => ?_
  unfold JIk at hr
  split at hr
  · cases hr; exact ⟨_,JdU _,fun _ => rfl⟩
  · cases hr
def JPk:List (Nat × JY) := (46,JU z5 JIk) :: JYd
theorem JLp:Known Tryz.prog (JC JPk) zW := J7 JPA Jj5
def JD0:Tpl := ⟨[.agg pI],[],0⟩
def JKf:List GK := [.v Q5]
section
variable (x:List GC)
def Jc9:Bool:= bif xi x 0 == 1 then xi x 14 == 0 && !xb x 15 && xi x 18 == 0 else bif decide (xi x 14 < 1) || decide (xi x 14 > 60000000) then false else bif bif xi x 0 == 2 then xi x 0 == 2 else xi x 0 == 3 then decide (xi x 18 ≥ 0) && decide (xi x 18 ≤ 1000) else bif bif xi x 0 == 5 then xi x 0 == 5 else xi x 0 == 6 then xi x 18 == 0 && xb x 15 else xi x 18 == 0
def Jcy:Bool:= bif xi x 0 == 6 then bif xi x 19 != 3 && xi x 19 != 4 then false else Jc9 x else bif xi x 19 != 0 then false else Jc9 x
def JQe:Bool:= decide (xi x 19 ≥ 0)
def Qf:Bool:= bif decide (xi x 1 < 0) || decide (xi x 1 ≥ 2000) then false else bif J3 (xi x 0) then bif !XK (xi x 2) (xi x 3) (xi x 4) || !XK (xi x 5) (xi x 6) (xi x 7) || xi x 20 != 0 || xb x 21 || !bif xi x 16 == 0 then xi x 17 == 0 && (xi x 8 == 0 || xi x 0 == 3) else (xi x 0 == 1 || xi x 0 == 2 || xi x 0 == 3) && Kk (xi x 8) && (xi x 16 == 1 || xi x 16 == -1) && decide (xi x 17 ≥ 0) && decide (xi x 17 ≤ 32768) then false else bif xi x 0 == 3 then bif XX (xi x 0) (xi x 2) (xi x 3) (xi x 4) (xi x 5) (xi x 6) (xi x 7) (xi x 8) (xi x 9) (xi x 10) (xi x 11) (xi x 12) (xb x 13) != 0 then false else Jcy x else bif !(xi x 9 == 0 && (xi x 10 == 0 && xi x 11 == 0)) || xi x 12 != 0 || xb x 13 then false else Jcy x else bif !(xi x 0 == xi x 0 && (xi x 1 == xi x 1 && (xi x 2 == 0 && (xi x 3 == 0 && (xi x 4 == 0 && (xi x 5 == 0 && (xi x 6 == 0 && (xi x 7 == 0 && (xi x 8 == 0 && (xi x 9 == 0 && (xi x 10 == 0 && (xi x 11 == 0 && (xi x 12 == 0 && (xb x 13 == false && (xi x 14 == 0 && (xb x 15 == false && (xi x 16 == 0 && (xi x 17 == 0 && (xi x 18 == 0 && (xi x 19 == xi x 19 && (xi x 20 == xi x 20 && xb x 21 == xb x 21))))))))))))))))))))) then false else bif xi x 0 == 8 then !xb x 21 && decide (xi x 19 ≥ 3) && decide (xi x 19 ≤ 5) && decide (xi x 20 ≥ 0) && decide (xi x 20 ≤ 30000) && (xi x 19 != 5 || xi x 20 == 0) else bif xi x 0 == 9 then xi x 20 == 0 && (xi x 19 == 7 || xi x 19 == 8) else bif xi x 0 == 10 then xi x 20 == 0 && JQe x && decide (xi x 19 < 16) else bif xi x 0 == 7 then !xb x 21 && xi x 20 == 0 && JQe x && decide (xi x 19 ≤ 60000) else bif xi x 0 == 11 then !xb x 21 && xi x 20 == 0 && JQe x && decide (xi x 19 ≤ 32) else (bif xi x 0 == 12 then xi x 0 == 12 else bif xi x 0 == 13 then xi x 0 == 13 else xi x 0 == 14) && (!xb x 21 && xi x 20 == 0 && xi x 19 == 0)
end
theorem Jhr (x:List GC):Runs (Jm (JC JPk) zW 47) (JD0.args (Je JKf [.v x])) (JD0.memo (Je JKf [.v x]) []) JD0.n (SV.one (Cb (Qf x))) ([]) :=
  Runs.of1 (ps := []) (by kernel_rfl) (by simp)
def JN0:List Gm → Qs → Option CRes
  | [.v x],[] => some ⟨SV.one (Cb (Qf x)),
 [],[],[],1925⟩
  | _,_ => none
theorem Jp8:Ql Tryz.prog 47 (Z7 JKf JD0 JN0) := by
  refine Qg (JE JLp 47) fun ps ls r hr hn _ => ?_
  unfold JN0 at hr
  split at hr
  · cases hr; exact ⟨_,Jhr _,fun _ => rfl⟩
  · cases hr
def JXe:List (Nat × JY) := (47,Z7 JKf JD0 JN0) :: JPk
theorem JOp:Known Tryz.prog (JC JXe) zW := J7 JLp Jp8
def JFk:Tpl := ⟨[.agg pI,.one (.int .i64),.one (.int .i64)],[],0⟩
def JOs:List GK := [.v Q5,.i,.i]
section
variable (x:List GC) (pl ra:Int)
def JFa:Int:= IntKind.i64.wrap (J4 pl (xi x 5) (xi x 6) (xi x 7) - J4 pl (xi x 2) (xi x 3) (xi x 4))
def JEq:Int:= IntKind.i64.wrap (J5 pl (xi x 5) (xi x 6) (xi x 7) - J5 pl (xi x 2) (xi x 3) (xi x 4))
def Ja:Bool:= xi x 0 == 2 && J9 pl (xi x 2) (xi x 3) (xi x 4) == J9 pl (xi x 5) (xi x 6) (xi x 7) && decide (J8 (JFa x pl) (JEq x pl) (JFa x pl) (JEq x pl) > 0) && decide (J8 (JFa x pl) (JEq x pl) (JFa x pl) (JEq x pl) ≥ IntKind.i64.wrap (ra * ra))
end
theorem Jjs (x:List GC) (pl ra:Int):Runs (Jm (JC JXe) zW 65) (JFk.args (Je JOs [.v x,.i pl,.i ra])) (JFk.memo (Je JOs [.v x,.i pl,.i ra]) []) JFk.n (SV.one (Cb (Ja x pl ra))) ([]) :=
  Runs.of1 (ps := []) (by kernel_rfl) (by simp)
def JQN:List Gm → Qs → Option CRes
  | [.v x,.i pl,.i ra],[] => some ⟨SV.one (Cb (Ja x pl ra)),
 [],[],[],254⟩
  | _,_ => none
theorem Jsh:Ql Tryz.prog 65 (Z7 JOs JFk JQN) := by
  refine Qg (JE JOp 65) fun ps ls r hr hn _ => ?_
  unfold JQN at hr
  split at hr
  · cases hr; exact ⟨_,Jjs _ _ _,fun _ => rfl⟩
  · cases hr
def JVa:List (Nat × JY) := (65,Z7 JOs JFk JQN) :: JXe
theorem JTu:Known Tryz.prog (JC JVa) zW := J7 JOp Jsh
def Y5:List (Nat × PO) := [(0,.blk 66 [(3,.int .i64),(4,.int .i64),(5,.int .i64),(6,.int .i64),(7,.int .i64),(8,.int .i64),(9,.int .i64),(10,.int .i64),(11,.int .i64),(12,.int .i64),(13,.int .i64),(14,.int .i64),(15,.int .i64),(16,.bool),(17,.int .i64),(18,.bool),(19,.int .i64),(20,.int .i64),(21,.int .i64),(22,.int .i64),(23,.int .i64),(24,.bool),(25,.int .i64),(26,.int .i64),(27,.int .i64),(28,.int .i64),(29,.int .i64),(30,.int .i64),(31,.int .i64),(32,.int .i64),(33,.int .i64),(34,.int .i64),(35,.int .i64),(36,.int .i64),(37,.int .i64),(38,.bool),(39,.int .i64),(40,.bool),(41,.int .i64),(42,.int .i64),(43,.int .i64),(44,.int .i64),(45,.int .i64),(46,.bool),(47,.int .i64),(48,.int .i64),(49,.bool),(50,.wh 1),(51,.bool),(52,.bool),(53,.bool),(54,.bool),(55,.int .i64),(56,.int .i64),(57,.int .i64),(58,.wh 2),(59,.int .i64)]),(1,.row false 40 22 60 jI),(2,.row false 40 22 61 jI)]
def qt:Tpl := ⟨[.one (.ptr 0 0),.agg pI,.agg [.int .i64,.int .i64],.one (.int .i64),.one (.int .i64),.one (.bool)],Y5,62⟩
def JL0:List GK := [.v Q5,.i,.i,.i,.i,.b,.v Q5,.v Q5,.i,.i,.b,.b,.b,.b,.b,.i,.i,.i,.i]
section
variable (x:List GC) (u w lo hi:Int) (al:Bool) (l:List GC) (a0 a1:Int) (O:LL)
def Jmz:Int:= bif al || !(JQ (xi l 8) a0 a1 lo == JQ (xi l 8) u w hi && (JR (xi l 8) a0 a1 lo == JR (xi l 8) u w hi && JS (xi l 8) a0 a1 lo == JS (xi l 8) u w hi)) then u else u
def JnD:Int:= bif al || !(JQ (xi l 8) a0 a1 lo == JQ (xi l 8) u w hi && (JR (xi l 8) a0 a1 lo == JR (xi l 8) u w hi && JS (xi l 8) a0 a1 lo == JS (xi l 8) u w hi)) then w else w
def Zs:LL:= bif al || !(JQ (xi l 8) a0 a1 lo == JQ (xi l 8) u w hi && (JR (xi l 8) a0 a1 lo == JR (xi l 8) u w hi && JS (xi l 8) a0 a1 lo == JS (xi l 8) u w hi)) then O ++ [[xi x 0,xi x 1,JQ (xi l 8) a0 a1 lo,JR (xi l 8) a0 a1 lo,JS (xi l 8) a0 a1 lo,JQ (xi l 8) u w hi,JR (xi l 8) u w hi,JS (xi l 8) u w hi,bif xi x 0 != 3 then 0 else xi x 8,xi x 9,xi x 10,xi x 11,xi x 12,bif xb x 13 then 1 else 0,xi x 14,bif xb x 15 then 1 else 0,0,0,xi x 18,xi x 19,xi x 20,bif xb x 21 then 1 else 0]] else O
def JCv:List Prop:= [(al || !(JQ (xi l 8) a0 a1 lo == JQ (xi l 8) u w hi && (JR (xi l 8) a0 a1 lo == JR (xi l 8) u w hi && JS (xi l 8) a0 a1 lo == JS (xi l 8) u w hi))) = true → (O.length + 1) * 176 ≤ 140737488355328 ∧ O.length + 1 ≤ 9223372036854775807]
end
theorem Jqh {u:Int} {w:Int} {lo:Int} {hi:Int} {al:Bool} {l:List GC} {a0:Int} {a1:Int} {O:LL} (hW:∀ q ∈ ([O.length ≤ 1000000]:List Prop),q):∀ q ∈ (JCv u w lo hi al l a0 a1 O),q := by
  simp only [awc,awn,and_true] at hW
  unfold JCv
  simp only [awc,awn,and_true]
  exact fun _ => ⟨by omega,by omega⟩
def JoB (x:List GC) (u w lo hi:Int) (al:Bool) (l y:List GC) (a0 a1:Int) (tr op cl en mo:Bool) (la0 la1 la2 er:Int) (C O:LL):Jn := [(0,Obj.blk 66 [(3,Ci (xi l 0)),(4,Ci (xi l 1)),(5,Ci (xi l 2)),(6,Ci (xi l 3)),(7,Ci (xi l 4)),(8,Ci (xi l 5)),(9,Ci (xi l 6)),(10,Ci (xi l 7)),(11,Ci (xi l 8)),(12,Ci (xi l 9)),(13,Ci (xi l 10)),(14,Ci (xi l 11)),(15,Ci (xi l 12)),(16,Cb (xb l 13)),(17,Ci (xi l 14)),(18,Cb (xb l 15)),(19,Ci (xi l 16)),(20,Ci (xi l 17)),(21,Ci (xi l 18)),(22,Ci (xi l 19)),(23,Ci (xi l 20)),(24,Cb (xb l 21)),(25,Ci (xi y 0)),(26,Ci (xi y 1)),(27,Ci (xi y 2)),(28,Ci (xi y 3)),(29,Ci (xi y 4)),(30,Ci (xi y 5)),(31,Ci (xi y 6)),(32,Ci (xi y 7)),(33,Ci (xi y 8)),(34,Ci (xi y 9)),(35,Ci (xi y 10)),(36,Ci (xi y 11)),(37,Ci (xi y 12)),(38,Cb (xb y 13)),(39,Ci (xi y 14)),(40,Cb (xb y 15)),(41,Ci (xi y 16)),(42,Ci (xi y 17)),(43,Ci (xi y 18)),(44,Ci (xi y 19)),(45,Ci (xi y 20)),(46,Cb (xb y 21)),(593,Ci (Jmz u w lo hi al l a0 a1)),(594,Ci (JnD u w lo hi al l a0 a1)),(49,Cb tr),(50,SC.wh 1),(51,Cb op),(52,Cb cl),(53,Cb en),(54,Cb mo),(55,Ci la0),(56,Ci la1),(57,Ci la2),(591,SC.wh 589),(59,Ci er)]),(589,Obj.row false 40 22 (RowC.lst 592 jI (Zs x u w lo hi al l a0 a1 O))),(1,Obj.row false 40 22 (RowC.lst 60 jI C))]
theorem JqL (x:List GC) (u w lo hi:Int) (al:Bool) (l y:List GC) (a0 a1:Int) (tr op cl en mo:Bool) (la0 la1 la2 er:Int) (C O:LL) (hNeeds:∀ pN ∈ (JCv u w lo hi al l a0 a1 O),pN):Runs (Jm (JC JVa) zW 72) (qt.args (Je JL0 [.v x,.i u,.i w,.i lo,.i hi,.b al,.v l,.v y,.i a0,.i a1,.b tr,.b op,.b cl,.b en,.b mo,.i la0,.i la1,.i la2,.i er])) (qt.memo (Je JL0 [.v x,.i u,.i w,.i lo,.i hi,.b al,.v l,.v y,.i a0,.i a1,.b tr,.b op,.b cl,.b en,.b mo,.i la0,.i la1,.i la2,.i er]) [C,O]) qt.n (SV.tup []) (JoB x u w lo hi al l y a0 a1 tr op cl en mo la0 la1 la2 er C O) :=
  Runs.of1 (ps := (JCv u w lo hi al l a0 a1 O)) (by kernel_rfl) hNeeds
def JaY:List Gm → Qs → Option CRes
  | [.v x,.i u,.i w,.i lo,.i hi,.b al,.v l,.v y,.i a0,.i a1,.b tr,.b op,.b cl,.b en,.b mo,.i la0,.i la1,.i la2,.i er],[C,O] => some ⟨SV.tup [],[(0,Obj.blk 66 [(3,Ci (xi l 0)),(4,Ci (xi l 1)),(5,Ci (xi l 2)),(6,Ci (xi l 3)),(7,Ci (xi l 4)),(8,Ci (xi l 5)),(9,Ci (xi l 6)),(10,Ci (xi l 7)),(11,Ci (xi l 8)),(12,Ci (xi l 9)),(13,Ci (xi l 10)),(14,Ci (xi l 11)),(15,Ci (xi l 12)),(16,Cb (xb l 13)),(17,Ci (xi l 14)),(18,Cb (xb l 15)),(19,Ci (xi l 16)),(20,Ci (xi l 17)),(21,Ci (xi l 18)),(22,Ci (xi l 19)),(23,Ci (xi l 20)),(24,Cb (xb l 21)),(25,Ci (xi y 0)),(26,Ci (xi y 1)),(27,Ci (xi y 2)),(28,Ci (xi y 3)),(29,Ci (xi y 4)),(30,Ci (xi y 5)),(31,Ci (xi y 6)),(32,Ci (xi y 7)),(33,Ci (xi y 8)),(34,Ci (xi y 9)),(35,Ci (xi y 10)),(36,Ci (xi y 11)),(37,Ci (xi y 12)),(38,Cb (xb y 13)),(39,Ci (xi y 14)),(40,Cb (xb y 15)),(41,Ci (xi y 16)),(42,Ci (xi y 17)),(43,Ci (xi y 18)),(44,Ci (xi y 19)),(45,Ci (xi y 20)),(46,Cb (xb y 21)),(593,Ci (u)),(594,Ci (w)),(49,Cb tr),(50,SC.wh 1),(51,Cb op),(52,Cb cl),(53,Cb en),(54,Cb mo),(55,Ci la0),(56,Ci la1),(57,Ci la2),(591,SC.wh 589),(59,Ci er)]),(589,Obj.row false 40 22 (RowC.lst 592 jI (Zs x u w lo hi al l a0 a1 O))),(1,Obj.row false 40 22 (RowC.lst 60 jI C))],[O.length ≤ 1000000],[],595⟩
  | _,_ => none
theorem Jhg (x:List GC) (u w lo hi:Int) (al:Bool) (l y:List GC) (a0 a1:Int) (tr op cl en mo:Bool) (la0 la1 la2 er:Int) (C O:LL) (hNeeds:∀ pN ∈ (JCv u w lo hi al l a0 a1 O),pN):Runs (Jm (JC JVa) zW 72) (qt.args (Je JL0 [.v x,.i u,.i w,.i lo,.i hi,.b al,.v l,.v y,.i a0,.i a1,.b tr,.b op,.b cl,.b en,.b mo,.i la0,.i la1,.i la2,.i er])) (qt.memo (Je JL0 [.v x,.i u,.i w,.i lo,.i hi,.b al,.v l,.v y,.i a0,.i a1,.b tr,.b op,.b cl,.b en,.b mo,.i la0,.i la1,.i la2,.i er]) [C,O]) qt.n (SV.tup [])
    ([(0,
     Obj.blk 66
     [(3,SC.int IntKind.i64 (SI.v (xi l 0))),(4,SC.int IntKind.i64 (SI.v (xi l 1))),(5,SC.int IntKind.i64 (SI.v (xi l 2))),(6,SC.int IntKind.i64 (SI.v (xi l 3))),
     (7,SC.int IntKind.i64 (SI.v (xi l 4))),(8,SC.int IntKind.i64 (SI.v (xi l 5))),(9,SC.int IntKind.i64 (SI.v (xi l 6))),(10,SC.int IntKind.i64 (SI.v (xi l 7))),
     (11,SC.int IntKind.i64 (SI.v (xi l 8))),(12,SC.int IntKind.i64 (SI.v (xi l 9))),(13,SC.int IntKind.i64 (SI.v (xi l 10))),(14,SC.int IntKind.i64 (SI.v (xi l 11))),
     (15,SC.int IntKind.i64 (SI.v (xi l 12))),(16,SC.bool (SB.v (xb l 13))),(17,SC.int IntKind.i64 (SI.v (xi l 14))),(18,SC.bool (SB.v (xb l 15))),(19,SC.int IntKind.i64 (SI.v (xi l 16))),
     (20,SC.int IntKind.i64 (SI.v (xi l 17))),(21,SC.int IntKind.i64 (SI.v (xi l 18))),(22,SC.int IntKind.i64 (SI.v (xi l 19))),(23,SC.int IntKind.i64 (SI.v (xi l 20))),
     (24,SC.bool (SB.v (xb l 21))),(25,SC.int IntKind.i64 (SI.v (xi y 0))),(26,SC.int IntKind.i64 (SI.v (xi y 1))),(27,SC.int IntKind.i64 (SI.v (xi y 2))),
     (28,SC.int IntKind.i64 (SI.v (xi y 3))),(29,SC.int IntKind.i64 (SI.v (xi y 4))),(30,SC.int IntKind.i64 (SI.v (xi y 5))),(31,SC.int IntKind.i64 (SI.v (xi y 6))),
     (32,SC.int IntKind.i64 (SI.v (xi y 7))),(33,SC.int IntKind.i64 (SI.v (xi y 8))),(34,SC.int IntKind.i64 (SI.v (xi y 9))),(35,SC.int IntKind.i64 (SI.v (xi y 10))),
     (36,SC.int IntKind.i64 (SI.v (xi y 11))),(37,SC.int IntKind.i64 (SI.v (xi y 12))),(38,SC.bool (SB.v (xb y 13))),(39,SC.int IntKind.i64 (SI.v (xi y 14))),(40,SC.bool (SB.v (xb y 15))),
     (41,SC.int IntKind.i64 (SI.v (xi y 16))),(42,SC.int IntKind.i64 (SI.v (xi y 17))),(43,SC.int IntKind.i64 (SI.v (xi y 18))),(44,SC.int IntKind.i64 (SI.v (xi y 19))),
     (45,SC.int IntKind.i64 (SI.v (xi y 20))),(46,SC.bool (SB.v (xb y 21))),(593,SC.int IntKind.i64 (SI.v (u))),
     (594,SC.int IntKind.i64 (SI.v (w))),(49,SC.bool (SB.v tr)),(50,SC.wh 1),(51,SC.bool (SB.v op)),(52,SC.bool (SB.v cl)),(53,SC.bool (SB.v en)),
     (54,SC.bool (SB.v mo)),(55,SC.int IntKind.i64 (SI.v la0)),(56,SC.int IntKind.i64 (SI.v la1)),(57,SC.int IntKind.i64 (SI.v la2)),(591,SC.wh 589),(59,SC.int IntKind.i64 (SI.v er))]),
    (589,
     Obj.row false 40 22
     (RowC.lst 592
     [CK.int IntKind.i64,CK.int IntKind.i64,CK.int IntKind.i64,CK.int IntKind.i64,CK.int IntKind.i64,CK.int IntKind.i64,CK.int IntKind.i64,CK.int IntKind.i64,CK.int IntKind.i64,
     CK.int IntKind.i64,CK.int IntKind.i64,CK.int IntKind.i64,CK.int IntKind.i64,CK.bool,CK.int IntKind.i64,CK.bool,CK.int IntKind.i64,CK.int IntKind.i64,CK.int IntKind.i64,
     CK.int IntKind.i64,CK.int IntKind.i64,CK.bool]
     (Zs x u w lo hi al l a0 a1 O))),
    (1,
     Obj.row false 40 22
     (RowC.lst 60
     [CK.int IntKind.i64,CK.int IntKind.i64,CK.int IntKind.i64,CK.int IntKind.i64,CK.int IntKind.i64,CK.int IntKind.i64,CK.int IntKind.i64,CK.int IntKind.i64,CK.int IntKind.i64,
     CK.int IntKind.i64,CK.int IntKind.i64,CK.int IntKind.i64,CK.int IntKind.i64,CK.bool,CK.int IntKind.i64,CK.bool,CK.int IntKind.i64,CK.int IntKind.i64,CK.int IntKind.i64,
     CK.int IntKind.i64,CK.int IntKind.i64,CK.bool]
     C))]) :=
  (JqL x u w lo hi al l y a0 a1 tr op cl en mo la0 la1 la2 er C O hNeeds).to (by first | rfl | (simp only [])) ((by simp only [JoB,Ci,Cb,jI,Jmz,JnD,Bool.cond_self]))
theorem JvJ:Ql Tryz.prog 72 (Z7 JL0 qt JaY) := by
  refine Qg (JE JTu 72) fun ps ls r hr hn _ => ?_
  unfold JaY at hr
  split at hr
  · cases hr; exact ⟨_,Jhg _ _ _ _ _ _ _ _ _ _ _ _ _ _ _ _ _ _ _ _ _ (Jqh (by exact hn)),fun _ => rfl⟩
  · cases hr
def Jkq:List (Nat × JY) := (72,Z7 JL0 qt JaY) :: JVa
theorem JXK:Known Tryz.prog (JC Jkq) zW := J7 JTu JvJ
theorem We (x:List GC) (u w lo hi:Int) (al:Bool) (l:List GC) (a0 a1:Int) (O:LL):O.length ≤ (Zs x u w lo hi al l a0 a1 O).length ∧ (Zs x u w lo hi al l a0 a1 O).length ≤ O.length + 1 := by
  unfold Zs
  generalize (al || _:Bool) = c
  cases c
  · exact ⟨Nat.le_refl _,Nat.le_succ _⟩
  · simp only [cond_true,List.length_append,List.length_cons,List.length_nil]; omega
def JCp:Tpl := ⟨[.one (.ptr 0 0),.agg [.int .i64,.int .i64],.one (.bool)],Y5,62⟩
def JKY:List GK := [.i,.i,.b,.v Q5,.v Q5,.i,.i,.b,.b,.b,.b,.b,.i,.i,.i,.i]
def jn (u:Int) (l y:List GC):Int := IntKind.i64.wrap (u - J4 (xi l 8) (xi y 9) (xi y 10) (xi y 11))
def jf (w:Int) (l y:List GC):Int := IntKind.i64.wrap (w - J5 (xi l 8) (xi y 9) (xi y 10) (xi y 11))
def W7 (u w:Int) (tm:Bool) (l y:List GC) (a0 a1:Int) (tr:Bool):Bool := bif tr then bif !KN (xi y 2) (xi y 3) (xi y 4) (xi y 5) (xi y 6) (xi y 7) (xi y 8) (xi y 9) (xi y 10) (xi y 11) (xi y 12) (xb y 13) (IntKind.i64.wrap (a0 - J4 (xi l 8) (xi y 9) (xi y 10) (xi y 11))) (IntKind.i64.wrap (a1 - J5 (xi l 8) (xi y 9) (xi y 10) (xi y 11))) then false else !tm || KN (JQ (xi l 8) a0 a1 (J9 (xi l 8) (xi y 2) (xi y 3) (xi y 4))) (JR (xi l 8) a0 a1 (J9 (xi l 8) (xi y 2) (xi y 3) (xi y 4))) (JS (xi l 8) a0 a1 (J9 (xi l 8) (xi y 2) (xi y 3) (xi y 4))) (xi y 5) (xi y 6) (xi y 7) (xi y 8) (xi y 9) (xi y 10) (xi y 11) (xi y 12) (xb y 13) (jn u l y) (jf w l y) else !tm || KN (xi y 2) (xi y 3) (xi y 4) (xi y 5) (xi y 6) (xi y 7) (xi y 8) (xi y 9) (xi y 10) (xi y 11) (xi y 12) (xb y 13) (jn u l y) (jf w l y)
def Jbv (l y:List GC) (a0 a1:Int) (tr op cl en mo:Bool) (la0 la1 la2 er:Int) (C O:LL):Jn := [(0,Obj.blk 66 [(3,Ci (xi l 0)),(4,Ci (xi l 1)),(5,Ci (xi l 2)),(6,Ci (xi l 3)),(7,Ci (xi l 4)),(8,Ci (xi l 5)),(9,Ci (xi l 6)),(10,Ci (xi l 7)),(11,Ci (xi l 8)),(12,Ci (xi l 9)),(13,Ci (xi l 10)),(14,Ci (xi l 11)),(15,Ci (xi l 12)),(16,Cb (xb l 13)),(17,Ci (xi l 14)),(18,Cb (xb l 15)),(19,Ci (xi l 16)),(20,Ci (xi l 17)),(21,Ci (xi l 18)),(22,Ci (xi l 19)),(23,Ci (xi l 20)),(24,Cb (xb l 21)),(25,Ci (xi y 0)),(26,Ci (xi y 1)),(27,Ci (xi y 2)),(28,Ci (xi y 3)),(29,Ci (xi y 4)),(30,Ci (xi y 5)),(31,Ci (xi y 6)),(32,Ci (xi y 7)),(33,Ci (xi y 8)),(34,Ci (xi y 9)),(35,Ci (xi y 10)),(36,Ci (xi y 11)),(37,Ci (xi y 12)),(38,Cb (xb y 13)),(39,Ci (xi y 14)),(40,Cb (xb y 15)),(41,Ci (xi y 16)),(42,Ci (xi y 17)),(43,Ci (xi y 18)),(44,Ci (xi y 19)),(45,Ci (xi y 20)),(46,Cb (xb y 21)),(47,Ci a0),(48,Ci a1),(49,Cb tr),(50,SC.wh 1),(51,Cb op),(52,Cb cl),(53,Cb en),(54,Cb mo),(55,Ci la0),(56,Ci la1),(57,Ci la2),(58,SC.wh 2),(59,Ci er)]),(1,Obj.row false 40 22 (RowC.lst 60 jI C)),(2,Obj.row false 40 22 (RowC.lst 61 jI O))]
theorem Jgr (u w:Int) (tm:Bool) (l y:List GC) (a0 a1:Int) (tr op cl en mo:Bool) (la0 la1 la2 er:Int) (C O:LL):Runs (Jm (JC Jkq) zW 104) (JCp.args (Je JKY [.i u,.i w,.b tm,.v l,.v y,.i a0,.i a1,.b tr,.b op,.b cl,.b en,.b mo,.i la0,.i la1,.i la2,.i er])) (JCp.memo (Je JKY [.i u,.i w,.b tm,.v l,.v y,.i a0,.i a1,.b tr,.b op,.b cl,.b en,.b mo,.i la0,.i la1,.i la2,.i er]) [C,O]) JCp.n (SV.one (Cb (W7 u w tm l y a0 a1 tr))) (Jbv l y a0 a1 tr op cl en mo la0 la1 la2 er C O) :=
  Runs.of1 (ps := []) (by kernel_rfl) (by simp)
def JNH:List Gm → Qs → Option CRes
  | [.i u,.i w,.b tm,.v l,.v y,.i a0,.i a1,.b tr,.b op,.b cl,.b en,.b mo,.i la0,.i la1,.i la2,.i er],[C,O] => some ⟨SV.one (Cb (W7 u w tm l y a0 a1 tr)),
 Jbv l y a0 a1 tr op cl en mo la0 la1 la2 er C O,[],[],2498⟩
  | _,_ => none
theorem JqI:Ql Tryz.prog 104 (Z7 JKY JCp JNH) := by
  refine Qg (JE JXK 104) fun ps ls r hr hn _ => ?_
  unfold JNH at hr
  split at hr
  · cases hr; exact ⟨_,Jgr _ _ _ _ _ _ _ _ _ _ _ _ _ _ _ _ _ _,fun _ => rfl⟩
  · cases hr
def JYa:List (Nat × JY) := (104,Z7 JKY JCp JNH) :: Jkq
theorem JPK:Known Tryz.prog (JC JYa) zW := J7 JXK JqI
def JF6:Tpl := ⟨[.one (.ptr 0 0),.agg [.int .i64,.int .i64],.one (.bool)],Y5,62⟩
def JOX:List GK := [.i,.i,.b,.v Q5,.v Q5,.i,.i,.b,.b,.b,.b,.b,.i,.i,.i,.i]
section
variable (u w:Int) (tm:Bool) (l y:List GC) (a0 a1:Int) (tr:Bool) (O:LL)
def qQ:Int:= J8 (IntKind.i64.wrap (u - a0)) (IntKind.i64.wrap (w - a1)) (IntKind.i64.wrap (J4 (xi l 8) (xi y 5) (xi y 6) (xi y 7) - J4 (xi l 8) (xi y 2) (xi y 3) (xi y 4))) (IntKind.i64.wrap (J5 (xi l 8) (xi y 5) (xi y 6) (xi y 7) - J5 (xi l 8) (xi y 2) (xi y 3) (xi y 4)))
def QB:Int:= bif xi y 0 == 2 then bif (tm || tr) && decide (qQ u w l y a0 a1 ≤ 0) then 16 else 0 else bif (tm || tr) && !xb y 13 && !W7 u w tm (J2 l) (J2 y) a0 a1 tr then 16 else bif XX (xi y 0) (JQ (xi l 8) a0 a1 (J9 (xi l 8) (xi y 2) (xi y 3) (xi y 4))) (JR (xi l 8) a0 a1 (J9 (xi l 8) (xi y 2) (xi y 3) (xi y 4))) (JS (xi l 8) a0 a1 (J9 (xi l 8) (xi y 2) (xi y 3) (xi y 4))) (JQ (xi l 8) u w (J9 (xi l 8) (xi y 5) (xi y 6) (xi y 7))) (JR (xi l 8) u w (J9 (xi l 8) (xi y 5) (xi y 6) (xi y 7))) (JS (xi l 8) u w (J9 (xi l 8) (xi y 5) (xi y 6) (xi y 7))) (bif xi y 0 != 3 then 0 else xi y 8) (xi y 9) (xi y 10) (xi y 11) (xi y 12) (xb y 13 && !tm && !tr) != 0 then 16 else 0
def KP:Int:= bif xi y 0 == 2 then bif (tm || tr) && decide (qQ u w l y a0 a1 ≤ 0) then a0 else u else bif (tm || tr) && !xb y 13 && !W7 u w tm (J2 l) (J2 y) a0 a1 tr then a0 else bif XX (xi y 0) (JQ (xi l 8) a0 a1 (J9 (xi l 8) (xi y 2) (xi y 3) (xi y 4))) (JR (xi l 8) a0 a1 (J9 (xi l 8) (xi y 2) (xi y 3) (xi y 4))) (JS (xi l 8) a0 a1 (J9 (xi l 8) (xi y 2) (xi y 3) (xi y 4))) (JQ (xi l 8) u w (J9 (xi l 8) (xi y 5) (xi y 6) (xi y 7))) (JR (xi l 8) u w (J9 (xi l 8) (xi y 5) (xi y 6) (xi y 7))) (JS (xi l 8) u w (J9 (xi l 8) (xi y 5) (xi y 6) (xi y 7))) (bif xi y 0 != 3 then 0 else xi y 8) (xi y 9) (xi y 10) (xi y 11) (xi y 12) (xb y 13 && !tm && !tr) != 0 then a0 else u
def KO:Int:= bif xi y 0 == 2 then bif (tm || tr) && decide (qQ u w l y a0 a1 ≤ 0) then a1 else w else bif (tm || tr) && !xb y 13 && !W7 u w tm (J2 l) (J2 y) a0 a1 tr then a1 else bif XX (xi y 0) (JQ (xi l 8) a0 a1 (J9 (xi l 8) (xi y 2) (xi y 3) (xi y 4))) (JR (xi l 8) a0 a1 (J9 (xi l 8) (xi y 2) (xi y 3) (xi y 4))) (JS (xi l 8) a0 a1 (J9 (xi l 8) (xi y 2) (xi y 3) (xi y 4))) (JQ (xi l 8) u w (J9 (xi l 8) (xi y 5) (xi y 6) (xi y 7))) (JR (xi l 8) u w (J9 (xi l 8) (xi y 5) (xi y 6) (xi y 7))) (JS (xi l 8) u w (J9 (xi l 8) (xi y 5) (xi y 6) (xi y 7))) (bif xi y 0 != 3 then 0 else xi y 8) (xi y 9) (xi y 10) (xi y 11) (xi y 12) (xb y 13 && !tm && !tr) != 0 then a1 else w
def JZE:Int:= bif xi y 0 != 3 then 0 else xi y 8
def Zq:LL:= bif xi y 0 == 2 then bif (tm || tr) && decide (qQ u w l y a0 a1 ≤ 0) then O else Zs (J2 y) u w (J9 (xi l 8) (xi y 2) (xi y 3) (xi y 4)) (J9 (xi l 8) (xi y 5) (xi y 6) (xi y 7)) false (J2 l) a0 a1 O else bif (tm || tr) && !xb y 13 && !W7 u w tm (J2 l) (J2 y) a0 a1 tr then O else bif XX (xi y 0) (JQ (xi l 8) a0 a1 (J9 (xi l 8) (xi y 2) (xi y 3) (xi y 4))) (JR (xi l 8) a0 a1 (J9 (xi l 8) (xi y 2) (xi y 3) (xi y 4))) (JS (xi l 8) a0 a1 (J9 (xi l 8) (xi y 2) (xi y 3) (xi y 4))) (JQ (xi l 8) u w (J9 (xi l 8) (xi y 5) (xi y 6) (xi y 7))) (JR (xi l 8) u w (J9 (xi l 8) (xi y 5) (xi y 6) (xi y 7))) (JS (xi l 8) u w (J9 (xi l 8) (xi y 5) (xi y 6) (xi y 7))) (JZE y) (xi y 9) (xi y 10) (xi y 11) (xi y 12) (xb y 13 && !tm && !tr) != 0 then O else O ++ [[xi y 0,xi y 1,JQ (xi l 8) a0 a1 (J9 (xi l 8) (xi y 2) (xi y 3) (xi y 4)),JR (xi l 8) a0 a1 (J9 (xi l 8) (xi y 2) (xi y 3) (xi y 4)),JS (xi l 8) a0 a1 (J9 (xi l 8) (xi y 2) (xi y 3) (xi y 4)),JQ (xi l 8) u w (J9 (xi l 8) (xi y 5) (xi y 6) (xi y 7)),JR (xi l 8) u w (J9 (xi l 8) (xi y 5) (xi y 6) (xi y 7)),JS (xi l 8) u w (J9 (xi l 8) (xi y 5) (xi y 6) (xi y 7)),JZE y,xi y 9,xi y 10,xi y 11,xi y 12,bif xb y 13 && !tm && !tr then 1 else 0,xi y 14,bif xb y 15 then 1 else 0,0,0,xi y 18,xi y 19,xi y 20,bif xb y 21 then 1 else 0]]
def JEL:List Prop:= [(xi y 0 == 2) = true → ((tm || tr) && decide (qQ u w l y a0 a1 ≤ 0)) = false → O.length ≤ 1000000,(xi y 0 == 2) = false → ((tm || tr) && !xb y 13 && !W7 u w tm (J2 l) (J2 y) a0 a1 tr) = false → (XX (xi y 0) (JQ (xi l 8) a0 a1 (J9 (xi l 8) (xi y 2) (xi y 3) (xi y 4))) (JR (xi l 8) a0 a1 (J9 (xi l 8) (xi y 2) (xi y 3) (xi y 4))) (JS (xi l 8) a0 a1 (J9 (xi l 8) (xi y 2) (xi y 3) (xi y 4))) (JQ (xi l 8) u w (J9 (xi l 8) (xi y 5) (xi y 6) (xi y 7))) (JR (xi l 8) u w (J9 (xi l 8) (xi y 5) (xi y 6) (xi y 7))) (JS (xi l 8) u w (J9 (xi l 8) (xi y 5) (xi y 6) (xi y 7))) (bif xi y 0 != 3 then 0 else xi y 8) (xi y 9) (xi y 10) (xi y 11) (xi y 12) (xb y 13 && !tm && !tr) != 0) = false → (O.length + 1) * 176 ≤ 140737488355328 ∧ O.length + 1 ≤ 9223372036854775807]
end
theorem JmC {u:Int} {w:Int} {tm:Bool} {l:List GC} {y:List GC} {a0:Int} {a1:Int} {tr:Bool} {O:LL} (hW:∀ q ∈ ([O.length ≤ 1000000]:List Prop),q):∀ q ∈ (JEL u w tm l y a0 a1 tr O),q := by
  simp only [awc,awn,and_true] at hW
  unfold JEL
  simp only [awc,awn,and_true]
  exact ⟨fun _ _ => hW,fun _ _ _ => ⟨by omega,by omega⟩⟩
def JhL (u w:Int) (tm:Bool) (l y:List GC) (a0 a1:Int) (tr op cl en mo:Bool) (la0 la1 la2 er:Int) (C O:LL):Jn := [(0,Obj.blk 66 [(3,Ci (xi l 0)),(4,Ci (xi l 1)),(5,Ci (xi l 2)),(6,Ci (xi l 3)),(7,Ci (xi l 4)),(8,Ci (xi l 5)),(9,Ci (xi l 6)),(10,Ci (xi l 7)),(11,Ci (xi l 8)),(12,Ci (xi l 9)),(13,Ci (xi l 10)),(14,Ci (xi l 11)),(15,Ci (xi l 12)),(16,Cb (xb l 13)),(17,Ci (xi l 14)),(18,Cb (xb l 15)),(19,Ci (xi l 16)),(20,Ci (xi l 17)),(21,Ci (xi l 18)),(22,Ci (xi l 19)),(23,Ci (xi l 20)),(24,Cb (xb l 21)),(25,Ci (xi y 0)),(26,Ci (xi y 1)),(27,Ci (xi y 2)),(28,Ci (xi y 3)),(29,Ci (xi y 4)),(30,Ci (xi y 5)),(31,Ci (xi y 6)),(32,Ci (xi y 7)),(33,Ci (xi y 8)),(34,Ci (xi y 9)),(35,Ci (xi y 10)),(36,Ci (xi y 11)),(37,Ci (xi y 12)),(38,Cb (xb y 13)),(39,Ci (xi y 14)),(40,Cb (xb y 15)),(41,Ci (xi y 16)),(42,Ci (xi y 17)),(43,Ci (xi y 18)),(44,Ci (xi y 19)),(45,Ci (xi y 20)),(46,Cb (xb y 21)),(5758,Ci (KP u w tm l y a0 a1 tr)),(5759,Ci (KO u w tm l y a0 a1 tr)),(49,Cb tr),(50,SC.wh 1),(51,Cb op),(52,Cb cl),(53,Cb en),(54,Cb mo),(55,Ci la0),(56,Ci la1),(57,Ci la2),(5734,SC.wh 5732),(59,Ci er)]),(5732,Obj.row false 40 22 (RowC.lst 5757 jI (Zq u w tm l y a0 a1 tr O))),(1,Obj.row false 40 22 (RowC.lst 60 jI C))]
theorem Jjb (u w:Int) (tm:Bool) (l y:List GC) (a0 a1:Int) (tr op cl en mo:Bool) (la0 la1 la2 er:Int) (C O:LL) (hNeeds:∀ pN ∈ (JEL u w tm l y a0 a1 tr O),pN):Runs (Jm (JC JYa) zW 69) (JF6.args (Je JOX [.i u,.i w,.b tm,.v l,.v y,.i a0,.i a1,.b tr,.b op,.b cl,.b en,.b mo,.i la0,.i la1,.i la2,.i er])) (JF6.memo (Je JOX [.i u,.i w,.b tm,.v l,.v y,.i a0,.i a1,.b tr,.b op,.b cl,.b en,.b mo,.i la0,.i la1,.i la2,.i er]) [C,O]) JF6.n (SV.one (Ci (QB u w tm l y a0 a1 tr))) (JhL u w tm l y a0 a1 tr op cl en mo la0 la1 la2 er C O) :=
  Runs.of1 (ps := (JEL u w tm l y a0 a1 tr O)) (by kernel_rfl) hNeeds
def JSj:List Gm → Qs → Option CRes
  | [.i u,.i w,.b tm,.v l,.v y,.i a0,.i a1,.b tr,.b op,.b cl,.b en,.b mo,.i la0,.i la1,.i la2,.i er],[C,O] => some ⟨SV.one (Ci (QB u w tm l y a0 a1 tr)),
 JhL u w tm l y a0 a1 tr op cl en mo la0 la1 la2 er C O,[O.length ≤ 1000000],[],5760⟩
  | _,_ => none
theorem Ju1:Ql Tryz.prog 69 (Z7 JOX JF6 JSj) := by
  refine Qg (JE JPK 69) fun ps ls r hr hn _ => ?_
  unfold JSj at hr
  split at hr
  · cases hr; exact ⟨_,Jjb _ _ _ _ _ _ _ _ _ _ _ _ _ _ _ _ _ _ (JmC (by exact hn)),fun _ => rfl⟩
  · cases hr
def JV2:List (Nat × JY) := (69,Z7 JOX JF6 JSj) :: JYa
theorem JTr:Known Tryz.prog (JC JV2) zW := J7 JPK Ju1
def JGS (O A:LL):Prop := O.length ≤ A.length ∧ A.length ≤ O.length + 1
theorem JGS.self (O:LL):JGS O O := ⟨Nat.le_refl _,Nat.le_succ _⟩
theorem JGS.one (O:LL) (r:List Int):JGS O (O ++ [r]) := by
  unfold JGS; simp only [List.length_append,List.length_cons,List.length_nil]; omega
theorem JGS.ite {c:Bool} {O A B:LL} (h:JGS O A) (k:JGS O B):JGS O (bif c then A else B) := by cases c <;> assumption
theorem Ym (u w:Int) (tm:Bool) (l y:List GC) (a0 a1:Int) (tr:Bool) (O:LL):JGS O (Zq u w tm l y a0 a1 tr O) := by
  unfold Zq
  exact .ite (.ite (.self O) (We ..)) (.ite (.self O) (.ite (.self O) (.one O _)))
def z7:Tpl := ⟨[.one (.ptr 0 0),.agg pI,.agg [.int .i64,.int .i64],.one (.bool)],Y5,62⟩
def JKs:List GK := [.v Q5,.i,.i,.b,.v Q5,.v Q5,.i,.i,.b,.b,.b,.b,.b,.i,.i,.i,.i]
section
variable (x:List GC) (w u:Int) (l:List GC) (a1 a0:Int)
def K3:Int:= IntKind.i64.wrap (a0 - J4 (xi l 8) (xi x 2) (xi x 3) (xi x 4))
def Xx:Int:= IntKind.i64.wrap (a1 - J5 (xi l 8) (xi x 2) (xi x 3) (xi x 4))
def Xy:Int:= IntKind.i64.wrap (u - J4 (xi l 8) (xi x 2) (xi x 3) (xi x 4))
def K2:Int:= IntKind.i64.wrap (w - J5 (xi l 8) (xi x 2) (xi x 3) (xi x 4))
end
section
variable (x:List GC) (u w:Int) (ou:Bool) (l:List GC) (a0 a1:Int) (O:LL)
def Wu:Int:= IntKind.i64.wrap (JF (K3 x l a0) (Xx x l a1) (Xy x u l) (K2 x w l) * IntKind.i64.wrap (0 - xi l 16))
def Jnf:Int:= bif ou && (decide (Wu x u w l a0 a1 > 0) || Wu x u w l a0 a1 == 0 && decide (J8 (K3 x l a0) (Xx x l a1) (Xy x u l) (K2 x w l) < 0)) && decide (J8 (K3 x l a0) (Xx x l a1) (K3 x l a0) (Xx x l a1) ≥ 64) && decide (J8 (Xy x u l) (K2 x w l) (Xy x u l) (K2 x w l) ≥ 64) then u else u
def Jna:Int:= bif ou && (decide (Wu x u w l a0 a1 > 0) || Wu x u w l a0 a1 == 0 && decide (J8 (K3 x l a0) (Xx x l a1) (Xy x u l) (K2 x w l) < 0)) && decide (J8 (K3 x l a0) (Xx x l a1) (K3 x l a0) (Xx x l a1) ≥ 64) && decide (J8 (Xy x u l) (K2 x w l) (Xy x u l) (K2 x w l) ≥ 64) then w else w
def jA:LL:= bif ou && (decide (Wu x u w l a0 a1 > 0) || Wu x u w l a0 a1 == 0 && decide (J8 (K3 x l a0) (Xx x l a1) (Xy x u l) (K2 x w l) < 0)) && decide (J8 (K3 x l a0) (Xx x l a1) (K3 x l a0) (Xx x l a1) ≥ 64) && decide (J8 (Xy x u l) (K2 x w l) (Xy x u l) (K2 x w l) ≥ 64) then O ++ [[3,xi x 1,JQ (xi l 8) a0 a1 (J9 (xi l 8) (xi x 2) (xi x 3) (xi x 4)),JR (xi l 8) a0 a1 (J9 (xi l 8) (xi x 2) (xi x 3) (xi x 4)),JS (xi l 8) a0 a1 (J9 (xi l 8) (xi x 2) (xi x 3) (xi x 4)),JQ (xi l 8) u w (J9 (xi l 8) (xi x 2) (xi x 3) (xi x 4)),JR (xi l 8) u w (J9 (xi l 8) (xi x 2) (xi x 3) (xi x 4)),JS (xi l 8) u w (J9 (xi l 8) (xi x 2) (xi x 3) (xi x 4)),xi l 8,JQ (xi l 8) (J4 (xi l 8) (xi x 2) (xi x 3) (xi x 4)) (J5 (xi l 8) (xi x 2) (xi x 3) (xi x 4)) (J9 (xi l 8) (xi x 2) (xi x 3) (xi x 4)),JR (xi l 8) (J4 (xi l 8) (xi x 2) (xi x 3) (xi x 4)) (J5 (xi l 8) (xi x 2) (xi x 3) (xi x 4)) (J9 (xi l 8) (xi x 2) (xi x 3) (xi x 4)),JS (xi l 8) (J4 (xi l 8) (xi x 2) (xi x 3) (xi x 4)) (J5 (xi l 8) (xi x 2) (xi x 3) (xi x 4)) (J9 (xi l 8) (xi x 2) (xi x 3) (xi x 4)),IntKind.i64.wrap (0 - xi l 16),0,xi x 14,bif xb x 15 then 1 else 0,0,0,0,0,0,0]] else Zs [GC.i 2,GC.i (xi x 1),GC.i 0,GC.i 0,GC.i 0,GC.i 0,GC.i 0,GC.i 0,GC.i 0,GC.i 0,GC.i 0,GC.i 0,GC.i 0,GC.b false,GC.i (xi x 14),GC.b (xb x 15),GC.i 0,GC.i 0,GC.i 0,GC.i 0,GC.i 0,GC.b false] u w (J9 (xi l 8) (xi x 2) (xi x 3) (xi x 4)) (J9 (xi l 8) (xi x 2) (xi x 3) (xi x 4)) false (J2 l) a0 a1 O
def JD7:List Prop:= [(ou && (decide (Wu x u w l a0 a1 > 0) || Wu x u w l a0 a1 == 0 && decide (J8 (K3 x l a0) (Xx x l a1) (Xy x u l) (K2 x w l) < 0)) && decide (J8 (K3 x l a0) (Xx x l a1) (K3 x l a0) (Xx x l a1) ≥ 64) && decide (J8 (Xy x u l) (K2 x w l) (Xy x u l) (K2 x w l) ≥ 64)) = true → (O.length + 1) * 176 ≤ 140737488355328 ∧ O.length + 1 ≤ 9223372036854775807,(ou && (decide (Wu x u w l a0 a1 > 0) || Wu x u w l a0 a1 == 0 && decide (J8 (K3 x l a0) (Xx x l a1) (Xy x u l) (K2 x w l) < 0)) && decide (J8 (K3 x l a0) (Xx x l a1) (K3 x l a0) (Xx x l a1) ≥ 64) && decide (J8 (Xy x u l) (K2 x w l) (Xy x u l) (K2 x w l) ≥ 64)) = false → O.length ≤ 1000000]
end
theorem JoP {x:List GC} {u:Int} {w:Int} {ou:Bool} {l:List GC} {a0:Int} {a1:Int} {O:LL} (hW:∀ q ∈ ([O.length ≤ 1000000]:List Prop),q):∀ q ∈ (JD7 x u w ou l a0 a1 O),q := by
  simp only [awc,awn,and_true] at hW
  unfold JD7
  simp only [awc,awn,and_true]
  exact ⟨fun _ => ⟨by omega,by omega⟩,fun _ => hW⟩
def JnT (x:List GC) (u w:Int) (ou:Bool) (l y:List GC) (a0 a1:Int) (tr op cl en mo:Bool) (la0 la1 la2 er:Int) (C O:LL):Jn := [(0,Obj.blk 66 [(3,Ci (xi l 0)),(4,Ci (xi l 1)),(5,Ci (xi l 2)),(6,Ci (xi l 3)),(7,Ci (xi l 4)),(8,Ci (xi l 5)),(9,Ci (xi l 6)),(10,Ci (xi l 7)),(11,Ci (xi l 8)),(12,Ci (xi l 9)),(13,Ci (xi l 10)),(14,Ci (xi l 11)),(15,Ci (xi l 12)),(16,Cb (xb l 13)),(17,Ci (xi l 14)),(18,Cb (xb l 15)),(19,Ci (xi l 16)),(20,Ci (xi l 17)),(21,Ci (xi l 18)),(22,Ci (xi l 19)),(23,Ci (xi l 20)),(24,Cb (xb l 21)),(25,Ci (xi y 0)),(26,Ci (xi y 1)),(27,Ci (xi y 2)),(28,Ci (xi y 3)),(29,Ci (xi y 4)),(30,Ci (xi y 5)),(31,Ci (xi y 6)),(32,Ci (xi y 7)),(33,Ci (xi y 8)),(34,Ci (xi y 9)),(35,Ci (xi y 10)),(36,Ci (xi y 11)),(37,Ci (xi y 12)),(38,Cb (xb y 13)),(39,Ci (xi y 14)),(40,Cb (xb y 15)),(41,Ci (xi y 16)),(42,Ci (xi y 17)),(43,Ci (xi y 18)),(44,Ci (xi y 19)),(45,Ci (xi y 20)),(46,Cb (xb y 21)),(1678,Ci (Jnf x u w ou l a0 a1)),(1679,Ci (Jna x u w ou l a0 a1)),(49,Cb tr),(50,SC.wh 1),(51,Cb op),(52,Cb cl),(53,Cb en),(54,Cb mo),(55,Ci la0),(56,Ci la1),(57,Ci la2),(1664,SC.wh 1662),(59,Ci er)]),(1662,Obj.row false 40 22 (RowC.lst 1677 jI (jA x u w ou l a0 a1 O))),(1,Obj.row false 40 22 (RowC.lst 60 jI C))]
theorem Jqk (x:List GC) (u w:Int) (ou:Bool) (l y:List GC) (a0 a1:Int) (tr op cl en mo:Bool) (la0 la1 la2 er:Int) (C O:LL) (hNeeds:∀ pN ∈ (JD7 x u w ou l a0 a1 O),pN):Runs (Jm (JC JV2) zW 109) (z7.args (Je JKs [.v x,.i u,.i w,.b ou,.v l,.v y,.i a0,.i a1,.b tr,.b op,.b cl,.b en,.b mo,.i la0,.i la1,.i la2,.i er])) (z7.memo (Je JKs [.v x,.i u,.i w,.b ou,.v l,.v y,.i a0,.i a1,.b tr,.b op,.b cl,.b en,.b mo,.i la0,.i la1,.i la2,.i er]) [C,O]) z7.n (SV.tup []) (JnT x u w ou l y a0 a1 tr op cl en mo la0 la1 la2 er C O) :=
  Runs.of1 (ps := (JD7 x u w ou l a0 a1 O)) (by kernel_rfl) hNeeds
def Jaw:List Gm → Qs → Option CRes
  | [.v x,.i u,.i w,.b ou,.v l,.v y,.i a0,.i a1,.b tr,.b op,.b cl,.b en,.b mo,.i la0,.i la1,.i la2,.i er],[C,O] => some ⟨SV.tup [],[(0,Obj.blk 66 [(3,Ci (xi l 0)),(4,Ci (xi l 1)),(5,Ci (xi l 2)),(6,Ci (xi l 3)),(7,Ci (xi l 4)),(8,Ci (xi l 5)),(9,Ci (xi l 6)),(10,Ci (xi l 7)),(11,Ci (xi l 8)),(12,Ci (xi l 9)),(13,Ci (xi l 10)),(14,Ci (xi l 11)),(15,Ci (xi l 12)),(16,Cb (xb l 13)),(17,Ci (xi l 14)),(18,Cb (xb l 15)),(19,Ci (xi l 16)),(20,Ci (xi l 17)),(21,Ci (xi l 18)),(22,Ci (xi l 19)),(23,Ci (xi l 20)),(24,Cb (xb l 21)),(25,Ci (xi y 0)),(26,Ci (xi y 1)),(27,Ci (xi y 2)),(28,Ci (xi y 3)),(29,Ci (xi y 4)),(30,Ci (xi y 5)),(31,Ci (xi y 6)),(32,Ci (xi y 7)),(33,Ci (xi y 8)),(34,Ci (xi y 9)),(35,Ci (xi y 10)),(36,Ci (xi y 11)),(37,Ci (xi y 12)),(38,Cb (xb y 13)),(39,Ci (xi y 14)),(40,Cb (xb y 15)),(41,Ci (xi y 16)),(42,Ci (xi y 17)),(43,Ci (xi y 18)),(44,Ci (xi y 19)),(45,Ci (xi y 20)),(46,Cb (xb y 21)),(1678,Ci (u)),(1679,Ci (w)),(49,Cb tr),(50,SC.wh 1),(51,Cb op),(52,Cb cl),(53,Cb en),(54,Cb mo),(55,Ci la0),(56,Ci la1),(57,Ci la2),(1664,SC.wh 1662),(59,Ci er)]),(1662,Obj.row false 40 22 (RowC.lst 1677 jI (jA x u w ou l a0 a1 O))),(1,Obj.row false 40 22 (RowC.lst 60 jI C))],[O.length ≤ 1000000],[],1680⟩
  | _,_ => none
theorem Jiz (x:List GC) (u w:Int) (ou:Bool) (l y:List GC) (a0 a1:Int) (tr op cl en mo:Bool) (la0 la1 la2 er:Int) (C O:LL) (hNeeds:∀ pN ∈ (JD7 x u w ou l a0 a1 O),pN):Runs (Jm (JC JV2) zW 109) (z7.args (Je JKs [.v x,.i u,.i w,.b ou,.v l,.v y,.i a0,.i a1,.b tr,.b op,.b cl,.b en,.b mo,.i la0,.i la1,.i la2,.i er])) (z7.memo (Je JKs [.v x,.i u,.i w,.b ou,.v l,.v y,.i a0,.i a1,.b tr,.b op,.b cl,.b en,.b mo,.i la0,.i la1,.i la2,.i er]) [C,O]) z7.n (SV.tup [])
    ([(0,
     Obj.blk 66
     [(3,SC.int IntKind.i64 (SI.v (xi l 0))),(4,SC.int IntKind.i64 (SI.v (xi l 1))),(5,SC.int IntKind.i64 (SI.v (xi l 2))),(6,SC.int IntKind.i64 (SI.v (xi l 3))),
     (7,SC.int IntKind.i64 (SI.v (xi l 4))),(8,SC.int IntKind.i64 (SI.v (xi l 5))),(9,SC.int IntKind.i64 (SI.v (xi l 6))),(10,SC.int IntKind.i64 (SI.v (xi l 7))),
     (11,SC.int IntKind.i64 (SI.v (xi l 8))),(12,SC.int IntKind.i64 (SI.v (xi l 9))),(13,SC.int IntKind.i64 (SI.v (xi l 10))),(14,SC.int IntKind.i64 (SI.v (xi l 11))),
     (15,SC.int IntKind.i64 (SI.v (xi l 12))),(16,SC.bool (SB.v (xb l 13))),(17,SC.int IntKind.i64 (SI.v (xi l 14))),(18,SC.bool (SB.v (xb l 15))),(19,SC.int IntKind.i64 (SI.v (xi l 16))),
     (20,SC.int IntKind.i64 (SI.v (xi l 17))),(21,SC.int IntKind.i64 (SI.v (xi l 18))),(22,SC.int IntKind.i64 (SI.v (xi l 19))),(23,SC.int IntKind.i64 (SI.v (xi l 20))),
     (24,SC.bool (SB.v (xb l 21))),(25,SC.int IntKind.i64 (SI.v (xi y 0))),(26,SC.int IntKind.i64 (SI.v (xi y 1))),(27,SC.int IntKind.i64 (SI.v (xi y 2))),
     (28,SC.int IntKind.i64 (SI.v (xi y 3))),(29,SC.int IntKind.i64 (SI.v (xi y 4))),(30,SC.int IntKind.i64 (SI.v (xi y 5))),(31,SC.int IntKind.i64 (SI.v (xi y 6))),
     (32,SC.int IntKind.i64 (SI.v (xi y 7))),(33,SC.int IntKind.i64 (SI.v (xi y 8))),(34,SC.int IntKind.i64 (SI.v (xi y 9))),(35,SC.int IntKind.i64 (SI.v (xi y 10))),
     (36,SC.int IntKind.i64 (SI.v (xi y 11))),(37,SC.int IntKind.i64 (SI.v (xi y 12))),(38,SC.bool (SB.v (xb y 13))),(39,SC.int IntKind.i64 (SI.v (xi y 14))),(40,SC.bool (SB.v (xb y 15))),
     (41,SC.int IntKind.i64 (SI.v (xi y 16))),(42,SC.int IntKind.i64 (SI.v (xi y 17))),(43,SC.int IntKind.i64 (SI.v (xi y 18))),(44,SC.int IntKind.i64 (SI.v (xi y 19))),
     (45,SC.int IntKind.i64 (SI.v (xi y 20))),(46,SC.bool (SB.v (xb y 21))),(1678,SC.int IntKind.i64 (SI.v (u))),
     (1679,SC.int IntKind.i64 (SI.v (w))),(49,SC.bool (SB.v tr)),(50,SC.wh 1),(51,SC.bool (SB.v op)),(52,SC.bool (SB.v cl)),(53,SC.bool (SB.v en)),
     (54,SC.bool (SB.v mo)),(55,SC.int IntKind.i64 (SI.v la0)),(56,SC.int IntKind.i64 (SI.v la1)),(57,SC.int IntKind.i64 (SI.v la2)),(1664,SC.wh 1662),
     (59,SC.int IntKind.i64 (SI.v er))]),
    (1662,
     Obj.row false 40 22
     (RowC.lst 1677
     [CK.int IntKind.i64,CK.int IntKind.i64,CK.int IntKind.i64,CK.int IntKind.i64,CK.int IntKind.i64,CK.int IntKind.i64,CK.int IntKind.i64,CK.int IntKind.i64,CK.int IntKind.i64,
     CK.int IntKind.i64,CK.int IntKind.i64,CK.int IntKind.i64,CK.int IntKind.i64,CK.bool,CK.int IntKind.i64,CK.bool,CK.int IntKind.i64,CK.int IntKind.i64,CK.int IntKind.i64,
     CK.int IntKind.i64,CK.int IntKind.i64,CK.bool]
     (jA x u w ou l a0 a1 O))),
    (1,
     Obj.row false 40 22
     (RowC.lst 60
     [CK.int IntKind.i64,CK.int IntKind.i64,CK.int IntKind.i64,CK.int IntKind.i64,CK.int IntKind.i64,CK.int IntKind.i64,CK.int IntKind.i64,CK.int IntKind.i64,CK.int IntKind.i64,
     CK.int IntKind.i64,CK.int IntKind.i64,CK.int IntKind.i64,CK.int IntKind.i64,CK.bool,CK.int IntKind.i64,CK.bool,CK.int IntKind.i64,CK.int IntKind.i64,CK.int IntKind.i64,
     CK.int IntKind.i64,CK.int IntKind.i64,CK.bool]
     C))]) :=
  (Jqk x u w ou l y a0 a1 tr op cl en mo la0 la1 la2 er C O hNeeds).to (by first | rfl | (simp only [])) ((by simp only [JnT,Ci,Cb,jI,Jnf,Jna,Bool.cond_self]))
theorem Jvy:Ql Tryz.prog 109 (Z7 JKs z7 Jaw) := by
  refine Qg (JE JTr 109) fun ps ls r hr hn _ => ?_
  unfold Jaw at hr
  split at hr
  · cases hr; exact ⟨_,Jiz _ _ _ _ _ _ _ _ _ _ _ _ _ _ _ _ _ _ _ (JoP (by exact hn)),fun _ => rfl⟩
  · cases hr
def JQq:List (Nat × JY) := (109,Z7 JKs z7 Jaw) :: JV2
theorem JW1:Known Tryz.prog (JC JQq) zW := J7 JTr Jvy
theorem Jh6 (x:List GC) (u w:Int) (ou:Bool) (l:List GC) (a0 a1:Int) (O:LL):JGS O (jA x u w ou l a0 a1 O) := by
  unfold jA
  exact .ite (.one O _) (We ..)
def B (x:Bool):SC := .bool (.v x)
def CKi:List CK := [.int .i64,.int .i64,.int .i64,.int .i64,.int .i64,.int .i64,.int .i64,.int .i64,.int .i64,.int .i64,.int .i64,.int .i64,.int .i64,.bool,.int .i64,.bool,.int .i64,.int .i64,.int .i64,.int .i64,.int .i64,.bool]
def Kw (id tag:Nat) (xs:LL):Nat × SX.Obj := (id,.row false 40 22 (.lst tag CKi xs))
def Jk4 (g:Nat → Nat) (l y:List GC) (a0 a1:Int) (tr:Bool) (c:Nat) (op cl en mo:Bool) (la0 la1 la2:Int) (o:Nat) (er:Int):List (Nat × SC) := [(g 0,I (xi l 0)),(g 1,I (xi l 1)),(g 2,I (xi l 2)),(g 3,I (xi l 3)),(g 4,I (xi l 4)),(g 5,I (xi l 5)),(g 6,I (xi l 6)),(g 7,I (xi l 7)),(g 8,I (xi l 8)),(g 9,I (xi l 9)),(g 10,I (xi l 10)),(g 11,I (xi l 11)),(g 12,I (xi l 12)),(g 13,B (xb l 13)),(g 14,I (xi l 14)),(g 15,B (xb l 15)),(g 16,I (xi l 16)),(g 17,I (xi l 17)),(g 18,I (xi l 18)),(g 19,I (xi l 19)),(g 20,I (xi l 20)),(g 21,B (xb l 21)),(g 22,I (xi y 0)),(g 23,I (xi y 1)),(g 24,I (xi y 2)),(g 25,I (xi y 3)),(g 26,I (xi y 4)),(g 27,I (xi y 5)),(g 28,I (xi y 6)),(g 29,I (xi y 7)),(g 30,I (xi y 8)),(g 31,I (xi y 9)),(g 32,I (xi y 10)),(g 33,I (xi y 11)),(g 34,I (xi y 12)),(g 35,B (xb y 13)),(g 36,I (xi y 14)),(g 37,B (xb y 15)),(g 38,I (xi y 16)),(g 39,I (xi y 17)),(g 40,I (xi y 18)),(g 41,I (xi y 19)),(g 42,I (xi y 20)),(g 43,B (xb y 21)),(g 44,I a0),(g 45,I a1),(g 46,B tr),(g 47,.wh c),(g 48,B op),(g 49,B cl),(g 50,B en),(g 51,B mo),(g 52,I la0),(g 53,I la1),(g 54,I la2),(g 55,.wh o),(g 56,I er)]
def Jcc:List Bool → List (Nat × SC) → Option (List GC × List (Nat × SC))
  | [],r => some ([],r)
  | false :: ks,(_,.int _ x) :: r => match Jcc ks r with
    | some (l,q) => some (.i x.val :: l,q)
    | none => none
  | true :: ks,(_,.bool x) :: r => match Jcc ks r with
    | some (l,q) => some (.b x.val :: l,q)
    | none => none
  | _,_ => none
section
variable (l:List GC) (a0 a1:Int) (O C:LL) (j:Nat) (r:List Int)
def JUj:LL:= bif J3 (r.getD 0 0) then Zs (Q0 r) a0 a1 (J9 (xi l 8) (r.getD 2 0) (r.getD 3 0) (r.getD 4 0)) (J9 (xi l 8) (r.getD 5 0) (r.getD 6 0) (r.getD 7 0)) false (J2 l) a0 a1 O else O ++ [Jnv r]
def JIJ:LL:= (C.take j).foldl (JUj l a0 a1) O
def JZS:LL:= C.foldl (JUj l a0 a1) O
end
theorem JoS (l:List GC) (a0 a1:Int) (O C:LL) (j:Nat) (h:j < C.length):JIJ l a0 a1 O C (j + 1) = JUj l a0 a1 (JIJ l a0 a1 O C j) (C.getD j []) := by
  have e:C.getD j [] = C[j] := by simp [List.getD,List.getElem?_eq_getElem h]
  unfold JIJ
  rw [List.take_succ_eq_append_getElem h,List.foldl_append,e]
  rfl
theorem JuI (l:List GC) (a0 a1:Int) (O C:LL):JIJ l a0 a1 O C C.length = JZS l a0 a1 O C := by
  unfold JIJ; rw [List.take_length]; rfl
theorem Jtg (l:List GC) (a0 a1:Int) (O:LL) (r:List Int):JGS O (JUj l a0 a1 O r) := by
  unfold JUj
  exact .ite (We ..) (.one O _)
theorem JZw (l:List GC) (a0 a1:Int):∀ (C O:LL),O.length ≤ (JZS l a0 a1 O C).length ∧ (JZS l a0 a1 O C).length ≤ O.length + C.length
  | [],O => ⟨Nat.le_refl _,Nat.le_refl _⟩
  | r :: C,O => by
    have h := Jtg l a0 a1 O r
    have k := JZw l a0 a1 C (JUj l a0 a1 O r)
    unfold JGS at h
    have e:JZS l a0 a1 O (r :: C) = JZS l a0 a1 (JUj l a0 a1 O r) C := rfl
    rw [e,List.length_cons]; omega
theorem Jr7 (l:List GC) (a0 a1:Int) (O C:LL) (j:Nat):(JIJ l a0 a1 O C j).length ≤ O.length + C.length := by
  have h := JZw l a0 a1 (C.take j) O
  have k:(C.take j).length ≤ C.length := by rw [List.length_take]; omega
  have e:JIJ l a0 a1 O C j = JZS l a0 a1 O (C.take j) := rfl
  rw [e]; omega
def JyS (k:Nat):Nat := bif Nat.beq k 44 || Nat.beq k 45 || Nat.beq k 55 then 1000000000 + k else k + 3
def JyU (k:Nat):Nat := bif Nat.beq k 44 || Nat.beq k 45 || Nat.beq k 55 then 69 + k else k + 3
def JEb (l y:List GC) (a0 a1:Int) (tr op cl en mo:Bool) (la0 la1 la2 er:Int) (C O:LL):Fam Nat Unit where
  k := 120
  E j := [(14,ent 1000000060 (.one (I (Int.ofNat j)))),(13,ent 1000000061 (.one (I (Int.ofNat C.length)))),(12,ent 1000000062 (.one (.wh 1))),(0,ent 0 (.one (.ptr 0 0)))]
  M j := [(0,.blk 66 (Jk4 JyS l y a0 a1 tr 1 op cl en mo la0 la1 la2 71 er)),Kw 1 60 C,Kw 71 1000000070 (JIJ l a0 a1 O C j)]
  out _ := .leaf (.exit 0) [(0,ent 0 (.one (.ptr 0 0)))] [(0,.blk 66 (Jk4 JyU l y a0 a1 tr 1 op cl en mo la0 la1 la2 71 er)),Kw 1 60 C,Kw 71 130 (JZS l a0 a1 O C)]
  fin _ := ()
  next j _ := j + 1
  J j := j ≤ C.length ∧ C.length ≤ 1000 ∧ O.length ≤ 900000
  μ j := C.length - j
section
variable (l y:List GC) (a0 a1:Int) (tr op cl en mo:Bool) (la0 la1 la2 er:Int) (C O:LL) (j:Nat)
def JgF:Prop:= decide (Int.ofNat j < Int.ofNat C.length) = true
def JkS:Prop:= (!J3 ((C.getD (Int.ofNat j).toNat []).getD 0 0)) = true
def JkI:Prop:= (!J3 ((C.getD (Int.ofNat j).toNat []).getD 0 0)) = false
def Juk:Prop:= C.length ≤ 1000 ∧ O.length ≤ 900000
def JT2:List Prop:= [JgF C j → 0 ≤ Int.ofNat j ∧ (Int.ofNat j).toNat < C.length ∧ (Int.ofNat j).toNat < C.length ∧ (JkS C j → ((JIJ l a0 a1 O C j).length + 1) * 176 ≤ 140737488355328 ∧ (JIJ l a0 a1 O C j).length + 1 ≤ 9223372036854775807) ∧ (JkI C j → (JIJ l a0 a1 O C j).length ≤ 1000000),JgF C j → (JkS C j → ((JEb l y a0 a1 tr op cl en mo la0 la1 la2 er C O).next j 0 ≤ C.length ∧ Juk C O) ∧ (JEb l y a0 a1 tr op cl en mo la0 la1 la2 er C O).μ ((JEb l y a0 a1 tr op cl en mo la0 la1 la2 er C O).next j 0) < (JEb l y a0 a1 tr op cl en mo la0 la1 la2 er C O).μ j ∧ (JEb l y a0 a1 tr op cl en mo la0 la1 la2 er C O).fin ((JEb l y a0 a1 tr op cl en mo la0 la1 la2 er C O).next j 0) = (JEb l y a0 a1 tr op cl en mo la0 la1 la2 er C O).fin j ∧ Int.ofNat ((JEb l y a0 a1 tr op cl en mo la0 la1 la2 er C O).next j 0) = IntKind.i64.wrap (Int.ofNat j + 1) ∧ Int.ofNat C.length = Int.ofNat C.length ∧ a0 = a0 ∧ a1 = a1 ∧ JIJ l a0 a1 O C ((JEb l y a0 a1 tr op cl en mo la0 la1 la2 er C O).next j 0) = JIJ l a0 a1 O C j ++ [Jnv (C.getD (Int.ofNat j).toNat [])]) ∧ (JkI C j → ((JEb l y a0 a1 tr op cl en mo la0 la1 la2 er C O).next j 1 ≤ C.length ∧ Juk C O) ∧ (JEb l y a0 a1 tr op cl en mo la0 la1 la2 er C O).μ ((JEb l y a0 a1 tr op cl en mo la0 la1 la2 er C O).next j 1) < (JEb l y a0 a1 tr op cl en mo la0 la1 la2 er C O).μ j ∧ (JEb l y a0 a1 tr op cl en mo la0 la1 la2 er C O).fin ((JEb l y a0 a1 tr op cl en mo la0 la1 la2 er C O).next j 1) = (JEb l y a0 a1 tr op cl en mo la0 la1 la2 er C O).fin j ∧ Int.ofNat ((JEb l y a0 a1 tr op cl en mo la0 la1 la2 er C O).next j 1) = IntKind.i64.wrap (Int.ofNat j + 1) ∧ Int.ofNat C.length = Int.ofNat C.length ∧ a0 = a0 ∧ a1 = a1 ∧ JIJ l a0 a1 O C ((JEb l y a0 a1 tr op cl en mo la0 la1 la2 er C O).next j 1) = Zs (Q0 (C.getD (Int.ofNat j).toNat [])) a0 a1 (J9 (xi l 8) ((C.getD (Int.ofNat j).toNat []).getD 2 0) ((C.getD (Int.ofNat j).toNat []).getD 3 0) ((C.getD (Int.ofNat j).toNat []).getD 4 0)) (J9 (xi l 8) ((C.getD (Int.ofNat j).toNat []).getD 5 0) ((C.getD (Int.ofNat j).toNat []).getD 6 0) ((C.getD (Int.ofNat j).toNat []).getD 7 0)) false (J2 l) a0 a1 (JIJ l a0 a1 O C j)),decide (Int.ofNat j < Int.ofNat C.length) = false → a0 = a0 ∧ a1 = a1 ∧ JZS l a0 a1 O C = JIJ l a0 a1 O C j]
end
theorem Jpf (l y:List GC) (a0 a1:Int) (tr op cl en mo:Bool) (la0 la1 la2 er:Int) (C O:LL) (j:Nat) (hNeeds:∀ pN ∈ (JT2 l y a0 a1 tr op cl en mo la0 la1 la2 er C O j),pN):Q4 (Xd (JEb l y a0 a1 tr op cl en mo la0 la1 la2 er C O) (QX Tryz.prog (JC JQq) zW 70 0) 69 j) :=
  Q4.of (ps := (JT2 l y a0 a1 tr op cl en mo la0 la1 la2 er C O j)) (by kernel_rfl) (by kernel_rfl) hNeeds
theorem Jjp (l y:List GC) (a0 a1:Int) (tr op cl en mo:Bool) (la0 la1 la2 er:Int) (C O:LL):Qw (JEb l y a0 a1 tr op cl en mo la0 la1 la2 er C O) (QX Tryz.prog (JC JQq) zW 70 0) 69 := by
  intro j hJ
  obtain ⟨h1,h2,h3⟩:j ≤ C.length ∧ C.length ≤ 1000 ∧ O.length ≤ 900000 := hJ
  refine Jpf l y a0 a1 tr op cl en mo la0 la1 la2 er C O j ?_
  unfold JT2
  have hl := Jr7 l a0 a1 O C j
  have lt:JgF C j → j < C.length := by unfold JgF; simp
  simp only [awc,awn,and_true]
  refine ⟨fun h => ⟨by simp,lt h,lt h,fun _ => ⟨by omega,by omega⟩,fun _ => by omega⟩,fun h => ?_,fun h => ?_⟩
  · have hj := lt h
    have hs := JoS l a0 a1 O C j hj
    have e6:IntKind.i64.wrap (Int.ofNat j + 1) = Int.ofNat (j + 1) := X6 (by simp; omega) (by simp; omega)
    refine ⟨fun h1 => ⟨⟨hj,h2,h3⟩,by show C.length - (j + 1) < C.length - j; omega,trivial,e6.symm,trivial,trivial,trivial,?_⟩,fun h1 => ⟨⟨hj,h2,h3⟩,by show C.length - (j + 1) < C.length - j; omega,trivial,e6.symm,trivial,trivial,trivial,?_⟩⟩
    · show JIJ l a0 a1 O C (j + 1) = _
      rw [hs]; unfold JUj
      unfold JkS at h1
      rw [show J3 ((C.getD j []).getD 0 0) = false by simpa using h1]; rfl
    · show JIJ l a0 a1 O C (j + 1) = _
      rw [hs]; unfold JUj
      unfold JkI at h1
      rw [show J3 ((C.getD j []).getD 0 0) = true by simpa using h1]; rfl
  · have:j = C.length := by simp at h; omega
    rw [this]; exact ⟨trivial,trivial,(JuI ..).symm⟩
def Jwe:QE := fun env mem m => match SX.JD mem 0,SX.JD mem 1,SX.JD mem 2 with
  | some (.blk _ cs),some (.row _ _ _ (.lst _ _ C)),some (.row _ _ _ (.lst _ _ O)) => (match Jcc Q5 cs with
    | some (l,r) => (match Jcc Q5 r with
      | some (y,[(_,.int _ a0),(_,.int _ a1),(_,.bool tr),_,(_,.bool op),(_,.bool cl),(_,.bool en),(_,.bool mo),(_,.int _ la0),(_,.int _ la1),(_,.int _ la2),_,(_,.int _ er)]) => jk (JEb l y a0.val a1.val tr.val op.val cl.val en.val mo.val la0.val la1.val la2.val er.val C O) 69 (fun _ _ => some 0) env mem m
      | _ => none)
    | none => none)
  | _,_,_ => none
def Zh:FuncId → Nat → Option QE := JA9 zW 70 1 Jwe
theorem JWW:Known Tryz.prog (JC JQq) Zh := by
  refine Qe 0 JW1 (by kernel_rfl) (Qv fun env mem m x h => ?_)
  unfold Jwe at h
  have hlen:(QW Tryz.prog 70).length = 1 := by kernel_rfl
  split at h
  · split at h
    · split at h
      · exact ⟨_,XG (Qc Zz JW1 (by omega)) (Jjp _ _ _ _ _ _ _ _ _ _ _ _ _ _ _),h⟩
      · cases h
    · cases h
  · cases h
def zC:Tpl := ⟨[.one (.ptr 0 0)],Y5,62⟩
def JH1:List GK := [.v Q5,.v Q5,.i,.i,.b,.b,.b,.b,.b,.i,.i,.i,.i]
def Qb (l:List GC) (a0 a1:Int) (C O:LL):LL := JZS (J2 l) a0 a1 O C
def jv (l:List GC) (a0 a1:Int) (C O:LL):List Prop := [0 ≤ C.length ∧ C.length ≤ 1000 ∧ O.length ≤ 900000,Int.ofNat 0 = 0,Int.ofNat C.length = Int.ofNat C.length,a0 = a0,a1 = a1,JIJ (J2 l) a0 a1 O C 0 = O]
theorem JeT {l:List GC} {a0:Int} {a1:Int} {C:LL} {O:LL} (hW:∀ q ∈ ([C.length ≤ 1000,O.length ≤ 900000]:List Prop),q):∀ q ∈ (jv l a0 a1 C O),q := by
  simp only [awc,awn,and_true] at hW
  unfold jv
  simp only [awc,awn,and_true]
  exact ⟨⟨Nat.zero_le _,hW⟩,rfl,trivial,trivial,trivial,rfl⟩
def JZB (l y:List GC) (a0 a1:Int) (tr op cl en mo:Bool) (la0 la1 la2 er:Int) (C O:LL):Jn := [(0,Obj.blk 66 [(3,Ci (xi l 0)),(4,Ci (xi l 1)),(5,Ci (xi l 2)),(6,Ci (xi l 3)),(7,Ci (xi l 4)),(8,Ci (xi l 5)),(9,Ci (xi l 6)),(10,Ci (xi l 7)),(11,Ci (xi l 8)),(12,Ci (xi l 9)),(13,Ci (xi l 10)),(14,Ci (xi l 11)),(15,Ci (xi l 12)),(16,Cb (xb l 13)),(17,Ci (xi l 14)),(18,Cb (xb l 15)),(19,Ci (xi l 16)),(20,Ci (xi l 17)),(21,Ci (xi l 18)),(22,Ci (xi l 19)),(23,Ci (xi l 20)),(24,Cb (xb l 21)),(25,Ci (xi y 0)),(26,Ci (xi y 1)),(27,Ci (xi y 2)),(28,Ci (xi y 3)),(29,Ci (xi y 4)),(30,Ci (xi y 5)),(31,Ci (xi y 6)),(32,Ci (xi y 7)),(33,Ci (xi y 8)),(34,Ci (xi y 9)),(35,Ci (xi y 10)),(36,Ci (xi y 11)),(37,Ci (xi y 12)),(38,Cb (xb y 13)),(39,Ci (xi y 14)),(40,Cb (xb y 15)),(41,Ci (xi y 16)),(42,Ci (xi y 17)),(43,Ci (xi y 18)),(44,Ci (xi y 19)),(45,Ci (xi y 20)),(46,Cb (xb y 21)),(113,Ci a0),(114,Ci a1),(49,Cb tr),(197,SC.wh 195),(51,Cb op),(52,Cb cl),(53,Cb en),(54,Cb mo),(55,Ci la0),(56,Ci la1),(57,Ci la2),(124,SC.wh 71),(59,Ci er)]),(195,Obj.row false 40 22 (RowC.lit 196 [])),(1,Obj.row false 40 22 (RowC.lst 60 jI C)),(71,Obj.row false 40 22 (RowC.lst 130 jI (Qb l a0 a1 C O)))]
theorem JfQ (l y:List GC) (a0 a1:Int) (tr op cl en mo:Bool) (la0 la1 la2 er:Int) (C O:LL) (hNeeds:∀ pN ∈ (jv l a0 a1 C O),pN):Runs (Jm (JC JQq) Zh 70) (zC.args (Je JH1 [.v l,.v y,.i a0,.i a1,.b tr,.b op,.b cl,.b en,.b mo,.i la0,.i la1,.i la2,.i er])) (zC.memo (Je JH1 [.v l,.v y,.i a0,.i a1,.b tr,.b op,.b cl,.b en,.b mo,.i la0,.i la1,.i la2,.i er]) [C,O]) zC.n (SV.tup []) (JZB l y a0 a1 tr op cl en mo la0 la1 la2 er C O) :=
  Runs.of1 (ps := (jv l a0 a1 C O)) (by kernel_rfl) hNeeds
def JJg:List Gm → Qs → Option CRes
  | [.v l,.v y,.i a0,.i a1,.b tr,.b op,.b cl,.b en,.b mo,.i la0,.i la1,.i la2,.i er],[C,O] => some ⟨SV.tup [],
 JZB l y a0 a1 tr op cl en mo la0 la1 la2 er C O,[C.length ≤ 1000,O.length ≤ 900000],[],198⟩
  | _,_ => none
theorem Jkr:Ql Tryz.prog 70 (Z7 JH1 zC JJg) := by
  refine Qg (JE JWW 70) fun ps ls r hr hn _ => ?_
  unfold JJg at hr
  split at hr
  · cases hr; exact ⟨_,JfQ _ _ _ _ _ _ _ _ _ _ _ _ _ _ _ (JeT (by exact hn)),fun _ => rfl⟩
  · cases hr
def JS3:List (Nat × JY) := (70,Z7 JH1 zC JJg) :: JQq
theorem JLu:Known Tryz.prog (JC JS3) Zh := J7 JWW Jkr
theorem qI (l:List GC) (a0 a1:Int) (C O:LL):(Qb l a0 a1 C O).length ≤ O.length + C.length := (JZw l a0 a1 C O).2
theorem jE {c:Bool} {a b:LL} {k:Nat} (h:a.length ≤ k) (h':b.length ≤ k):(bif c then a else b).length ≤ k := by cases c <;> assumption
def JGe:Tpl := ⟨[.one (.ptr 0 0),.agg pI],Y5,62⟩
def JPM:List GK := [.v Q5,.v Q5,.v Q5,.i,.i,.b,.b,.b,.b,.b,.i,.i,.i,.i]
section
variable (x:List GC) (C:LL) (op tr:Bool) (a0:Int) (y l:List GC)
def JPV:Int:= bif !Ja (J2 x) (xi x 8) (xi x 17) then 14 else 0
def Jfe:Int:= bif !Ja (J2 x) (xi x 8) (xi x 17) then xi l 0 else xi x 0
def JgA:Int:= bif !Ja (J2 x) (xi x 8) (xi x 17) then xi l 1 else xi x 1
def Jew:Int:= bif !Ja (J2 x) (xi x 8) (xi x 17) then xi l 2 else xi x 2
def JfN:Int:= bif !Ja (J2 x) (xi x 8) (xi x 17) then xi l 3 else xi x 3
def Jdm:Int:= bif !Ja (J2 x) (xi x 8) (xi x 17) then xi l 4 else xi x 4
def JfX:Int:= bif !Ja (J2 x) (xi x 8) (xi x 17) then xi l 5 else xi x 5
def Jdp:Int:= bif !Ja (J2 x) (xi x 8) (xi x 17) then xi l 6 else xi x 6
def Jfq:Int:= bif !Ja (J2 x) (xi x 8) (xi x 17) then xi l 7 else xi x 7
def Jfb:Int:= bif !Ja (J2 x) (xi x 8) (xi x 17) then xi l 8 else xi x 8
def JZX:Int:= bif !Ja (J2 x) (xi x 8) (xi x 17) then xi l 9 else xi x 9
def Ja8:Int:= bif !Ja (J2 x) (xi x 8) (xi x 17) then xi l 10 else xi x 10
def JZj:Int:= bif !Ja (J2 x) (xi x 8) (xi x 17) then xi l 11 else xi x 11
def JWq:Int:= bif !Ja (J2 x) (xi x 8) (xi x 17) then xi l 12 else xi x 12
def JXL:Bool:= bif !Ja (J2 x) (xi x 8) (xi x 17) then xb l 13 else xb x 13
def JYV:Int:= bif !Ja (J2 x) (xi x 8) (xi x 17) then xi l 14 else xi x 14
def JWL:Bool:= bif !Ja (J2 x) (xi x 8) (xi x 17) then xb l 15 else xb x 15
def JYp:Int:= bif !Ja (J2 x) (xi x 8) (xi x 17) then xi l 16 else xi x 16
def JWr:Int:= bif !Ja (J2 x) (xi x 8) (xi x 17) then xi l 17 else xi x 17
def JVr:Int:= bif !Ja (J2 x) (xi x 8) (xi x 17) then xi l 18 else xi x 18
def JVx:Int:= bif !Ja (J2 x) (xi x 8) (xi x 17) then xi l 19 else xi x 19
def JVq:Int:= bif !Ja (J2 x) (xi x 8) (xi x 17) then xi l 20 else xi x 20
def Jay:Bool:= bif !Ja (J2 x) (xi x 8) (xi x 17) then xb l 21 else xb x 21
def JXG:Int:= bif !Ja (J2 x) (xi x 8) (xi x 17) then xi y 0 else 0
def Jb2:Int:= bif !Ja (J2 x) (xi x 8) (xi x 17) then xi y 1 else 0
def JW9:Int:= bif !Ja (J2 x) (xi x 8) (xi x 17) then xi y 2 else 0
def JWH:Int:= bif !Ja (J2 x) (xi x 8) (xi x 17) then xi y 3 else 0
def JXH:Int:= bif !Ja (J2 x) (xi x 8) (xi x 17) then xi y 4 else 0
def JYW:Int:= bif !Ja (J2 x) (xi x 8) (xi x 17) then xi y 5 else 0
def JaK:Int:= bif !Ja (J2 x) (xi x 8) (xi x 17) then xi y 6 else 0
def JYC:Int:= bif !Ja (J2 x) (xi x 8) (xi x 17) then xi y 7 else 0
def JbB:Int:= bif !Ja (J2 x) (xi x 8) (xi x 17) then xi y 8 else 0
def JZU:Int:= bif !Ja (J2 x) (xi x 8) (xi x 17) then xi y 9 else 0
def JZy:Int:= bif !Ja (J2 x) (xi x 8) (xi x 17) then xi y 10 else 0
def JWj:Int:= bif !Ja (J2 x) (xi x 8) (xi x 17) then xi y 11 else 0
def JZn:Int:= bif !Ja (J2 x) (xi x 8) (xi x 17) then xi y 12 else 0
def JVt:Bool:= !Ja (J2 x) (xi x 8) (xi x 17) && xb y 13
def JaD:Int:= bif !Ja (J2 x) (xi x 8) (xi x 17) then xi y 14 else 0
def JXB:Bool:= !Ja (J2 x) (xi x 8) (xi x 17) && xb y 15
def JY9:Int:= bif !Ja (J2 x) (xi x 8) (xi x 17) then xi y 16 else 0
def JWy:Int:= bif !Ja (J2 x) (xi x 8) (xi x 17) then xi y 17 else 0
def JWl:Int:= bif !Ja (J2 x) (xi x 8) (xi x 17) then xi y 18 else 0
def JVo:Int:= bif !Ja (J2 x) (xi x 8) (xi x 17) then xi y 19 else 0
def JXC:Int:= bif !Ja (J2 x) (xi x 8) (xi x 17) then xi y 20 else 0
def JY3:Bool:= !Ja (J2 x) (xi x 8) (xi x 17) && xb y 21
def JJb:Int:= bif !Ja (J2 x) (xi x 8) (xi x 17) then a0 else 0
def JYE:Bool:= !Ja (J2 x) (xi x 8) (xi x 17) && tr
def JaN:Bool:= bif !Ja (J2 x) (xi x 8) (xi x 17) then op else true
def JIu:LL:= bif !Ja (J2 x) (xi x 8) (xi x 17) then C else []
end
def JUB := jI
def JsA (x l y:List GC) (a0 a1:Int) (tr op cl en mo:Bool) (la0 la1 la2 er:Int) (C O:LL) := [(0,Obj.blk 66 [(413,Ci (Jfe x l)),(414,Ci (JgA x l)),(415,Ci (Jew x l)),(416,Ci (JfN x l)),(417,Ci (Jdm x l)),(418,Ci (JfX x l)),(419,Ci (Jdp x l)),(420,Ci (Jfq x l)),(421,Ci (Jfb x l)),(422,Ci (JZX x l)),(423,Ci (Ja8 x l)),(424,Ci (JZj x l)),(425,Ci (JWq x l)),(426,Cb (JXL x l)),(427,Ci (JYV x l)),(428,Cb (JWL x l)),(429,Ci (JYp x l)),(430,Ci (JWr x l)),(431,Ci (JVr x l)),(432,Ci (JVx x l)),(433,Ci (JVq x l)),(434,Cb (Jay x l)),(435,Ci (JXG x y)),(436,Ci (Jb2 x y)),(437,Ci (JW9 x y)),(438,Ci (JWH x y)),(439,Ci (JXH x y)),(440,Ci (JYW x y)),(441,Ci (JaK x y)),(442,Ci (JYC x y)),(443,Ci (JbB x y)),(444,Ci (JZU x y)),(445,Ci (JZy x y)),(446,Ci (JWj x y)),(447,Ci (JZn x y)),(448,Cb (JVt x y)),(449,Ci (JaD x y)),(450,Cb (JXB x y)),(451,Ci (JY9 x y)),(452,Ci (JWy x y)),(453,Ci (JWl x y)),(454,Ci (JVo x y)),(455,Ci (JXC x y)),(456,Cb (JY3 x y)),(457,Ci (JJb x a0)),(458,Ci (JJb x a1)),(459,Cb (JYE x tr)),(411,SC.wh 409),(460,Cb (JaN x op)),(52,Cb cl),(53,Cb en),(54,Cb mo),(55,Ci la0),(56,Ci la1),(57,Ci la2),(58,SC.wh 2),(59,Ci er)]),(409,Obj.row false 40 22 (RowC.lst 412 JUB (JIu x C))),(2,Obj.row false 40 22 (RowC.lst 61 JUB O))]
theorem Jlt (x l y:List GC) (a0 a1:Int) (tr op cl en mo:Bool) (la0 la1 la2 er:Int) (C O:LL):Runs (Jm (JC JS3) Zh 48) (JGe.args (Je JPM [.v x,.v l,.v y,.i a0,.i a1,.b tr,.b op,.b cl,.b en,.b mo,.i la0,.i la1,.i la2,.i er])) (JGe.memo (Je JPM [.v x,.v l,.v y,.i a0,.i a1,.b tr,.b op,.b cl,.b en,.b mo,.i la0,.i la1,.i la2,.i er]) [C,O]) JGe.n (SV.one (Ci (JPV x))) ((JsA x l y a0 a1 tr op cl en mo la0 la1 la2 er C O)) :=
  Runs.of1 (ps := []) (by kernel_rfl) (by simp)
def JRO:List Gm → Qs → Option CRes
  | [.v x,.v l,.v y,.i a0,.i a1,.b tr,.b op,.b cl,.b en,.b mo,.i la0,.i la1,.i la2,.i er],[C,O] => some ⟨SV.one (Ci (JPV x)),
 (JsA x l y a0 a1 tr op cl en mo la0 la1 la2 er C O),[],[],461⟩
  | _,_ => none
theorem Jre:Ql Tryz.prog 48 (Z7 JPM JGe JRO) := by
  refine Qg (JE JLu 48) fun ps ls r hr hn _ => ?_
  unfold JRO at hr
  split at hr
  · cases hr; exact ⟨_,Jlt _ _ _ _ _ _ _ _ _ _ _ _ _ _ _ _,fun _ => rfl⟩
  · cases hr
def Je5:List (Nat × JY) := (48,Z7 JPM JGe JRO) :: JS3
theorem JTD:Known Tryz.prog (JC Je5) Zh := J7 JLu Jre
def JGL:Tpl := ⟨[.one (.ptr 0 0),.agg pI],Y5,62⟩
def JNg:List GK := [.v Q5,.v Q5,.v Q5,.i,.i,.b,.b,.b,.b,.b,.i,.i,.i,.i]
section
variable (x l:List GC) (C O:LL) (a1 a0:Int) (y:List GC) (q0:Nat)
def JNl:Int:= Qr (J4 (xi l 8) (xi x 2) (xi x 3) (xi x 4)) (J5 (xi l 8) (xi x 2) (xi x 3) (xi x 4)) (J4 (xi l 8) (xi x 5) (xi x 6) (xi x 7)) (J5 (xi l 8) (xi x 5) (xi x 6) (xi x 7)) (bif xi x 0 == 3 then J4 (xi l 8) (xi x 9) (xi x 10) (xi x 11) else 0) (bif xi x 0 == 3 then J5 (xi l 8) (xi x 9) (xi x 10) (xi x 11) else 0) (bif xi x 0 == 3 then xi x 12 else 0) (IntKind.i64.wrap (xi l 16 * xi l 17))
def JOJ:Int:= bif JNl x l != 0 then JNl x l else 0
def Zr:Int:= bif Qr (J4 (xi l 8) (xi x 2) (xi x 3) (xi x 4)) (J5 (xi l 8) (xi x 2) (xi x 3) (xi x 4)) (J4 (xi l 8) (xi x 5) (xi x 6) (xi x 7)) (J5 (xi l 8) (xi x 5) (xi x 6) (xi x 7)) (bif xi x 0 == 3 then J4 (xi l 8) (xi x 9) (xi x 10) (xi x 11) else 0) (bif xi x 0 == 3 then J5 (xi l 8) (xi x 9) (xi x 10) (xi x 11) else 0) (bif xi x 0 == 3 then xi x 12 else 0) (IntKind.i64.wrap (xi l 16 * xi l 17)) != 0 then xi y q0 else xi x q0
def JYJ:Int:= Zr x l y 0
def JYF:Int:= Zr x l y 1
def JZT:Int:= Zr x l y 2
def JXE:Int:= Zr x l y 3
def JWB:Int:= Zr x l y 4
def JXt:Int:= Zr x l y 5
def JaA:Int:= Zr x l y 6
def JZA:Int:= Zr x l y 7
def JWD:Int:= Zr x l y 8
def JWJ:Int:= Zr x l y 9
def Jb4:Int:= Zr x l y 10
def JVy:Int:= Zr x l y 11
def JWe:Int:= Zr x l y 12
def JOl:Bool:= bif Qr (J4 (xi l 8) (xi x 2) (xi x 3) (xi x 4)) (J5 (xi l 8) (xi x 2) (xi x 3) (xi x 4)) (J4 (xi l 8) (xi x 5) (xi x 6) (xi x 7)) (J5 (xi l 8) (xi x 5) (xi x 6) (xi x 7)) (bif xi x 0 == 3 then J4 (xi l 8) (xi x 9) (xi x 10) (xi x 11) else 0) (bif xi x 0 == 3 then J5 (xi l 8) (xi x 9) (xi x 10) (xi x 11) else 0) (bif xi x 0 == 3 then xi x 12 else 0) (IntKind.i64.wrap (xi l 16 * xi l 17)) != 0 then xb y q0 else xb x q0
def JW3:Bool:= JOl x l y 13
def Jb3:Int:= Zr x l y 14
def JYz:Bool:= JOl x l y 15
def JZI:Int:= Zr x l y 16
def Ja0:Int:= Zr x l y 17
def JWx:Int:= Zr x l y 18
def Ja1:Int:= Zr x l y 19
def JYs:Int:= Zr x l y 20
def Jan:Bool:= JOl x l y 21
def Y7:Int:= bif xi x 0 == 3 then J4 (xi l 8) (xi x 9) (xi x 10) (xi x 11) else 0
def YD:Int:= bif xi x 0 == 3 then J5 (xi l 8) (xi x 9) (xi x 10) (xi x 11) else 0
def Y8:Int:= bif xi x 0 == 3 then xi x 12 else 0
def JZc:Int:= bif Qr (J4 (xi l 8) (xi x 2) (xi x 3) (xi x 4)) (J5 (xi l 8) (xi x 2) (xi x 3) (xi x 4)) (J4 (xi l 8) (xi x 5) (xi x 6) (xi x 7)) (J5 (xi l 8) (xi x 5) (xi x 6) (xi x 7)) (Y7 x l) (YD x l) (Y8 x) (IntKind.i64.wrap (xi l 16 * xi l 17)) != 0 then a0 else XN (J4 (xi l 8) (xi x 2) (xi x 3) (xi x 4)) (J5 (xi l 8) (xi x 2) (xi x 3) (xi x 4)) (J4 (xi l 8) (xi x 5) (xi x 6) (xi x 7)) (J5 (xi l 8) (xi x 5) (xi x 6) (xi x 7)) (Y7 x l) (YD x l) (Y8 x) (IntKind.i64.wrap (xi l 16 * xi l 17))
def Ja5:Int:= bif Qr (J4 (xi l 8) (xi x 2) (xi x 3) (xi x 4)) (J5 (xi l 8) (xi x 2) (xi x 3) (xi x 4)) (J4 (xi l 8) (xi x 5) (xi x 6) (xi x 7)) (J5 (xi l 8) (xi x 5) (xi x 6) (xi x 7)) (Y7 x l) (YD x l) (Y8 x) (IntKind.i64.wrap (xi l 16 * xi l 17)) != 0 then a1 else XO (J4 (xi l 8) (xi x 2) (xi x 3) (xi x 4)) (J5 (xi l 8) (xi x 2) (xi x 3) (xi x 4)) (J4 (xi l 8) (xi x 5) (xi x 6) (xi x 7)) (J5 (xi l 8) (xi x 5) (xi x 6) (xi x 7)) (Y7 x l) (YD x l) (Y8 x) (IntKind.i64.wrap (xi l 16 * xi l 17))
def JPO:Int:= XN (J4 (xi l 8) (xi x 2) (xi x 3) (xi x 4)) (J5 (xi l 8) (xi x 2) (xi x 3) (xi x 4)) (J4 (xi l 8) (xi x 5) (xi x 6) (xi x 7)) (J5 (xi l 8) (xi x 5) (xi x 6) (xi x 7)) (Y7 x l) (YD x l) (Y8 x) (IntKind.i64.wrap (xi l 16 * xi l 17))
def JO0:Int:= XO (J4 (xi l 8) (xi x 2) (xi x 3) (xi x 4)) (J5 (xi l 8) (xi x 2) (xi x 3) (xi x 4)) (J4 (xi l 8) (xi x 5) (xi x 6) (xi x 7)) (J5 (xi l 8) (xi x 5) (xi x 6) (xi x 7)) (Y7 x l) (YD x l) (Y8 x) (IntKind.i64.wrap (xi l 16 * xi l 17))
def JFn:LL:= bif Qr (J4 (xi l 8) (xi x 2) (xi x 3) (xi x 4)) (J5 (xi l 8) (xi x 2) (xi x 3) (xi x 4)) (J4 (xi l 8) (xi x 5) (xi x 6) (xi x 7)) (J5 (xi l 8) (xi x 5) (xi x 6) (xi x 7)) (Y7 x l) (YD x l) (Y8 x) (IntKind.i64.wrap (xi l 16 * xi l 17)) != 0 then O else Qb (J2 l) (JPO x l) (JO0 x l) C (Zs (J2 l) (JPO x l) (JO0 x l) (J9 (xi l 8) (xi l 2) (xi l 3) (xi l 4)) (J9 (xi l 8) (xi l 2) (xi l 3) (xi l 4)) true (J2 l) (J4 (xi l 8) (xi l 2) (xi l 3) (xi l 4)) (J5 (xi l 8) (xi l 2) (xi l 3) (xi l 4)) O)
def JJp:LL:= bif Qr (J4 (xi l 8) (xi x 2) (xi x 3) (xi x 4)) (J5 (xi l 8) (xi x 2) (xi x 3) (xi x 4)) (J4 (xi l 8) (xi x 5) (xi x 6) (xi x 7)) (J5 (xi l 8) (xi x 5) (xi x 6) (xi x 7)) (bif xi x 0 == 3 then J4 (xi l 8) (xi x 9) (xi x 10) (xi x 11) else 0) (bif xi x 0 == 3 then J5 (xi l 8) (xi x 9) (xi x 10) (xi x 11) else 0) (bif xi x 0 == 3 then xi x 12 else 0) (IntKind.i64.wrap (xi l 16 * xi l 17)) != 0 then C else []
def JEF:List Prop:= [(Qr (J4 (xi l 8) (xi x 2) (xi x 3) (xi x 4)) (J5 (xi l 8) (xi x 2) (xi x 3) (xi x 4)) (J4 (xi l 8) (xi x 5) (xi x 6) (xi x 7)) (J5 (xi l 8) (xi x 5) (xi x 6) (xi x 7)) (Y7 x l) (YD x l) (Y8 x) (IntKind.i64.wrap (xi l 16 * xi l 17)) != 0) = false → O.length ≤ 1000000 ∧ C.length ≤ 1000 ∧ (Zs (J2 l) (XN (J4 (xi l 8) (xi x 2) (xi x 3) (xi x 4)) (J5 (xi l 8) (xi x 2) (xi x 3) (xi x 4)) (J4 (xi l 8) (xi x 5) (xi x 6) (xi x 7)) (J5 (xi l 8) (xi x 5) (xi x 6) (xi x 7)) (Y7 x l) (YD x l) (Y8 x) (IntKind.i64.wrap (xi l 16 * xi l 17))) (XO (J4 (xi l 8) (xi x 2) (xi x 3) (xi x 4)) (J5 (xi l 8) (xi x 2) (xi x 3) (xi x 4)) (J4 (xi l 8) (xi x 5) (xi x 6) (xi x 7)) (J5 (xi l 8) (xi x 5) (xi x 6) (xi x 7)) (Y7 x l) (YD x l) (Y8 x) (IntKind.i64.wrap (xi l 16 * xi l 17))) (J9 (xi l 8) (xi l 2) (xi l 3) (xi l 4)) (J9 (xi l 8) (xi l 2) (xi l 3) (xi l 4)) true (J2 l) (J4 (xi l 8) (xi l 2) (xi l 3) (xi l 4)) (J5 (xi l 8) (xi l 2) (xi l 3) (xi l 4)) O).length ≤ 900000]
end
theorem Jky {x:List GC} {l:List GC} {C:LL} {O:LL} (hW:∀ q ∈ ([C.length ≤ 1000,O.length ≤ 800000]:List Prop),q):∀ q ∈ (JEF x l C O),q := by
  simp only [awc,awn,and_true] at hW
  unfold JEF
  simp only [awc,awn,and_true]
  obtain ⟨h1,h2⟩ := hW
  refine fun _ => ⟨by omega,h1,?_⟩
  refine Nat.le_trans (We ..).2 (by omega)
def Js4 (l x y:List GC) (a0 a1:Int) (tr op cl en mo:Bool) (la0 la1 la2 er:Int) (C O:LL) := [(0,Obj.blk 66 [(3,Ci (xi l 0)),(4,Ci (xi l 1)),(5,Ci (xi l 2)),(6,Ci (xi l 3)),(7,Ci (xi l 4)),(8,Ci (xi l 5)),(9,Ci (xi l 6)),(10,Ci (xi l 7)),(11,Ci (xi l 8)),(12,Ci (xi l 9)),(13,Ci (xi l 10)),(14,Ci (xi l 11)),(15,Ci (xi l 12)),(16,Cb (xb l 13)),(17,Ci (xi l 14)),(18,Cb (xb l 15)),(19,Ci (xi l 16)),(20,Ci (xi l 17)),(21,Ci (xi l 18)),(22,Ci (xi l 19)),(23,Ci (xi l 20)),(24,Cb (xb l 21)),(12673,Ci (JYJ x l y)),(12674,Ci (JYF x l y)),(12675,Ci (JZT x l y)),(12676,Ci (JXE x l y)),(12677,Ci (JWB x l y)),(12678,Ci (JXt x l y)),(12679,Ci (JaA x l y)),(12680,Ci (JZA x l y)),(12681,Ci (JWD x l y)),(12682,Ci (JWJ x l y)),(12683,Ci (Jb4 x l y)),(12684,Ci (JVy x l y)),(12685,Ci (JWe x l y)),(12686,Cb (JW3 x l y)),(12687,Ci (Jb3 x l y)),(12688,Cb (JYz x l y)),(12689,Ci (JZI x l y)),(12690,Ci (Ja0 x l y)),(12691,Ci (JWx x l y)),(12692,Ci (Ja1 x l y)),(12693,Ci (JYs x l y)),(12694,Cb (Jan x l y)),(12695,Ci (JZc x l a0)),(12696,Ci (Ja5 x l a1)),(49,Cb tr),(12667,SC.wh 12665),(51,Cb op),(52,Cb cl),(53,Cb en),(54,Cb mo),(55,Ci la0),(56,Ci la1),(57,Ci la2),(12670,SC.wh 12668),(59,Ci er)]),(12668,Obj.row false 40 22 (RowC.lst 12672 JUB (JFn x l C O))),(12665,Obj.row false 40 22 (RowC.lst 12671 JUB (JJp x l C)))]
theorem JmD (x l y:List GC) (a0 a1:Int) (tr op cl en mo:Bool) (la0 la1 la2 er:Int) (C O:LL) (hNeeds:∀ pN ∈ (JEF x l C O),pN):Runs (Jm (JC Je5) Zh 74) (JGL.args (Je JNg [.v x,.v l,.v y,.i a0,.i a1,.b tr,.b op,.b cl,.b en,.b mo,.i la0,.i la1,.i la2,.i er])) (JGL.memo (Je JNg [.v x,.v l,.v y,.i a0,.i a1,.b tr,.b op,.b cl,.b en,.b mo,.i la0,.i la1,.i la2,.i er]) [C,O]) JGL.n (SV.one (Ci (JOJ x l))) ((Js4 l x y a0 a1 tr op cl en mo la0 la1 la2 er C O)) :=
  Runs.of1 (ps := (JEF x l C O)) (by kernel_rfl) hNeeds
def JSd:List Gm → Qs → Option CRes
  | [.v x,.v l,.v y,.i a0,.i a1,.b tr,.b op,.b cl,.b en,.b mo,.i la0,.i la1,.i la2,.i er],[C,O] => some ⟨SV.one (Ci (JOJ x l)),
 (Js4 l x y a0 a1 tr op cl en mo la0 la1 la2 er C O),[C.length ≤ 1000,O.length ≤ 800000],[],12697⟩
  | _,_ => none
theorem Jtc:Ql Tryz.prog 74 (Z7 JNg JGL JSd) := by
  refine Qg (JE JTD 74) fun ps ls r hr hn _ => ?_
  unfold JSd at hr
  split at hr
  · cases hr; exact ⟨_,JmD _ _ _ _ _ _ _ _ _ _ _ _ _ _ _ _ (Jky (by exact hn)),fun _ => rfl⟩
  · cases hr
def Jfw:List (Nat × JY) := (74,Z7 JNg JGL JSd) :: Je5
theorem JUD:Known Tryz.prog (JC Jfw) Zh := J7 JTD Jtc
def JJA:Tpl := ⟨[.one (.ptr 0 0),.agg pI],Y5,62⟩
def JVH:List GK := [.v Q5,.v Q5,.v Q5,.i,.i,.b,.b,.b,.b,.b,.i,.i,.i,.i]
section
variable (x l y:List GC)
def XA:Int:= bif xi y 0 == 3 then J4 (xi l 8) (xi y 9) (xi y 10) (xi y 11) else 0
def XB:Int:= bif xi y 0 == 3 then J5 (xi l 8) (xi y 9) (xi y 10) (xi y 11) else 0
def Qn:Int:= bif xi y 0 == 3 then xi y 12 else 0
def YR:Bool:= xi y 0 == 3 && xb y 13
def Ke:Int:= bif xi x 0 == 3 then J4 (xi l 8) (xi x 9) (xi x 10) (xi x 11) else 0
def Kc:Int:= bif xi x 0 == 3 then J5 (xi l 8) (xi x 9) (xi x 10) (xi x 11) else 0
def Zf:Int:= JPz (J4 (xi l 8) (xi y 2) (xi y 3) (xi y 4)) (J5 (xi l 8) (xi y 2) (xi y 3) (xi y 4)) (J4 (xi l 8) (xi y 5) (xi y 6) (xi y 7)) (J5 (xi l 8) (xi y 5) (xi y 6) (xi y 7)) (XA l y) (XB l y) (Qn y) (YR y) (J4 (xi l 8) (xi x 2) (xi x 3) (xi x 4)) (J5 (xi l 8) (xi x 2) (xi x 3) (xi x 4)) (J4 (xi l 8) (xi x 5) (xi x 6) (xi x 7)) (J5 (xi l 8) (xi x 5) (xi x 6) (xi x 7)) (Ke x l) (Kc x l) (Qn x) (YR x) (IntKind.i64.wrap (xi l 16 * xi l 17))
end
def JCx (l y x:List GC) := JMP (J4 (xi l 8) (xi y 2) (xi y 3) (xi y 4)) (J5 (xi l 8) (xi y 2) (xi y 3) (xi y 4)) (J4 (xi l 8) (xi y 5) (xi y 6) (xi y 7)) (J5 (xi l 8) (xi y 5) (xi y 6) (xi y 7)) (XA l y) (XB l y) (Qn y) (YR y) (J4 (xi l 8) (xi x 2) (xi x 3) (xi x 4)) (J5 (xi l 8) (xi x 2) (xi x 3) (xi x 4)) (J4 (xi l 8) (xi x 5) (xi x 6) (xi x 7)) (J5 (xi l 8) (xi x 5) (xi x 6) (xi x 7)) (Ke x l) (Kc x l) (Qn x) (YR x) (IntKind.i64.wrap (xi l 16 * xi l 17))
def JCZ (l y x:List GC) := JN2 (J4 (xi l 8) (xi y 2) (xi y 3) (xi y 4)) (J5 (xi l 8) (xi y 2) (xi y 3) (xi y 4)) (J4 (xi l 8) (xi y 5) (xi y 6) (xi y 7)) (J5 (xi l 8) (xi y 5) (xi y 6) (xi y 7)) (XA l y) (XB l y) (Qn y) (YR y) (J4 (xi l 8) (xi x 2) (xi x 3) (xi x 4)) (J5 (xi l 8) (xi x 2) (xi x 3) (xi x 4)) (J4 (xi l 8) (xi x 5) (xi x 6) (xi x 7)) (J5 (xi l 8) (xi x 5) (xi x 6) (xi x 7)) (Ke x l) (Kc x l) (Qn x) (YR x) (IntKind.i64.wrap (xi l 16 * xi l 17))
section
variable (x l y:List GC) (a0 a1:Int) (tr:Bool)
def JKQ:Int:= QB (JCx l y x) (JCZ l y x) true (J2 l) (J2 y) a0 a1 tr
def JFU:Int:= Qr (J4 (xi l 8) (xi y 2) (xi y 3) (xi y 4)) (J5 (xi l 8) (xi y 2) (xi y 3) (xi y 4)) (J4 (xi l 8) (xi y 5) (xi y 6) (xi y 7)) (J5 (xi l 8) (xi y 5) (xi y 6) (xi y 7)) (XA l y) (XB l y) (Qn y) (IntKind.i64.wrap (xi l 16 * xi l 17))
def Z4:Int:= Qr (J4 (xi l 8) (xi x 2) (xi x 3) (xi x 4)) (J5 (xi l 8) (xi x 2) (xi x 3) (xi x 4)) (J4 (xi l 8) (xi x 5) (xi x 6) (xi x 7)) (J5 (xi l 8) (xi x 5) (xi x 6) (xi x 7)) (Ke x l) (Kc x l) (Qn x) (IntKind.i64.wrap (xi l 16 * xi l 17))
end
def JCt (l y:List GC) := Xj (J4 (xi l 8) (xi y 2) (xi y 3) (xi y 4)) (J5 (xi l 8) (xi y 2) (xi y 3) (xi y 4)) (J4 (xi l 8) (xi y 5) (xi y 6) (xi y 7)) (J5 (xi l 8) (xi y 5) (xi y 6) (xi y 7)) (XA l y) (XB l y) (Qn y) (IntKind.i64.wrap (xi l 16 * xi l 17))
def JDK (l y:List GC) := Xi (J4 (xi l 8) (xi y 2) (xi y 3) (xi y 4)) (J5 (xi l 8) (xi y 2) (xi y 3) (xi y 4)) (J4 (xi l 8) (xi y 5) (xi y 6) (xi y 7)) (J5 (xi l 8) (xi y 5) (xi y 6) (xi y 7)) (XA l y) (XB l y) (Qn y) (IntKind.i64.wrap (xi l 16 * xi l 17))
def JF1 (l y:List GC) (a0 a1:Int) (tr:Bool):Int := QB (JCt l y) (JDK l y) false (J2 l) (J2 y) a0 a1 tr
def Yx (l y x:List GC) := bif IntKind.i64.wrap (xi l 16 * xi l 17) == 0 then 0 else JCD (Z6 (xi y 0) (xi y 2) (xi y 3) (xi y 4) (xi y 5) (xi y 6) (xi y 7) (xi y 8) (xi y 9) (xi y 10) (xi y 11) (xi y 12) true) (Z5 (xi y 0) (xi y 2) (xi y 3) (xi y 4) (xi y 5) (xi y 6) (xi y 7) (xi y 8) (xi y 9) (xi y 10) (xi y 11) (xi y 12) true) (Z6 (xi x 0) (xi x 2) (xi x 3) (xi x 4) (xi x 5) (xi x 6) (xi x 7) (xi x 8) (xi x 9) (xi x 10) (xi x 11) (xi x 12) false) (Z5 (xi x 0) (xi x 2) (xi x 3) (xi x 4) (xi x 5) (xi x 6) (xi x 7) (xi x 8) (xi x 9) (xi x 10) (xi x 11) (xi x 12) false) (xi l 16)
section
variable (x l y:List GC) (a0 a1:Int) (tr:Bool) (C O:LL) (q0:Nat)
def JNV:Int:= bif (Yx l y x) == 2 then bif Zf x l y == 0 then bif JKQ x l y a0 a1 tr != 0 then JKQ x l y a0 a1 tr else 0 else bif Zf x l y != 0 then Zf x l y else 0 else bif JFU l y != 0 then JFU l y else bif Z4 x l == 0 then bif JF1 l y a0 a1 tr != 0 then JF1 l y a0 a1 tr else 0 else bif Z4 x l != 0 then Z4 x l else 0
def XR:Int:= bif (Yx l y x) == 2 then bif Zf x l y == 0 then bif QB (JCx l y x) (JCZ l y x) true (J2 l) (J2 y) a0 a1 tr != 0 then xi y q0 else xi x q0 else bif Zf x l y != 0 then xi y q0 else xi x q0 else bif Qr (J4 (xi l 8) (xi y 2) (xi y 3) (xi y 4)) (J5 (xi l 8) (xi y 2) (xi y 3) (xi y 4)) (J4 (xi l 8) (xi y 5) (xi y 6) (xi y 7)) (J5 (xi l 8) (xi y 5) (xi y 6) (xi y 7)) (XA l y) (XB l y) (Qn y) (IntKind.i64.wrap (xi l 16 * xi l 17)) != 0 then xi y q0 else bif Z4 x l == 0 then bif QB (JCt l y) (JDK l y) false (J2 l) (J2 y) a0 a1 tr != 0 then xi y q0 else xi x q0 else bif Z4 x l != 0 then xi y q0 else xi x q0
def JV4:Int:= XR x l y a0 a1 tr 0
def JVb:Int:= XR x l y a0 a1 tr 1
def JV1:Int:= XR x l y a0 a1 tr 2
def JVX:Int:= XR x l y a0 a1 tr 3
def JVZ:Int:= XR x l y a0 a1 tr 4
def JVE:Int:= XR x l y a0 a1 tr 5
def JUv:Int:= XR x l y a0 a1 tr 6
def JVN:Int:= XR x l y a0 a1 tr 7
def JVF:Int:= XR x l y a0 a1 tr 8
def JVS:Int:= XR x l y a0 a1 tr 9
def JVU:Int:= XR x l y a0 a1 tr 10
def JVc:Int:= XR x l y a0 a1 tr 11
def JUq:Int:= XR x l y a0 a1 tr 12
def JPZ:Bool:= bif (Yx l y x) == 2 then bif Zf x l y == 0 then bif QB (JCx l y x) (JCZ l y x) true (J2 l) (J2 y) a0 a1 tr != 0 then xb y q0 else xb x q0 else bif Zf x l y != 0 then xb y q0 else xb x q0 else bif Qr (J4 (xi l 8) (xi y 2) (xi y 3) (xi y 4)) (J5 (xi l 8) (xi y 2) (xi y 3) (xi y 4)) (J4 (xi l 8) (xi y 5) (xi y 6) (xi y 7)) (J5 (xi l 8) (xi y 5) (xi y 6) (xi y 7)) (XA l y) (XB l y) (Qn y) (IntKind.i64.wrap (xi l 16 * xi l 17)) != 0 then xb y q0 else bif Z4 x l == 0 then bif QB (JCt l y) (JDK l y) false (J2 l) (J2 y) a0 a1 tr != 0 then xb y q0 else xb x q0 else bif Z4 x l != 0 then xb y q0 else xb x q0
def JVJ:Bool:= JPZ x l y a0 a1 tr 13
def JVB:Int:= XR x l y a0 a1 tr 14
def JVW:Bool:= JPZ x l y a0 a1 tr 15
def JVP:Int:= XR x l y a0 a1 tr 16
def JV8:Int:= XR x l y a0 a1 tr 17
def JV6:Int:= XR x l y a0 a1 tr 18
def JVY:Int:= XR x l y a0 a1 tr 19
def JUr:Int:= XR x l y a0 a1 tr 20
def JVK:Bool:= JPZ x l y a0 a1 tr 21
def Xv:Int:= JMP (J4 (xi l 8) (xi y 2) (xi y 3) (xi y 4)) (J5 (xi l 8) (xi y 2) (xi y 3) (xi y 4)) (J4 (xi l 8) (xi y 5) (xi y 6) (xi y 7)) (J5 (xi l 8) (xi y 5) (xi y 6) (xi y 7)) (XA l y) (XB l y) (Qn y) (YR y) (J4 (xi l 8) (xi x 2) (xi x 3) (xi x 4)) (J5 (xi l 8) (xi x 2) (xi x 3) (xi x 4)) (J4 (xi l 8) (xi x 5) (xi x 6) (xi x 7)) (J5 (xi l 8) (xi x 5) (xi x 6) (xi x 7)) (Ke x l) (Kc x l) (Qn x) (YR x) (IntKind.i64.wrap (xi l 16 * xi l 17))
def Xr:Int:= JN2 (J4 (xi l 8) (xi y 2) (xi y 3) (xi y 4)) (J5 (xi l 8) (xi y 2) (xi y 3) (xi y 4)) (J4 (xi l 8) (xi y 5) (xi y 6) (xi y 7)) (J5 (xi l 8) (xi y 5) (xi y 6) (xi y 7)) (XA l y) (XB l y) (Qn y) (YR y) (J4 (xi l 8) (xi x 2) (xi x 3) (xi x 4)) (J5 (xi l 8) (xi x 2) (xi x 3) (xi x 4)) (J4 (xi l 8) (xi x 5) (xi x 6) (xi x 7)) (J5 (xi l 8) (xi x 5) (xi x 6) (xi x 7)) (Ke x l) (Kc x l) (Qn x) (YR x) (IntKind.i64.wrap (xi l 16 * xi l 17))
def Zn:Int:= Xj (J4 (xi l 8) (xi y 2) (xi y 3) (xi y 4)) (J5 (xi l 8) (xi y 2) (xi y 3) (xi y 4)) (J4 (xi l 8) (xi y 5) (xi y 6) (xi y 7)) (J5 (xi l 8) (xi y 5) (xi y 6) (xi y 7)) (XA l y) (XB l y) (Qn y) (IntKind.i64.wrap (xi l 16 * xi l 17))
def Zo:Int:= Xi (J4 (xi l 8) (xi y 2) (xi y 3) (xi y 4)) (J5 (xi l 8) (xi y 2) (xi y 3) (xi y 4)) (J4 (xi l 8) (xi y 5) (xi y 6) (xi y 7)) (J5 (xi l 8) (xi y 5) (xi y 6) (xi y 7)) (XA l y) (XB l y) (Qn y) (IntKind.i64.wrap (xi l 16 * xi l 17))
def JGa:Int:= XN (J4 (xi l 8) (xi x 2) (xi x 3) (xi x 4)) (J5 (xi l 8) (xi x 2) (xi x 3) (xi x 4)) (J4 (xi l 8) (xi x 5) (xi x 6) (xi x 7)) (J5 (xi l 8) (xi x 5) (xi x 6) (xi x 7)) (Ke x l) (Kc x l) (Qn x) (IntKind.i64.wrap (xi l 16 * xi l 17))
def JVA:Int:= bif (Yx l y x) == 2 then bif Zf x l y == 0 then bif QB (Xv x l y) (Xr x l y) true (J2 l) (J2 y) a0 a1 tr != 0 then KP (Xv x l y) (Xr x l y) true (J2 l) (J2 y) a0 a1 tr else KP (Xv x l y) (Xr x l y) true (J2 l) (J2 y) a0 a1 tr else bif Zf x l y != 0 then a0 else a0 else bif Qr (J4 (xi l 8) (xi y 2) (xi y 3) (xi y 4)) (J5 (xi l 8) (xi y 2) (xi y 3) (xi y 4)) (J4 (xi l 8) (xi y 5) (xi y 6) (xi y 7)) (J5 (xi l 8) (xi y 5) (xi y 6) (xi y 7)) (XA l y) (XB l y) (Qn y) (IntKind.i64.wrap (xi l 16 * xi l 17)) != 0 then a0 else bif Z4 x l == 0 then bif QB (Zn l y) (Zo l y) false (J2 l) (J2 y) a0 a1 tr != 0 then KP (Zn l y) (Zo l y) false (J2 l) (J2 y) a0 a1 tr else JGa x l else bif Z4 x l != 0 then a0 else JGa x l
def JG3:Int:= XO (J4 (xi l 8) (xi x 2) (xi x 3) (xi x 4)) (J5 (xi l 8) (xi x 2) (xi x 3) (xi x 4)) (J4 (xi l 8) (xi x 5) (xi x 6) (xi x 7)) (J5 (xi l 8) (xi x 5) (xi x 6) (xi x 7)) (Ke x l) (Kc x l) (Qn x) (IntKind.i64.wrap (xi l 16 * xi l 17))
def JVM:Int:= bif (Yx l y x) == 2 then bif Zf x l y == 0 then bif QB (Xv x l y) (Xr x l y) true (J2 l) (J2 y) a0 a1 tr != 0 then KO (Xv x l y) (Xr x l y) true (J2 l) (J2 y) a0 a1 tr else KO (Xv x l y) (Xr x l y) true (J2 l) (J2 y) a0 a1 tr else bif Zf x l y != 0 then a1 else a1 else bif Qr (J4 (xi l 8) (xi y 2) (xi y 3) (xi y 4)) (J5 (xi l 8) (xi y 2) (xi y 3) (xi y 4)) (J4 (xi l 8) (xi y 5) (xi y 6) (xi y 7)) (J5 (xi l 8) (xi y 5) (xi y 6) (xi y 7)) (XA l y) (XB l y) (Qn y) (IntKind.i64.wrap (xi l 16 * xi l 17)) != 0 then a1 else bif Z4 x l == 0 then bif QB (Zn l y) (Zo l y) false (J2 l) (J2 y) a0 a1 tr != 0 then KO (Zn l y) (Zo l y) false (J2 l) (J2 y) a0 a1 tr else JG3 x l else bif Z4 x l != 0 then a1 else JG3 x l
def JUu:Bool:= bif (Yx l y x) == 2 then bif Zf x l y == 0 then bif QB (JCx l y x) (JCZ l y x) true (J2 l) (J2 y) a0 a1 tr != 0 then tr else true else bif Zf x l y != 0 then tr else true else bif Qr (J4 (xi l 8) (xi y 2) (xi y 3) (xi y 4)) (J5 (xi l 8) (xi y 2) (xi y 3) (xi y 4)) (J4 (xi l 8) (xi y 5) (xi y 6) (xi y 7)) (J5 (xi l 8) (xi y 5) (xi y 6) (xi y 7)) (XA l y) (XB l y) (Qn y) (IntKind.i64.wrap (xi l 16 * xi l 17)) != 0 then tr else bif Z4 x l == 0 then QB (JCt l y) (JDK l y) false (J2 l) (J2 y) a0 a1 tr != 0 && tr else Z4 x l != 0 && tr
def JEv:LL:= Zq (Xv x l y) (Xr x l y) true (J2 l) (J2 y) a0 a1 tr O
def JE1:LL:= bif (Yx l y x) == 2 then bif Zf x l y == 0 then bif QB (Xv x l y) (Xr x l y) true (J2 l) (J2 y) a0 a1 tr != 0 then JEv x l y a0 a1 tr O else Qb (J2 l) (KP (Xv x l y) (Xr x l y) true (J2 l) (J2 y) a0 a1 tr) (KO (Xv x l y) (Xr x l y) true (J2 l) (J2 y) a0 a1 tr) C (JEv x l y a0 a1 tr O) else bif Zf x l y != 0 then O else Qb (J2 l) a0 a1 C O else bif Qr (J4 (xi l 8) (xi y 2) (xi y 3) (xi y 4)) (J5 (xi l 8) (xi y 2) (xi y 3) (xi y 4)) (J4 (xi l 8) (xi y 5) (xi y 6) (xi y 7)) (J5 (xi l 8) (xi y 5) (xi y 6) (xi y 7)) (XA l y) (XB l y) (Qn y) (IntKind.i64.wrap (xi l 16 * xi l 17)) != 0 then O else bif Z4 x l == 0 then bif QB (Zn l y) (Zo l y) false (J2 l) (J2 y) a0 a1 tr != 0 then Zq (Zn l y) (Zo l y) false (J2 l) (J2 y) a0 a1 tr O else jA (J2 x) (XN (J4 (xi l 8) (xi x 2) (xi x 3) (xi x 4)) (J5 (xi l 8) (xi x 2) (xi x 3) (xi x 4)) (J4 (xi l 8) (xi x 5) (xi x 6) (xi x 7)) (J5 (xi l 8) (xi x 5) (xi x 6) (xi x 7)) (Ke x l) (Kc x l) (Qn x) (IntKind.i64.wrap (xi l 16 * xi l 17))) (XO (J4 (xi l 8) (xi x 2) (xi x 3) (xi x 4)) (J5 (xi l 8) (xi x 2) (xi x 3) (xi x 4)) (J4 (xi l 8) (xi x 5) (xi x 6) (xi x 7)) (J5 (xi l 8) (xi x 5) (xi x 6) (xi x 7)) (Ke x l) (Kc x l) (Qn x) (IntKind.i64.wrap (xi l 16 * xi l 17))) ((Yx l y x) == 1) (J2 l) (KP (Zn l y) (Zo l y) false (J2 l) (J2 y) a0 a1 tr) (KO (Zn l y) (Zo l y) false (J2 l) (J2 y) a0 a1 tr) (Qb (J2 l) (KP (Zn l y) (Zo l y) false (J2 l) (J2 y) a0 a1 tr) (KO (Zn l y) (Zo l y) false (J2 l) (J2 y) a0 a1 tr) C (Zq (Zn l y) (Zo l y) false (J2 l) (J2 y) a0 a1 tr O)) else bif Z4 x l != 0 then O else jA (J2 x) (XN (J4 (xi l 8) (xi x 2) (xi x 3) (xi x 4)) (J5 (xi l 8) (xi x 2) (xi x 3) (xi x 4)) (J4 (xi l 8) (xi x 5) (xi x 6) (xi x 7)) (J5 (xi l 8) (xi x 5) (xi x 6) (xi x 7)) (Ke x l) (Kc x l) (Qn x) (IntKind.i64.wrap (xi l 16 * xi l 17))) (XO (J4 (xi l 8) (xi x 2) (xi x 3) (xi x 4)) (J5 (xi l 8) (xi x 2) (xi x 3) (xi x 4)) (J4 (xi l 8) (xi x 5) (xi x 6) (xi x 7)) (J5 (xi l 8) (xi x 5) (xi x 6) (xi x 7)) (Ke x l) (Kc x l) (Qn x) (IntKind.i64.wrap (xi l 16 * xi l 17))) ((Yx l y x) == 1) (J2 l) a0 a1 (Qb (J2 l) a0 a1 C O)
def JKy:LL:= bif (Yx l y x) == 2 then bif Zf x l y == 0 then bif QB (JCx l y x) (JCZ l y x) true (J2 l) (J2 y) a0 a1 tr != 0 then C else [] else bif Zf x l y != 0 then C else [] else bif Qr (J4 (xi l 8) (xi y 2) (xi y 3) (xi y 4)) (J5 (xi l 8) (xi y 2) (xi y 3) (xi y 4)) (J4 (xi l 8) (xi y 5) (xi y 6) (xi y 7)) (J5 (xi l 8) (xi y 5) (xi y 6) (xi y 7)) (XA l y) (XB l y) (Qn y) (IntKind.i64.wrap (xi l 16 * xi l 17)) != 0 then C else bif Z4 x l == 0 then bif QB (JCt l y) (JDK l y) false (J2 l) (J2 y) a0 a1 tr != 0 then C else [] else bif Z4 x l != 0 then C else []
def JH4:List Prop:= [((Yx l y x) == 2) = true → ((Zf x l y == 0) = true → O.length ≤ 1000000) ∧ ((Zf x l y == 0) = true → (QB (Xv x l y) (Xr x l y) true (J2 l) (J2 y) a0 a1 tr != 0) = false → C.length ≤ 1000 ∧ (Zq (Xv x l y) (Xr x l y) true (J2 l) (J2 y) a0 a1 tr O).length ≤ 900000) ∧ ((Zf x l y == 0) = false → (Zf x l y != 0) = false → C.length ≤ 1000 ∧ O.length ≤ 900000),((Yx l y x) == 2) = false → (Qr (J4 (xi l 8) (xi y 2) (xi y 3) (xi y 4)) (J5 (xi l 8) (xi y 2) (xi y 3) (xi y 4)) (J4 (xi l 8) (xi y 5) (xi y 6) (xi y 7)) (J5 (xi l 8) (xi y 5) (xi y 6) (xi y 7)) (XA l y) (XB l y) (Qn y) (IntKind.i64.wrap (xi l 16 * xi l 17)) != 0) = false → ((Z4 x l == 0) = true → O.length ≤ 1000000) ∧ ((Z4 x l == 0) = true → (QB (Zn l y) (Zo l y) false (J2 l) (J2 y) a0 a1 tr != 0) = false → C.length ≤ 1000 ∧ (Zq (Zn l y) (Zo l y) false (J2 l) (J2 y) a0 a1 tr O).length ≤ 900000 ∧ (Qb (J2 l) (KP (Zn l y) (Zo l y) false (J2 l) (J2 y) a0 a1 tr) (KO (Zn l y) (Zo l y) false (J2 l) (J2 y) a0 a1 tr) C (Zq (Zn l y) (Zo l y) false (J2 l) (J2 y) a0 a1 tr O)).length ≤ 1000000) ∧ ((Z4 x l == 0) = false → (Z4 x l != 0) = false → C.length ≤ 1000 ∧ O.length ≤ 900000 ∧ (Qb (J2 l) a0 a1 C O).length ≤ 1000000)]
end
theorem JqO {x:List GC} {l:List GC} {y:List GC} {a0:Int} {a1:Int} {tr:Bool} {C:LL} {O:LL} (hW:∀ q ∈ ([C.length ≤ 1000,O.length ≤ 800000]:List Prop),q):∀ q ∈ (JH4 x l y a0 a1 tr C O),q := by
  simp only [awc,awn,and_true] at hW
  unfold JH4
  simp only [awc,awn,and_true]
  obtain ⟨h1,h2⟩ := hW
  have s := fun u w tm => (Ym u w tm (J2 l) (J2 y) a0 a1 tr O).2
  have r := fun a0 a1 O => qI (J2 l) a0 a1 C O
  refine ⟨fun _ => ⟨fun _ => by omega,fun _ _ => ⟨h1,Nat.le_trans (s ..) (by omega)⟩,fun _ _ => ⟨h1,by omega⟩⟩,fun _ _ => ⟨fun _ => by omega,fun _ _ => ⟨h1,Nat.le_trans (s ..) (by omega),Nat.le_trans (r ..) (Nat.le_trans (Nat.add_le_add_right (s ..) _) (by omega))⟩,fun _ _ => ⟨h1,by omega,Nat.le_trans (r ..) (by omega)⟩⟩⟩
def JwI (l x y:List GC) (a0 a1:Int) (tr op cl en mo:Bool) (la0 la1 la2 er:Int) (C O:LL) := [(0,Obj.blk 66 [(3,Ci (xi l 0)),(4,Ci (xi l 1)),(5,Ci (xi l 2)),(6,Ci (xi l 3)),(7,Ci (xi l 4)),(8,Ci (xi l 5)),(9,Ci (xi l 6)),(10,Ci (xi l 7)),(11,Ci (xi l 8)),(12,Ci (xi l 9)),(13,Ci (xi l 10)),(14,Ci (xi l 11)),(15,Ci (xi l 12)),(16,Cb (xb l 13)),(17,Ci (xi l 14)),(18,Cb (xb l 15)),(19,Ci (xi l 16)),(20,Ci (xi l 17)),(21,Ci (xi l 18)),(22,Ci (xi l 19)),(23,Ci (xi l 20)),(24,Cb (xb l 21)),(66287,Ci (JV4 x l y a0 a1 tr)),(66288,Ci (JVb x l y a0 a1 tr)),(66289,Ci (JV1 x l y a0 a1 tr)),(66290,Ci (JVX x l y a0 a1 tr)),(66291,Ci (JVZ x l y a0 a1 tr)),(66292,Ci (JVE x l y a0 a1 tr)),(66293,Ci (JUv x l y a0 a1 tr)),(66294,Ci (JVN x l y a0 a1 tr)),(66295,Ci (JVF x l y a0 a1 tr)),(66296,Ci (JVS x l y a0 a1 tr)),(66297,Ci (JVU x l y a0 a1 tr)),(66298,Ci (JVc x l y a0 a1 tr)),(66299,Ci (JUq x l y a0 a1 tr)),(66300,Cb (JVJ x l y a0 a1 tr)),(66301,Ci (JVB x l y a0 a1 tr)),(66302,Cb (JVW x l y a0 a1 tr)),(66303,Ci (JVP x l y a0 a1 tr)),(66304,Ci (JV8 x l y a0 a1 tr)),(66305,Ci (JV6 x l y a0 a1 tr)),(66306,Ci (JVY x l y a0 a1 tr)),(66307,Ci (JUr x l y a0 a1 tr)),(66308,Cb (JVK x l y a0 a1 tr)),(66309,Ci (JVA x l y a0 a1 tr)),(66310,Ci (JVM x l y a0 a1 tr)),(66311,Cb (JUu x l y a0 a1 tr)),(66281,SC.wh 66279),(51,Cb op),(52,Cb cl),(53,Cb en),(54,Cb mo),(55,Ci la0),(56,Ci la1),(57,Ci la2),(66284,SC.wh 66282),(59,Ci er)]),(66282,Obj.row false 40 22 (RowC.lst 66286 JUB (JE1 x l y a0 a1 tr C O))),(66279,Obj.row false 40 22 (RowC.lst 66285 JUB (JKy x l y a0 a1 tr C)))]
theorem Jpm (x l y:List GC) (a0 a1:Int) (tr op cl en mo:Bool) (la0 la1 la2 er:Int) (C O:LL) (hNeeds:∀ pN ∈ (JH4 x l y a0 a1 tr C O),pN):Runs (Jm (JC Jfw) Zh 75) (JJA.args (Je JVH [.v x,.v l,.v y,.i a0,.i a1,.b tr,.b op,.b cl,.b en,.b mo,.i la0,.i la1,.i la2,.i er])) (JJA.memo (Je JVH [.v x,.v l,.v y,.i a0,.i a1,.b tr,.b op,.b cl,.b en,.b mo,.i la0,.i la1,.i la2,.i er]) [C,O]) JJA.n (SV.one (Ci (JNV x l y a0 a1 tr))) ((JwI l x y a0 a1 tr op cl en mo la0 la1 la2 er C O)) :=
  Runs.of1 (ps := (JH4 x l y a0 a1 tr C O)) (by kernel_rfl) hNeeds
def JY4:List Gm → Qs → Option CRes
  | [.v x,.v l,.v y,.i a0,.i a1,.b tr,.b op,.b cl,.b en,.b mo,.i la0,.i la1,.i la2,.i er],[C,O] => some ⟨SV.one (Ci (JNV x l y a0 a1 tr)),
 (JwI l x y a0 a1 tr op cl en mo la0 la1 la2 er C O),[C.length ≤ 1000,O.length ≤ 800000],[],66312⟩
  | _,_ => none
theorem JvH:Ql Tryz.prog 75 (Z7 JVH JJA JY4) := by
  refine Qg (JE JUD 75) fun ps ls r hr hn _ => ?_
  unfold JY4 at hr
  split at hr
  · cases hr; exact ⟨_,Jpm _ _ _ _ _ _ _ _ _ _ _ _ _ _ _ _ (JqO (by exact hn)),fun _ => rfl⟩
  · cases hr
def Jm8:List (Nat × JY) := (75,Z7 JVH JJA JY4) :: Jfw
theorem JXu:Known Tryz.prog (JC Jm8) Zh := J7 JUD JvH
def JCb:Tpl := ⟨[.one (.ptr 0 0),.agg pI],Y5,62⟩
def JKo:List GK := [.v Q5,.v Q5,.v Q5,.i,.i,.b,.b,.b,.b,.b,.i,.i,.i,.i]
section
variable (l y:List GC)
def jg:Int:= bif xi y 0 == 3 then J4 (xi l 8) (xi y 9) (xi y 10) (xi y 11) else 0
def jp:Int:= bif xi y 0 == 3 then J5 (xi l 8) (xi y 9) (xi y 10) (xi y 11) else 0
def jl:Int:= bif xi y 0 == 3 then xi y 12 else 0
def QS:Int:= Qr (J4 (xi l 8) (xi y 2) (xi y 3) (xi y 4)) (J5 (xi l 8) (xi y 2) (xi y 3) (xi y 4)) (J4 (xi l 8) (xi y 5) (xi y 6) (xi y 7)) (J5 (xi l 8) (xi y 5) (xi y 6) (xi y 7)) (jg l y) (jp l y) (jl y) (IntKind.i64.wrap (xi l 16 * xi l 17))
end
def jM (l y:List GC) := Xj (J4 (xi l 8) (xi y 2) (xi y 3) (xi y 4)) (J5 (xi l 8) (xi y 2) (xi y 3) (xi y 4)) (J4 (xi l 8) (xi y 5) (xi y 6) (xi y 7)) (J5 (xi l 8) (xi y 5) (xi y 6) (xi y 7)) (jg l y) (jp l y) (jl y) (IntKind.i64.wrap (xi l 16 * xi l 17))
def jL (l y:List GC) := Xi (J4 (xi l 8) (xi y 2) (xi y 3) (xi y 4)) (J5 (xi l 8) (xi y 2) (xi y 3) (xi y 4)) (J4 (xi l 8) (xi y 5) (xi y 6) (xi y 7)) (J5 (xi l 8) (xi y 5) (xi y 6) (xi y 7)) (jg l y) (jp l y) (jl y) (IntKind.i64.wrap (xi l 16 * xi l 17))
section
variable (x l y:List GC) (a0 a1:Int) (tr:Bool) (C O:LL) (op:Bool) (q0:Nat)
def JLE:Int:= QB (jM l y) (jL l y) false (J2 l) (J2 y) a0 a1 tr
def JJv:Int:= bif !Ja (J2 x) (xi l 8) (xi l 17) || xi y 0 == 0 then 14 else bif QS l y == 0 then bif JLE l y a0 a1 tr != 0 then JLE l y a0 a1 tr else 0 else bif QS l y != 0 then QS l y else 0
def ZB:Int:= bif !Ja (J2 x) (xi l 8) (xi l 17) || xi y 0 == 0 then xi l q0 else bif QS l y == 0 then bif QB (jM l y) (jL l y) false (J2 l) (J2 y) a0 a1 tr != 0 then xi l q0 else 0 else bif QS l y != 0 then xi l q0 else 0
def Jao:Int:= ZB x l y a0 a1 tr 0
def JYr:Int:= ZB x l y a0 a1 tr 1
def Ja3:Int:= ZB x l y a0 a1 tr 2
def JWh:Int:= ZB x l y a0 a1 tr 3
def JZ0:Int:= ZB x l y a0 a1 tr 4
def JYH:Int:= ZB x l y a0 a1 tr 5
def JYP:Int:= ZB x l y a0 a1 tr 6
def JYN:Int:= ZB x l y a0 a1 tr 7
def Jb1:Int:= ZB x l y a0 a1 tr 8
def JQT:Int:= ZB x l y a0 a1 tr 9
def JRH:Int:= ZB x l y a0 a1 tr 10
def JRx:Int:= ZB x l y a0 a1 tr 11
def JSH:Int:= ZB x l y a0 a1 tr 12
def JKV:Bool:= bif !Ja (J2 x) (xi l 8) (xi l 17) || xi y 0 == 0 then xb l q0 else bif QS l y == 0 then QB (jM l y) (jL l y) false (J2 l) (J2 y) a0 a1 tr != 0 && xb l q0 else QS l y != 0 && xb l q0
def JPt:Bool:= JKV x l y a0 a1 tr 13
def JPx:Int:= ZB x l y a0 a1 tr 14
def JRu:Bool:= JKV x l y a0 a1 tr 15
def JS6:Int:= ZB x l y a0 a1 tr 16
def JS2:Int:= ZB x l y a0 a1 tr 17
def JQJ:Int:= ZB x l y a0 a1 tr 18
def JSY:Int:= ZB x l y a0 a1 tr 19
def JQa:Int:= ZB x l y a0 a1 tr 20
def JRT:Bool:= JKV x l y a0 a1 tr 21
def ZD:Int:= bif !Ja (J2 x) (xi l 8) (xi l 17) || xi y 0 == 0 then xi y q0 else bif QS l y == 0 then bif QB (jM l y) (jL l y) false (J2 l) (J2 y) a0 a1 tr != 0 then xi y q0 else 0 else bif QS l y != 0 then xi y q0 else 0
def JR8:Int:= ZD x l y a0 a1 tr 0
def JSm:Int:= ZD x l y a0 a1 tr 1
def JRh:Int:= ZD x l y a0 a1 tr 2
def JPh:Int:= ZD x l y a0 a1 tr 3
def JR5:Int:= ZD x l y a0 a1 tr 4
def JQV:Int:= ZD x l y a0 a1 tr 5
def JSU:Int:= ZD x l y a0 a1 tr 6
def JRL:Int:= ZD x l y a0 a1 tr 7
def JSl:Int:= ZD x l y a0 a1 tr 8
def JRF:Int:= ZD x l y a0 a1 tr 9
def JSh:Int:= ZD x l y a0 a1 tr 10
def JQI:Int:= ZD x l y a0 a1 tr 11
def JPj:Int:= ZD x l y a0 a1 tr 12
def JKa:Bool:= bif !Ja (J2 x) (xi l 8) (xi l 17) || xi y 0 == 0 then xb y q0 else bif QS l y == 0 then QB (jM l y) (jL l y) false (J2 l) (J2 y) a0 a1 tr != 0 && xb y q0 else QS l y != 0 && xb y q0
def JQ8:Bool:= JKa x l y a0 a1 tr 13
def JRB:Int:= ZD x l y a0 a1 tr 14
def JSW:Bool:= JKa x l y a0 a1 tr 15
def JSZ:Int:= ZD x l y a0 a1 tr 16
def JR6:Int:= ZD x l y a0 a1 tr 17
def JQ1:Int:= ZD x l y a0 a1 tr 18
def JPs:Int:= ZD x l y a0 a1 tr 19
def JQ4:Int:= ZD x l y a0 a1 tr 20
def JQw:Bool:= JKa x l y a0 a1 tr 21
def ZV:Int:= Xj (J4 (xi l 8) (xi y 2) (xi y 3) (xi y 4)) (J5 (xi l 8) (xi y 2) (xi y 3) (xi y 4)) (J4 (xi l 8) (xi y 5) (xi y 6) (xi y 7)) (J5 (xi l 8) (xi y 5) (xi y 6) (xi y 7)) (jg l y) (jp l y) (jl y) (IntKind.i64.wrap (xi l 16 * xi l 17))
def ZW:Int:= Xi (J4 (xi l 8) (xi y 2) (xi y 3) (xi y 4)) (J5 (xi l 8) (xi y 2) (xi y 3) (xi y 4)) (J4 (xi l 8) (xi y 5) (xi y 6) (xi y 7)) (J5 (xi l 8) (xi y 5) (xi y 6) (xi y 7)) (jg l y) (jp l y) (jl y) (IntKind.i64.wrap (xi l 16 * xi l 17))
def JPp:Int:= bif !Ja (J2 x) (xi l 8) (xi l 17) || xi y 0 == 0 then a0 else bif QS l y == 0 then bif QB (ZV l y) (ZW l y) false (J2 l) (J2 y) a0 a1 tr != 0 then KP (ZV l y) (ZW l y) false (J2 l) (J2 y) a0 a1 tr else 0 else bif QS l y != 0 then a0 else 0
def JQ5:Int:= bif !Ja (J2 x) (xi l 8) (xi l 17) || xi y 0 == 0 then a1 else bif QS l y == 0 then bif QB (ZV l y) (ZW l y) false (J2 l) (J2 y) a0 a1 tr != 0 then KO (ZV l y) (ZW l y) false (J2 l) (J2 y) a0 a1 tr else 0 else bif QS l y != 0 then a1 else 0
def JRo:Bool:= bif !Ja (J2 x) (xi l 8) (xi l 17) || xi y 0 == 0 then tr else bif QS l y == 0 then QB (jM l y) (jL l y) false (J2 l) (J2 y) a0 a1 tr != 0 && tr else QS l y != 0 && tr
def JR0:Bool:= bif !Ja (J2 x) (xi l 8) (xi l 17) || xi y 0 == 0 then op else bif QS l y == 0 then QB (jM l y) (jL l y) false (J2 l) (J2 y) a0 a1 tr != 0 && op else QS l y != 0 && op
def JCK:LL:= bif !Ja (J2 x) (xi l 8) (xi l 17) || xi y 0 == 0 then O else bif QS l y == 0 then bif QB (ZV l y) (ZW l y) false (J2 l) (J2 y) a0 a1 tr != 0 then Zq (ZV l y) (ZW l y) false (J2 l) (J2 y) a0 a1 tr O else Zs (J2 x) (J4 (xi l 8) (xi x 5) (xi x 6) (xi x 7)) (J5 (xi l 8) (xi x 5) (xi x 6) (xi x 7)) (J9 (xi l 8) (xi x 5) (xi x 6) (xi x 7)) (J9 (xi l 8) (xi x 5) (xi x 6) (xi x 7)) true (J2 l) (KP (ZV l y) (ZW l y) false (J2 l) (J2 y) a0 a1 tr) (KO (ZV l y) (ZW l y) false (J2 l) (J2 y) a0 a1 tr) (Qb (J2 l) (KP (ZV l y) (ZW l y) false (J2 l) (J2 y) a0 a1 tr) (KO (ZV l y) (ZW l y) false (J2 l) (J2 y) a0 a1 tr) C (Zq (ZV l y) (ZW l y) false (J2 l) (J2 y) a0 a1 tr O)) else bif QS l y != 0 then O else Zs (J2 x) (J4 (xi l 8) (xi x 5) (xi x 6) (xi x 7)) (J5 (xi l 8) (xi x 5) (xi x 6) (xi x 7)) (J9 (xi l 8) (xi x 5) (xi x 6) (xi x 7)) (J9 (xi l 8) (xi x 5) (xi x 6) (xi x 7)) true (J2 l) a0 a1 (Qb (J2 l) a0 a1 C O)
def JGK:LL:= bif !Ja (J2 x) (xi l 8) (xi l 17) || xi y 0 == 0 then C else bif QS l y == 0 then bif QB (jM l y) (jL l y) false (J2 l) (J2 y) a0 a1 tr != 0 then C else [] else bif QS l y != 0 then C else []
def JBB:List Prop:= [(!Ja (J2 x) (xi l 8) (xi l 17) || xi y 0 == 0) = false → ((QS l y == 0) = true → O.length ≤ 1000000) ∧ ((QS l y == 0) = true → (QB (ZV l y) (ZW l y) false (J2 l) (J2 y) a0 a1 tr != 0) = false → C.length ≤ 1000 ∧ (Zq (ZV l y) (ZW l y) false (J2 l) (J2 y) a0 a1 tr O).length ≤ 900000 ∧ (Qb (J2 l) (KP (ZV l y) (ZW l y) false (J2 l) (J2 y) a0 a1 tr) (KO (ZV l y) (ZW l y) false (J2 l) (J2 y) a0 a1 tr) C (Zq (ZV l y) (ZW l y) false (J2 l) (J2 y) a0 a1 tr O)).length ≤ 1000000) ∧ ((QS l y == 0) = false → (QS l y != 0) = false → C.length ≤ 1000 ∧ O.length ≤ 900000 ∧ (Qb (J2 l) a0 a1 C O).length ≤ 1000000)]
end
theorem Jh7 {x:List GC} {l:List GC} {y:List GC} {a0:Int} {a1:Int} {tr:Bool} {C:LL} {O:LL} (hW:∀ q ∈ ([C.length ≤ 1000,O.length ≤ 800000]:List Prop),q):∀ q ∈ (JBB x l y a0 a1 tr C O),q := by
  simp only [awc,awn,and_true] at hW
  unfold JBB
  simp only [awc,awn,and_true]
  obtain ⟨h1,h2⟩ := hW
  have s := fun u w tm => (Ym u w tm (J2 l) (J2 y) a0 a1 tr O).2
  have r := fun a0 a1 O => qI (J2 l) a0 a1 C O
  exact fun _ => ⟨fun _ => by omega,fun _ _ => ⟨h1,Nat.le_trans (s ..) (by omega),Nat.le_trans (r ..) (Nat.le_trans (Nat.add_le_add_right (s ..) _) (by omega))⟩,fun _ _ => ⟨h1,by omega,Nat.le_trans (r ..) (by omega)⟩⟩
def JwM (x l y:List GC) (a0 a1:Int) (tr op cl en mo:Bool) (la0 la1 la2 er:Int) (C O:LL) := [(0,Obj.blk 66 [(19948,Ci (Jao x l y a0 a1 tr)),(19949,Ci (JYr x l y a0 a1 tr)),(19950,Ci (Ja3 x l y a0 a1 tr)),(19951,Ci (JWh x l y a0 a1 tr)),(19952,Ci (JZ0 x l y a0 a1 tr)),(19953,Ci (JYH x l y a0 a1 tr)),(19954,Ci (JYP x l y a0 a1 tr)),(19955,Ci (JYN x l y a0 a1 tr)),(19956,Ci (Jb1 x l y a0 a1 tr)),(19957,Ci (JQT x l y a0 a1 tr)),(19958,Ci (JRH x l y a0 a1 tr)),(19959,Ci (JRx x l y a0 a1 tr)),(19960,Ci (JSH x l y a0 a1 tr)),(19961,Cb (JPt x l y a0 a1 tr)),(19962,Ci (JPx x l y a0 a1 tr)),(19963,Cb (JRu x l y a0 a1 tr)),(19964,Ci (JS6 x l y a0 a1 tr)),(19965,Ci (JS2 x l y a0 a1 tr)),(19966,Ci (JQJ x l y a0 a1 tr)),(19967,Ci (JSY x l y a0 a1 tr)),(19968,Ci (JQa x l y a0 a1 tr)),(19969,Cb (JRT x l y a0 a1 tr)),(19970,Ci (JR8 x l y a0 a1 tr)),(19971,Ci (JSm x l y a0 a1 tr)),(19972,Ci (JRh x l y a0 a1 tr)),(19973,Ci (JPh x l y a0 a1 tr)),(19974,Ci (JR5 x l y a0 a1 tr)),(19975,Ci (JQV x l y a0 a1 tr)),(19976,Ci (JSU x l y a0 a1 tr)),(19977,Ci (JRL x l y a0 a1 tr)),(19978,Ci (JSl x l y a0 a1 tr)),(19979,Ci (JRF x l y a0 a1 tr)),(19980,Ci (JSh x l y a0 a1 tr)),(19981,Ci (JQI x l y a0 a1 tr)),(19982,Ci (JPj x l y a0 a1 tr)),(19983,Cb (JQ8 x l y a0 a1 tr)),(19984,Ci (JRB x l y a0 a1 tr)),(19985,Cb (JSW x l y a0 a1 tr)),(19986,Ci (JSZ x l y a0 a1 tr)),(19987,Ci (JR6 x l y a0 a1 tr)),(19988,Ci (JQ1 x l y a0 a1 tr)),(19989,Ci (JPs x l y a0 a1 tr)),(19990,Ci (JQ4 x l y a0 a1 tr)),(19991,Cb (JQw x l y a0 a1 tr)),(19992,Ci (JPp x l y a0 a1 tr)),(19993,Ci (JQ5 x l y a0 a1 tr)),(19994,Cb (JRo x l y a0 a1 tr)),(19942,SC.wh 19940),(19995,Cb (JR0 x l y a0 a1 tr op)),(52,Cb cl),(53,Cb en),(54,Cb mo),(55,Ci la0),(56,Ci la1),(57,Ci la2),(19945,SC.wh 19943),(59,Ci er)]),(19943,Obj.row false 40 22 (RowC.lst 19947 JUB (JCK x l y a0 a1 tr C O))),(19940,Obj.row false 40 22 (RowC.lst 19946 JUB (JGK x l y a0 a1 tr C)))]
theorem Jhh (x l y:List GC) (a0 a1:Int) (tr op cl en mo:Bool) (la0 la1 la2 er:Int) (C O:LL) (hNeeds:∀ pN ∈ (JBB x l y a0 a1 tr C O),pN):Runs (Jm (JC Jm8) Zh 49) (JCb.args (Je JKo [.v x,.v l,.v y,.i a0,.i a1,.b tr,.b op,.b cl,.b en,.b mo,.i la0,.i la1,.i la2,.i er])) (JCb.memo (Je JKo [.v x,.v l,.v y,.i a0,.i a1,.b tr,.b op,.b cl,.b en,.b mo,.i la0,.i la1,.i la2,.i er]) [C,O]) JCb.n (SV.one (Ci (JJv x l y a0 a1 tr))) ((JwM x l y a0 a1 tr op cl en mo la0 la1 la2 er C O)) :=
  Runs.of1 (ps := (JBB x l y a0 a1 tr C O)) (by kernel_rfl) hNeeds
def JN6:List Gm → Qs → Option CRes
  | [.v x,.v l,.v y,.i a0,.i a1,.b tr,.b op,.b cl,.b en,.b mo,.i la0,.i la1,.i la2,.i er],[C,O] => some ⟨SV.one (Ci (JJv x l y a0 a1 tr)),
 (JwM x l y a0 a1 tr op cl en mo la0 la1 la2 er C O),[C.length ≤ 1000,O.length ≤ 800000],[],19996⟩
  | _,_ => none
theorem JqV:Ql Tryz.prog 49 (Z7 JKo JCb JN6) := by
  refine Qg (JE JXu 49) fun ps ls r hr hn _ => ?_
  unfold JN6 at hr
  split at hr
  · cases hr; exact ⟨_,Jhh _ _ _ _ _ _ _ _ _ _ _ _ _ _ _ _ (Jh7 (by exact hn)),fun _ => rfl⟩
  · cases hr
def JaL:List (Nat × JY) := (49,Z7 JKo JCb JN6) :: Jm8
theorem JP4:Known Tryz.prog (JC JaL) Zh := J7 JXu JqV
theorem chS {l y:List GC} {a0 a1 u w:Int} {tm tr:Bool} {C O:LL}:(Zq u w tm l y a0 a1 tr O).length ≤ O.length + C.length + 3 := by have := (Ym u w tm l y a0 a1 tr O).2; omega
theorem chO {C O:LL}:O.length ≤ O.length + C.length + 3 := by omega
theorem chR {l:List GC} {a0 a1:Int} {C O A:LL} (h:A.length ≤ O.length + 1):(Qb l a0 a1 C A).length ≤ O.length + C.length + 3 := by have := qI l a0 a1 C A; omega
theorem chJ {it l l':List GC} {u w a0 a1 b0 b1:Int} {ou:Bool} {C O A:LL} (h:A.length ≤ O.length + 1):(jA it u w ou l' b0 b1 (Qb l a0 a1 C A)).length ≤ O.length + C.length + 3 := by
  have := qI l a0 a1 C A
  have := (Jh6 it u w ou l' b0 b1 (Qb l a0 a1 C A)).2
  omega
theorem chL {it l l':List GC} {u w lo hi a0 a1 b0 b1:Int} {al:Bool} {C O A:LL} (h:A.length ≤ O.length + 1):(Zs it u w lo hi al l' b0 b1 (Qb l a0 a1 C A)).length ≤ O.length + C.length + 3 := by
  have := qI l a0 a1 C A
  have := (We it u w lo hi al l' b0 b1 (Qb l a0 a1 C A)).2
  omega
theorem Jdt (x l:List GC) (C O:LL):(JFn x l C O).length ≤ O.length + C.length + 3 := by
  unfold JFn
  repeat' first | exact chO | exact chR (We ..).2 | refine jE ?_ ?_
theorem JiI (x l y:List GC) (a0 a1:Int) (tr:Bool) (C O:LL):(JE1 x l y a0 a1 tr C O).length ≤ O.length + C.length + 3 := by
  unfold JE1
  repeat' first | exact chO | exact chS | exact chR (Nat.le_succ _) | exact chR (Ym ..).2 | exact chJ (Nat.le_succ _) | exact chJ (Ym ..).2 | refine jE ?_ ?_
theorem JbY (x l y:List GC) (a0 a1:Int) (tr:Bool) (C O:LL):(JCK x l y a0 a1 tr C O).length ≤ O.length + C.length + 3 := by
  unfold JCK
  repeat' first | exact chO | exact chS | exact chL (Nat.le_succ _) | exact chL (Ym ..).2 | refine jE ?_ ?_
end
end Go.Proofs.YtmbfbhimdkjkoaaGreat
