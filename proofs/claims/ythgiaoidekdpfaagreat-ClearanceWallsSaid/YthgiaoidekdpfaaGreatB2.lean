/-
  BITS: division of a number of two halves. Conditions: the divisor is greater than the upper half.
-/
import Derived.Test.YthgiaoidekdpfaaGreatB1
set_option linter.all false
namespace Go.Proofs.YthgiaoidekdpfaaGreat
open Go.SX Go.RowKit
noncomputable def d1F (Yn u32 y1 y0 u u0 s : Int) : Fam (Int × Int) Unit where
  k := 20
  E p := [(16, ent 1000000000 (.one (U p.2))), (15, ent 1000000001 (.one (U p.1))), (14, ent 90 (.one (U u0))), (13, ent 87 (.one (U u))), (11, ent 80 (.one (U u32))), (10, ent 71 (.one (U y0))), (9, ent 68 (.one (U y1))), (2, ent 65 (.one (U Yn))), (8, ent 61 (.one (U s)))]
  M _ := []
  out _ := .leaf (.exit 0) [(15, ent 102 (.one (U ((u32 * 4294967296 + u) / (y1 * 4294967296 + y0))))), (14, ent 90 (.one (U u0))), (13, ent 87 (.one (U u))), (11, ent 80 (.one (U u32))), (10, ent 71 (.one (U y0))), (9, ent 68 (.one (U y1))), (2, ent 65 (.one (U Yn))), (8, ent 61 (.one (U s)))] []
  fin _ := ()
  next p _ := (p.1 - 1, p.2 + y1)
  J p := AdjOk y1 y0 u32 u p.1 p.2
  μ p := (4294967296 - p.2).toNat
noncomputable def d1_s0 (u : Int) (p : Int × Int) : Int :=
  IntKind.u64.wrap (IntKind.u64.wrap (4294967296 * p.snd) + u)
noncomputable def d1_s1 (p : Int × Int) : Int :=
  IntKind.u64.wrap (p.fst - 1)
noncomputable def d1_s2 (Yn : Int) (u32 : Int) (y1 : Int) (y0 : Int) (u : Int) (u0 : Int) (s : Int) (p : Int × Int) : Int :=
  ((d1F Yn u32 y1 y0 u u0 s).next p 1).fst
noncomputable def d1_s3 (Yn : Int) (u32 : Int) (y1 : Int) (y0 : Int) (u : Int) (u0 : Int) (s : Int) (p : Int × Int) : Int :=
  ((d1F Yn u32 y1 y0 u u0 s).next p 1).snd
noncomputable def d1_needs (Yn : Int) (u32 : Int) (y1 : Int) (y0 : Int) (u : Int) (u0 : Int) (s : Int) (p : Int × Int) : List Prop :=
  [(decide (p.fst ≥ 4294967296) || decide (IntKind.u64.wrap (p.fst * y0) > d1_s0 u p)) = true →
     (decide (IntKind.u64.wrap (p.snd + y1) ≥ 4294967296) = true → (u32 * 4294967296 + u) / (y1 * 4294967296 + y0) = d1_s1 p) ∧
     (decide (IntKind.u64.wrap (p.snd + y1) ≥ 4294967296) = false →
     AdjOk y1 y0 u32 u (d1_s2 Yn u32 y1 y0 u u0 s p) (d1_s3 Yn u32 y1 y0 u u0 s p) ∧
     (d1F Yn u32 y1 y0 u u0 s).μ ((d1F Yn u32 y1 y0 u u0 s).next p 1) < (d1F Yn u32 y1 y0 u u0 s).μ p ∧
     (d1F Yn u32 y1 y0 u u0 s).fin ((d1F Yn u32 y1 y0 u u0 s).next p 1) = (d1F Yn u32 y1 y0 u u0 s).fin p ∧
     d1_s3 Yn u32 y1 y0 u u0 s p = IntKind.u64.wrap (p.snd + y1) ∧ d1_s2 Yn u32 y1 y0 u u0 s p = d1_s1 p),
    (decide (p.fst ≥ 4294967296) || decide (IntKind.u64.wrap (p.fst * y0) > d1_s0 u p)) = false → (u32 * 4294967296 + u) / (y1 * 4294967296 + y0) = p.fst]
theorem d1_round (Yn u32 y1 y0 u u0 s : Int) (p : Int × Int) (hNeeds : ∀ pN ∈ (d1_needs Yn u32 y1 y0 u u0 s p), pN) : RoundOk (roundC (d1F Yn u32 y1 y0 u u0 s) (bodyOf Tryz.prog (sums K_lz) L0 190 0) 101 p) :=
  RoundOk.of (ps := (d1_needs Yn u32 y1 y0 u u0 s p)) (by kernel_rfl) (by kernel_rfl) hNeeds
theorem all2 {p q : Prop} (hp : p) (hq : q) : ∀ x ∈ [p, q], x := by
  intro x hx
  rcases List.mem_cons.1 hx with rfl | hx
  · exact hp
  rcases List.mem_cons.1 hx with rfl | hx
  · exact hq
  · cases hx
theorem d1_rounds (Yn u32 y1 y0 u u0 s : Int) : RoundsOk (d1F Yn u32 y1 y0 u u0 s) (bodyOf Tryz.prog (sums K_lz) L0 190 0) 101 := by
  intro p hJ
  have hJ : AdjOk y1 y0 u32 u p.1 p.2 := hJ
  have hf := hJ.fit
  have hq := hJ.ub
  have hr := hJ.hr
  have h1 := hJ.h1
  have hu := hJ.hu
  have q0 := hJ.q0
  have e0 : d1_s0 u p = 4294967296 * p.2 + u := by
    unfold d1_s0
    rw [wrU (x := 4294967296 * p.2) (by omega) (by omega), wrU (by omega) (by omega)]
  have e1 : 1 ≤ p.1 → d1_s1 p = p.1 - 1 := fun h => wrU (by omega) (by omega)
  have e2 : IntKind.u64.wrap (p.1 * y0) = p.1 * y0 := wrU hf.1 hf.2
  have e3 : IntKind.u64.wrap (p.2 + y1) = p.2 + y1 := wrU (by omega) (by omega)
  have hl := quo_lt h1 hJ.h0 hu hJ.hn
  refine d1_round Yn u32 y1 y0 u u0 s p ?_
  unfold d1_needs
  rw [e0, e2, e3]
  refine all2 ?_ ?_
  · intro hc
    rw [Bool.or_eq_true, decide_eq_true_eq, decide_eq_true_eq] at hc
    have hb := big_cond hJ hc
    refine ⟨fun h => ?_, fun h => ?_⟩
    · rw [decide_eq_true_eq] at h
      rw [e1 (by omega)]
      exact (adj_last hJ hc h).symm
    · rw [decide_eq_false_iff_not] at h
      refine ⟨hJ.next hc (by omega), ?_, rfl, rfl, ?_⟩
      · show (4294967296 - (p.2 + y1)).toNat < (4294967296 - p.2).toNat
        omega
      · rw [e1 (by omega)]; rfl
  · intro hc
    rw [Bool.or_eq_false_iff, decide_eq_false_iff_not, decide_eq_false_iff_not] at hc
    exact (small_cond hJ (by omega)).symm
noncomputable def d1L : LoopS := fun env mem m => match eInt env 2, eInt env 11, eInt env 9, eInt env 10, eInt env 13, eInt env 14, eInt env 8, eInt env 15, eInt env 16 with
  | some Yn, some u32, some y1, some y0, some u, some u0, some s, some q, some r => famS (d1F Yn u32 y1 y0 u u0 s) 101 (fun _ _ => some (q, r)) env mem m
  | _, _, _, _, _, _, _, _, _ => none
noncomputable def L_d1 : FuncId → Nat → Option LoopS := addL L0 190 17 d1L
theorem known_d1L : Known Tryz.prog (sums K_lz) L_d1 := by
  refine known_addL 0 known_lz (by kernel_rfl) (codeOk_of fun env mem m x h => ?_)
  unfold d1L at h
  have hlen : (loopList Tryz.prog 190).length = 2 := by kernel_rfl
  split at h
  · exact ⟨_, fam_ok (bodyOf_ok plainN known_lz (by omega)) (d1_rounds _ _ _ _ _ _ _), h⟩
  · cases h
noncomputable def d2F (Yn u32 y1 y0 u u0 s : Int) : Fam (Int × Int) Unit where
  k := 20
  E p := [(16, ent 1000000000 (.one (U p.2))), (18, ent 1000000001 (.one (U p.1))), (17, ent 129 (.one (U u32))), (15, ent 102 (.one (U u0))), (14, ent 90 (.one (U u))), (10, ent 71 (.one (U y0))), (9, ent 68 (.one (U y1))), (2, ent 65 (.one (U Yn))), (8, ent 61 (.one (U s)))]
  M _ := []
  out _ := .leaf (.exit 2) [(18, ent 141 (.one (U ((u32 * 4294967296 + u) / (y1 * 4294967296 + y0))))), (17, ent 129 (.one (U u32))), (15, ent 102 (.one (U u0))), (14, ent 90 (.one (U u))), (2, ent 65 (.one (U Yn))), (8, ent 61 (.one (U s)))] []
  fin _ := ()
  next p _ := (p.1 - 1, p.2 + y1)
  J p := AdjOk y1 y0 u32 u p.1 p.2
  μ p := (4294967296 - p.2).toNat
noncomputable def d2_s0 (u : Int) (p : Int × Int) : Int :=
  IntKind.u64.wrap (IntKind.u64.wrap (4294967296 * p.snd) + u)
noncomputable def d2_s1 (p : Int × Int) : Int :=
  IntKind.u64.wrap (p.fst - 1)
noncomputable def d2_s2 (Yn : Int) (u32 : Int) (y1 : Int) (y0 : Int) (u : Int) (u0 : Int) (s : Int) (p : Int × Int) : Int :=
  ((d2F Yn u32 y1 y0 u u0 s).next p 1).fst
noncomputable def d2_s3 (Yn : Int) (u32 : Int) (y1 : Int) (y0 : Int) (u : Int) (u0 : Int) (s : Int) (p : Int × Int) : Int :=
  ((d2F Yn u32 y1 y0 u u0 s).next p 1).snd
noncomputable def d2_needs (Yn : Int) (u32 : Int) (y1 : Int) (y0 : Int) (u : Int) (u0 : Int) (s : Int) (p : Int × Int) : List Prop :=
  [(decide (p.fst ≥ 4294967296) || decide (IntKind.u64.wrap (p.fst * y0) > d2_s0 u p)) = true →
     (decide (IntKind.u64.wrap (p.snd + y1) ≥ 4294967296) = true → (u32 * 4294967296 + u) / (y1 * 4294967296 + y0) = d2_s1 p) ∧
     (decide (IntKind.u64.wrap (p.snd + y1) ≥ 4294967296) = false →
     AdjOk y1 y0 u32 u (d2_s2 Yn u32 y1 y0 u u0 s p) (d2_s3 Yn u32 y1 y0 u u0 s p) ∧
     (d2F Yn u32 y1 y0 u u0 s).μ ((d2F Yn u32 y1 y0 u u0 s).next p 1) < (d2F Yn u32 y1 y0 u u0 s).μ p ∧
     (d2F Yn u32 y1 y0 u u0 s).fin ((d2F Yn u32 y1 y0 u u0 s).next p 1) = (d2F Yn u32 y1 y0 u u0 s).fin p ∧
     d2_s3 Yn u32 y1 y0 u u0 s p = IntKind.u64.wrap (p.snd + y1) ∧ d2_s2 Yn u32 y1 y0 u u0 s p = d2_s1 p),
    (decide (p.fst ≥ 4294967296) || decide (IntKind.u64.wrap (p.fst * y0) > d2_s0 u p)) = false → (u32 * 4294967296 + u) / (y1 * 4294967296 + y0) = p.fst]
theorem d2_round (Yn u32 y1 y0 u u0 s : Int) (p : Int × Int) (hNeeds : ∀ pN ∈ (d2_needs Yn u32 y1 y0 u u0 s p), pN) : RoundOk (roundC (d2F Yn u32 y1 y0 u u0 s) (bodyOf Tryz.prog (sums K_lz) L_d1 190 1) 140 p) :=
  RoundOk.of (ps := (d2_needs Yn u32 y1 y0 u u0 s p)) (by kernel_rfl) (by kernel_rfl) hNeeds
theorem d2_rounds (Yn u32 y1 y0 u u0 s : Int) : RoundsOk (d2F Yn u32 y1 y0 u u0 s) (bodyOf Tryz.prog (sums K_lz) L_d1 190 1) 140 := by
  intro p hJ
  have hJ : AdjOk y1 y0 u32 u p.1 p.2 := hJ
  have hf := hJ.fit
  have hq := hJ.ub
  have hr := hJ.hr
  have h1 := hJ.h1
  have hu := hJ.hu
  have q0 := hJ.q0
  have e0 : d2_s0 u p = 4294967296 * p.2 + u := by
    unfold d2_s0
    rw [wrU (x := 4294967296 * p.2) (by omega) (by omega), wrU (by omega) (by omega)]
  have e1 : 1 ≤ p.1 → d2_s1 p = p.1 - 1 := fun h => wrU (by omega) (by omega)
  have e2 : IntKind.u64.wrap (p.1 * y0) = p.1 * y0 := wrU hf.1 hf.2
  have e3 : IntKind.u64.wrap (p.2 + y1) = p.2 + y1 := wrU (by omega) (by omega)
  have hl := quo_lt h1 hJ.h0 hu hJ.hn
  refine d2_round Yn u32 y1 y0 u u0 s p ?_
  unfold d2_needs
  rw [e0, e2, e3]
  refine all2 ?_ ?_
  · intro hc
    rw [Bool.or_eq_true, decide_eq_true_eq, decide_eq_true_eq] at hc
    have hb := big_cond hJ hc
    refine ⟨fun h => ?_, fun h => ?_⟩
    · rw [decide_eq_true_eq] at h
      rw [e1 (by omega)]
      exact (adj_last hJ hc h).symm
    · rw [decide_eq_false_iff_not] at h
      refine ⟨hJ.next hc (by omega), ?_, rfl, rfl, ?_⟩
      · show (4294967296 - (p.2 + y1)).toNat < (4294967296 - p.2).toNat
        omega
      · rw [e1 (by omega)]; rfl
  · intro hc
    rw [Bool.or_eq_false_iff, decide_eq_false_iff_not, decide_eq_false_iff_not] at hc
    exact (small_cond hJ (by omega)).symm
noncomputable def d2L : LoopS := fun env mem m => match eInt env 2, eInt env 17, eInt env 9, eInt env 10, eInt env 14, eInt env 15, eInt env 8, eInt env 18, eInt env 16 with
  | some Yn, some u32, some y1, some y0, some u, some u0, some s, some q, some r => famS (d2F Yn u32 y1 y0 u u0 s) 140 (fun _ _ => some (q, r)) env mem m
  | _, _, _, _, _, _, _, _, _ => none
noncomputable def L_d2 : FuncId → Nat → Option LoopS := addL L_d1 190 24 d2L
theorem known_d2L : Known Tryz.prog (sums K_lz) L_d2 := by
  refine known_addL 1 known_d1L (by kernel_rfl) (codeOk_of fun env mem m x h => ?_)
  unfold d2L at h
  have hlen : (loopList Tryz.prog 190).length = 2 := by kernel_rfl
  split at h
  · exact ⟨_, fam_ok (bodyOf_ok plainN known_d1L (by omega)) (d2_rounds _ _ _ _ _ _ _), h⟩
  · cases h
theorem shrE' (x : Int) (k : Nat) (h : 0 ≤ x) (hk : k ≤ 64) : ishift .shr .u64 x (k : Int) = x / 2 ^ k := by
  have e : min ((k : Int)).toNat IntKind.u64.bits = k := by
    have : IntKind.u64.bits = 64 := rfl
    rw [this, Int.toNat_natCast]
    omega
  unfold ishift
  simp only [e]
  exact Int.fdiv_eq_ediv_of_nonneg _ (Int.le_of_lt (two_pos k))
theorem shlE (x : Int) (k : Nat) (hk : k ≤ 64) : ishift .shl .u64 x (k : Int) = (x * 2 ^ k) % 18446744073709551616 := by
  have e : min ((k : Int)).toNat IntKind.u64.bits = k := by
    have : IntKind.u64.bits = 64 := rfl
    rw [this, Int.toNat_natCast]
    omega
  unfold ishift
  simp only [e]
  exact wrU_mod _
theorem orE {x y : Int} {s : Nat} {m : Int} (hm : 0 ≤ m) (e : x = 2 ^ s * m) (hy : 0 ≤ y ∧ y < 2 ^ s) (h : x + y < 18446744073709551616) : ibits .or .u64 x y = x + y := by
  obtain ⟨n, rfl⟩ := Int.eq_ofNat_of_zero_le hm
  obtain ⟨z, rfl⟩ := Int.eq_ofNat_of_zero_le hy.1
  have er : x = ((2 ^ s * n : Nat) : Int) := by rw [e]; push_cast; rfl
  have hz : z < 2 ^ s := by
    have : ((z : Nat) : Int) < ((2 ^ s : Nat) : Int) := by push_cast; exact hy.2
    exact_mod_cast this
  have hor := Nat.two_pow_add_eq_or_of_lt hz n
  rw [er] at h ⊢
  generalize hq : 2 ^ s * n = q at *
  have b1 : q < 2 ^ 64 := by omega
  have b2 : z < 2 ^ 64 := by omega
  have e1 : (BitVec.ofInt 64 (q : Int)).toNat = q := by simp [BitVec.toNat_ofInt]; omega
  have e2 : (BitVec.ofInt 64 (z : Int)).toNat = z := by simp [BitVec.toNat_ofInt]; omega
  have e3 : (BitVec.ofInt 64 (q : Int) ||| BitVec.ofInt 64 (z : Int)).toNat = q + z := by rw [BitVec.toNat_or, e1, e2, hor]
  show IntKind.u64.wrap ((BitVec.ofInt 64 (q : Int) ||| BitVec.ofInt 64 (z : Int)).toNat : Int) = _
  rw [e3, wrU (by omega) (by omega)]
  push_cast; rfl
/-- The divisor, shifted until its highest bit is set. -/
theorem norm_c {c : Int} (h0 : 0 < c) (h1 : c < 18446744073709551616) : ∃ s : Nat, s ≤ 63 ∧ IntKind.u64.wrap (lz_0 c) = s ∧ 9223372036854775808 ≤ c * 2 ^ s ∧ c * 2 ^ s < 18446744073709551616 ∧ ishift .shl .u64 c (IntKind.u64.wrap (lz_0 c)) = c * 2 ^ s := by
  obtain ⟨l, e, l1, l2, p1, p2⟩ := len64_law h0 h1
  have es : IntKind.u64.wrap (lz_0 c) = ((64 - l : Nat) : Int) := by
    unfold lz_0
    rw [e, wrI (by omega) (by omega), wrU (by omega) (by omega)]
    omega
  have hp := two_pos (64 - l)
  have q1 : (2 : Int) ^ (l - 1) * 2 ^ (64 - l) = 9223372036854775808 := by
    rw [← Int.pow_add, show l - 1 + (64 - l) = 63 by omega]; rfl
  have q2 : (2 : Int) ^ l * 2 ^ (64 - l) = 18446744073709551616 := by
    rw [← Int.pow_add, show l + (64 - l) = 64 by omega]; rfl
  have g1 := Int.mul_le_mul_of_nonneg_right p1 (Int.le_of_lt hp)
  have g2 := Int.mul_lt_mul_of_pos_right p2 hp
  refine ⟨64 - l, by omega, es, by omega, by omega, ?_⟩
  rw [es, shlE _ _ (by omega)]
  exact Int.emod_eq_of_lt (by omega) (by omega)
/-- The number's three parts. -/
theorem norm_ab {a b c : Int} {s : Nat} (ha : 0 ≤ a) (hac : a < c) (hb : 0 ≤ b) (hb' : b < 18446744073709551616) (hs : s ≤ 63) (hc : c * 2 ^ s < 18446744073709551616) :
    ibits .or .u64 (ishift .shl .u64 a (s : Int)) (ishift .shr .u64 b (IntKind.u64.wrap (64 - (s : Int)))) = a * 2 ^ s + b / 2 ^ (64 - s) ∧ 0 ≤ a * 2 ^ s + b / 2 ^ (64 - s) ∧ a * 2 ^ s + b / 2 ^ (64 - s) < c * 2 ^ s ∧
    (a * 2 ^ s + b / 2 ^ (64 - s)) * 18446744073709551616 + (b * 2 ^ s) % 18446744073709551616 = (a * 18446744073709551616 + b) * 2 ^ s := by
  have hp := two_pos s
  have hq := two_pos (64 - s)
  have e64 : (2 : Int) ^ (64 - s) * 2 ^ s = 18446744073709551616 := by rw [← Int.pow_add, show 64 - s + s = 64 by omega]; rfl
  have ew : IntKind.u64.wrap (64 - (s : Int)) = ((64 - s : Nat) : Int) := by rw [wrU (by omega) (by omega)]; omega
  have g1 := Int.mul_le_mul_of_nonneg_right (show a + 1 ≤ c by omega) (Int.le_of_lt hp)
  have g2 : (a + 1) * 2 ^ s = a * 2 ^ s + 2 ^ s := by rw [Int.add_mul, Int.one_mul]
  have g3 := Int.mul_nonneg ha (Int.le_of_lt hp)
  have hr : 0 ≤ b / 2 ^ (64 - s) ∧ b / 2 ^ (64 - s) < 2 ^ s := by
    refine ⟨Int.ediv_nonneg hb (Int.le_of_lt hq), Int.ediv_lt_of_lt_mul hq ?_⟩
    rw [Int.mul_comm, e64]; exact hb'
  have ed : b / 2 ^ (64 - s) = (b * 2 ^ s) / 18446744073709551616 := by
    rw [← e64, Int.mul_ediv_mul_of_pos_left _ _ hp]
  have dm := Int.mul_ediv_add_emod (b * 2 ^ s) 18446744073709551616
  refine ⟨?_, by omega, by omega, ?_⟩
  · rw [ew, shlE _ _ (by omega), shrE' _ _ hb (by omega), Int.emod_eq_of_lt (by omega) (by omega)]
    exact orE ha (Int.mul_comm _ _) hr (by omega)
  · rw [ed]
    have e5 : (a * 18446744073709551616 + b) * 2 ^ s = a * 2 ^ s * 18446744073709551616 + b * 2 ^ s := by grind
    rw [e5, Int.add_mul]
    omega
theorem sub3 (x u z : Int) : IntKind.u64.wrap (IntKind.u64.wrap (IntKind.u64.wrap x + u) - IntKind.u64.wrap z) = (x + u - z) % 18446744073709551616 := by
  rw [wrU_mod, wrU_mod, wrU_mod, wrU_mod]
  omega
/-- All that stands in the division. -/
structure DivParts (a b c : Int) : Prop where
  ex : ∃ (s : Nat) (Y u32 u1 u0 q1 r1 q0 : Int), s ≤ 63 ∧ IntKind.u64.wrap (lz_0 c) = (s : Int) ∧ ishift .shl .u64 c (IntKind.u64.wrap (lz_0 c)) = Y ∧ Y = c * 2 ^ s ∧ 9223372036854775808 ≤ Y ∧ Y < 18446744073709551616 ∧
    ishift .shr .u64 Y 32 = Y / 4294967296 ∧ ibits .and .u64 Y 4294967295 = Y % 4294967296 ∧
    ibits .or .u64 (ishift .shl .u64 a (IntKind.u64.wrap (lz_0 c))) (ishift .shr .u64 b (IntKind.u64.wrap (64 - IntKind.u64.wrap (lz_0 c)))) = u32 ∧ 0 ≤ u32 ∧ u32 < Y ∧
    ishift .shr .u64 (ishift .shl .u64 b (IntKind.u64.wrap (lz_0 c))) 32 = u1 ∧ ibits .and .u64 (ishift .shl .u64 b (IntKind.u64.wrap (lz_0 c))) 4294967295 = u0 ∧ 0 ≤ u1 ∧ u1 < 4294967296 ∧ 0 ≤ u0 ∧ u0 < 4294967296 ∧
    (u32 * 4294967296 + u1) * 4294967296 + u0 = (a * 18446744073709551616 + b) * 2 ^ s ∧
    q1 = (u32 * 4294967296 + u1) / Y ∧ r1 = u32 * 4294967296 + u1 - q1 * Y ∧ q0 = (r1 * 4294967296 + u0) / Y ∧ 0 ≤ r1 ∧ r1 < Y
theorem div_parts {a b c : Int} (ha : 0 ≤ a) (hac : a < c) (hb : 0 ≤ b) (hb' : b < 18446744073709551616) (hc : c < 18446744073709551616) : DivParts a b c := by
  obtain ⟨s, s63, es, y1, y2, ey⟩ := norm_c (c := c) (by omega) hc
  obtain ⟨n1, n2, n3, n4⟩ := norm_ab ha hac hb hb' s63 y2
  have eb : ishift .shl .u64 b (s : Int) = (b * 2 ^ s) % 18446744073709551616 := shlE _ _ (by omega)
  have m1 := Int.emod_nonneg (b * 2 ^ s) (show (18446744073709551616 : Int) ≠ 0 by omega)
  have m2 := Int.emod_lt_of_pos (b * 2 ^ s) (show (0 : Int) < 18446744073709551616 by omega)
  have hd := two_digits (Y := c * 2 ^ s) (u32 := a * 2 ^ s + b / 2 ^ (64 - s)) (u1 := (b * 2 ^ s) % 18446744073709551616 / 4294967296) (u0 := (b * 2 ^ s) % 18446744073709551616 % 4294967296) (by omega) n2 (by omega) (by omega) rfl rfl rfl
  refine ⟨s, c * 2 ^ s, a * 2 ^ s + b / 2 ^ (64 - s), (b * 2 ^ s) % 18446744073709551616 / 4294967296, (b * 2 ^ s) % 18446744073709551616 % 4294967296, _, _, _, s63, es, ey, rfl, y1, y2, shr32 _ (by omega), and32 _ (by omega) y2, ?_, n2, n3, ?_, ?_, by omega, by omega, by omega, by omega, ?_, rfl, rfl, rfl, hd.2.2.1, hd.2.2.2⟩
  · rw [es]; exact n1
  · rw [es, eb, shr32 _ m1]
  · rw [es, eb, and32 _ m1 m2]
  · rw [← n4]
    generalize (b * 2 ^ s) % 18446744073709551616 = z at *
    generalize a * 2 ^ s + b / 2 ^ (64 - s) = w at *
    omega
noncomputable def div64_tpl : Tpl := ⟨[.one (.int .u64), .one (.int .u64), .one (.int .u64)], [], 0⟩
noncomputable def div64_s0 (a : Int) (b : Int) (c : Int) : Int :=
  ibits BinOp.or IntKind.u64 (ishift BinOp.shl IntKind.u64 a (IntKind.u64.wrap (lz_0 c))) (ishift BinOp.shr IntKind.u64 b (IntKind.u64.wrap (64 - IntKind.u64.wrap (lz_0 c)))) * 4294967296
noncomputable def div64_s1 (c : Int) : Int :=
  ishift BinOp.shr IntKind.u64 (ishift BinOp.shl IntKind.u64 c (IntKind.u64.wrap (lz_0 c))) 32 * 4294967296 +
   ibits BinOp.and IntKind.u64 (ishift BinOp.shl IntKind.u64 c (IntKind.u64.wrap (lz_0 c))) 4294967295
noncomputable def div64_0 (a : Int) (b : Int) (c : Int) : Int :=
  bif a == 0 then IntKind.u64.wrap (b.tdiv c)
  else
   IntKind.u64.wrap
   (IntKind.u64.wrap ((div64_s0 a b c + ishift BinOp.shr IntKind.u64 (ishift BinOp.shl IntKind.u64 b (IntKind.u64.wrap (lz_0 c))) 32) / div64_s1 c * 4294967296) +
   (IntKind.u64.wrap
   (IntKind.u64.wrap (IntKind.u64.wrap (div64_s0 a b c) + ishift BinOp.shr IntKind.u64 (ishift BinOp.shl IntKind.u64 b (IntKind.u64.wrap (lz_0 c))) 32) -
   IntKind.u64.wrap
   ((div64_s0 a b c + ishift BinOp.shr IntKind.u64 (ishift BinOp.shl IntKind.u64 b (IntKind.u64.wrap (lz_0 c))) 32) / div64_s1 c *
   ishift BinOp.shl IntKind.u64 c (IntKind.u64.wrap (lz_0 c)))) *
   4294967296 +
   ibits BinOp.and IntKind.u64 (ishift BinOp.shl IntKind.u64 b (IntKind.u64.wrap (lz_0 c))) 4294967295) /
   div64_s1 c)
noncomputable def div64_s2 (a : Int) (b : Int) (c : Int) : Int :=
  IntKind.u64.wrap
   (IntKind.u64.wrap (IntKind.u64.wrap (div64_s0 a b c) + ishift BinOp.shr IntKind.u64 (ishift BinOp.shl IntKind.u64 b (IntKind.u64.wrap (lz_0 c))) 32) -
   IntKind.u64.wrap
   ((div64_s0 a b c + ishift BinOp.shr IntKind.u64 (ishift BinOp.shl IntKind.u64 b (IntKind.u64.wrap (lz_0 c))) 32) / div64_s1 c * ishift BinOp.shl IntKind.u64 c (IntKind.u64.wrap (lz_0 c)))) *
   4294967296
noncomputable def div64_1 (a : Int) (b : Int) (c : Int) : Int :=
  bif a == 0 then b.tmod c
  else
   ishift BinOp.shr IntKind.u64
   (IntKind.u64.wrap
   (IntKind.u64.wrap (IntKind.u64.wrap (div64_s2 a b c) + ibits BinOp.and IntKind.u64 (ishift BinOp.shl IntKind.u64 b (IntKind.u64.wrap (lz_0 c))) 4294967295) -
   IntKind.u64.wrap
   ((div64_s2 a b c + ibits BinOp.and IntKind.u64 (ishift BinOp.shl IntKind.u64 b (IntKind.u64.wrap (lz_0 c))) 4294967295) / div64_s1 c *
   ishift BinOp.shl IntKind.u64 c (IntKind.u64.wrap (lz_0 c)))))
   (IntKind.u64.wrap (lz_0 c))
noncomputable def div64_s3 (c : Int) : Int :=
  IntKind.u64.wrap (64 - IntKind.u64.wrap (lz_0 c))
noncomputable def div64_s4 (a : Int) (b : Int) (c : Int) : Int :=
  IntKind.u64.wrap
   ((ibits BinOp.or IntKind.u64 (ishift BinOp.shl IntKind.u64 a (IntKind.u64.wrap (lz_0 c))) (ishift BinOp.shr IntKind.u64 b (div64_s3 c))).tdiv
   (ishift BinOp.shr IntKind.u64 (ishift BinOp.shl IntKind.u64 c (IntKind.u64.wrap (lz_0 c))) 32))
noncomputable def div64_s5 (a : Int) (b : Int) (c : Int) : Int :=
  IntKind.u64.wrap
   (ibits BinOp.or IntKind.u64 (ishift BinOp.shl IntKind.u64 a (IntKind.u64.wrap (lz_0 c))) (ishift BinOp.shr IntKind.u64 b (div64_s3 c)) -
   IntKind.u64.wrap (div64_s4 a b c * ishift BinOp.shr IntKind.u64 (ishift BinOp.shl IntKind.u64 c (IntKind.u64.wrap (lz_0 c))) 32))
noncomputable def div64_s6 (a : Int) (b : Int) (c : Int) : Int :=
  ibits BinOp.or IntKind.u64 (ishift BinOp.shl IntKind.u64 a (IntKind.u64.wrap (lz_0 c))) (ishift BinOp.shr IntKind.u64 b (div64_s3 c)) * 4294967296
noncomputable def div64_s7 (a : Int) (b : Int) (c : Int) : Int :=
  IntKind.u64.wrap
   (IntKind.u64.wrap (IntKind.u64.wrap (div64_s6 a b c) + ishift BinOp.shr IntKind.u64 (ishift BinOp.shl IntKind.u64 b (IntKind.u64.wrap (lz_0 c))) 32) -
   IntKind.u64.wrap
   ((div64_s6 a b c + ishift BinOp.shr IntKind.u64 (ishift BinOp.shl IntKind.u64 b (IntKind.u64.wrap (lz_0 c))) 32) /
   (ishift BinOp.shr IntKind.u64 (ishift BinOp.shl IntKind.u64 c (IntKind.u64.wrap (lz_0 c))) 32 * 4294967296 +
   ibits BinOp.and IntKind.u64 (ishift BinOp.shl IntKind.u64 c (IntKind.u64.wrap (lz_0 c))) 4294967295) *
   ishift BinOp.shl IntKind.u64 c (IntKind.u64.wrap (lz_0 c))))
noncomputable def div64_s8 (a : Int) (b : Int) (c : Int) : Int :=
  IntKind.u64.wrap ((div64_s7 a b c).tdiv (ishift BinOp.shr IntKind.u64 (ishift BinOp.shl IntKind.u64 c (IntKind.u64.wrap (lz_0 c))) 32))
noncomputable def div64_s9 (a : Int) (b : Int) (c : Int) : Int :=
  IntKind.u64.wrap (div64_s7 a b c - IntKind.u64.wrap (div64_s8 a b c * ishift BinOp.shr IntKind.u64 (ishift BinOp.shl IntKind.u64 c (IntKind.u64.wrap (lz_0 c))) 32))
noncomputable def div64_needs (a : Int) (b : Int) (c : Int) : List Prop :=
  [(c == 0) = false, decide (c ≤ a) = false, (a == 0) = true → c ≠ 0 ∧ c ≠ 0,
   (a == 0) = false →
   0 ≤ c ∧
   c < 18446744073709551616 ∧
   0 ≤ IntKind.u64.wrap (lz_0 c) ∧
   0 ≤ IntKind.u64.wrap (lz_0 c) ∧
   0 ≤ div64_s3 c ∧
   0 ≤ IntKind.u64.wrap (lz_0 c) ∧
   ishift BinOp.shr IntKind.u64 (ishift BinOp.shl IntKind.u64 c (IntKind.u64.wrap (lz_0 c))) 32 ≠ 0 ∧
   AdjOk (ishift BinOp.shr IntKind.u64 (ishift BinOp.shl IntKind.u64 c (IntKind.u64.wrap (lz_0 c))) 32)
   (ibits BinOp.and IntKind.u64 (ishift BinOp.shl IntKind.u64 c (IntKind.u64.wrap (lz_0 c))) 4294967295)
   (ibits BinOp.or IntKind.u64 (ishift BinOp.shl IntKind.u64 a (IntKind.u64.wrap (lz_0 c))) (ishift BinOp.shr IntKind.u64 b (div64_s3 c)))
   (ishift BinOp.shr IntKind.u64 (ishift BinOp.shl IntKind.u64 b (IntKind.u64.wrap (lz_0 c))) 32) (div64_s4 a b c, div64_s5 a b c).fst (div64_s4 a b c, div64_s5 a b c).snd ∧
   (div64_s4 a b c, div64_s5 a b c).snd = div64_s5 a b c ∧
   (div64_s4 a b c, div64_s5 a b c).fst = div64_s4 a b c ∧
   ishift BinOp.shr IntKind.u64 (ishift BinOp.shl IntKind.u64 c (IntKind.u64.wrap (lz_0 c))) 32 ≠ 0 ∧
   AdjOk (ishift BinOp.shr IntKind.u64 (ishift BinOp.shl IntKind.u64 c (IntKind.u64.wrap (lz_0 c))) 32)
   (ibits BinOp.and IntKind.u64 (ishift BinOp.shl IntKind.u64 c (IntKind.u64.wrap (lz_0 c))) 4294967295) (div64_s7 a b c)
   (ibits BinOp.and IntKind.u64 (ishift BinOp.shl IntKind.u64 b (IntKind.u64.wrap (lz_0 c))) 4294967295) (div64_s8 a b c, div64_s9 a b c).fst
   (div64_s8 a b c, div64_s9 a b c).snd ∧
   (div64_s8 a b c, div64_s9 a b c).snd = div64_s9 a b c ∧ (div64_s8 a b c, div64_s9 a b c).fst = div64_s8 a b c ∧ 0 ≤ IntKind.u64.wrap (lz_0 c)]
theorem div64_weak {a : Int} {b : Int} {c : Int} (hW : ∀ q ∈ ([0 ≤ a, a < c, 0 ≤ b, b < 18446744073709551616, c < 18446744073709551616] : List Prop), q) : ∀ q ∈ (div64_needs a b c), q := by
  simp only [List.mem_cons, List.not_mem_nil, or_false, forall_eq_or_imp, forall_eq] at hW
  unfold div64_needs
  simp only [List.forall_mem_cons, List.not_mem_nil, false_implies, implies_true, and_true]
  obtain ⟨ha, hac, hb, hb', hc⟩ := hW
  refine ⟨by simp; omega, by simp; omega, fun _ => ⟨by omega, by omega⟩, fun _ => ?_⟩
  obtain ⟨s, Y, u32, u1, u0, q1, r1, q0, s63, es, ey, eY, y1, y2, ey1, ey0, eu, v0, v1, e1, e0, p1, p2, p3, p4, en, eq1, er1, eq0, t0, t1⟩ := (div_parts ha hac hb hb' hc).ex
  have ew : 0 ≤ IntKind.u64.wrap (lz_0 c) := by rw [es]; omega
  have ew3 : 0 ≤ div64_s3 c := by unfold div64_s3; rw [es, wrU (by omega) (by omega)]; omega
  have hy1 : 2147483648 ≤ Y / 4294967296 ∧ Y / 4294967296 < 4294967296 := by omega
  have hy0 : 0 ≤ Y % 4294967296 ∧ Y % 4294967296 < 4294967296 := by omega
  have hYY : Y / 4294967296 * 4294967296 + Y % 4294967296 = Y := by omega
  have first : ∀ {x u : Int}, 0 ≤ x → x < Y → 0 ≤ u → u < 4294967296 → AdjOk (Y / 4294967296) (Y % 4294967296) x u (IntKind.u64.wrap (x.tdiv (Y / 4294967296))) (IntKind.u64.wrap (x - IntKind.u64.wrap (IntKind.u64.wrap (x.tdiv (Y / 4294967296)) * (Y / 4294967296)))) := fun {x u} g1 g2 g3 g4 => by
    have A := adj_first (y1 := Y / 4294967296) (y0 := Y % 4294967296) (u32 := x) (u := u) hy1 hy0 ⟨g3, g4⟩ (by omega)
    have hd := Int.mul_ediv_add_emod x (Y / 4294967296)
    have hm1 := Int.emod_nonneg x (show Y / 4294967296 ≠ 0 by omega)
    have hm2 := Int.emod_lt_of_pos x (show 0 < Y / 4294967296 by omega)
    have hcm : Y / 4294967296 * (x / (Y / 4294967296)) = x / (Y / 4294967296) * (Y / 4294967296) := Int.mul_comm _ _
    rw [hcm] at hd
    have ub := A.ub
    have q0 := A.q0
    have qn := Int.mul_nonneg q0 (show 0 ≤ Y / 4294967296 by omega)
    have e1 : IntKind.u64.wrap (x.tdiv (Y / 4294967296)) = x / (Y / 4294967296) := by
      rw [Int.tdiv_eq_ediv_of_nonneg g1, wrU q0 (by omega)]
    rw [e1, wrU (x := x / (Y / 4294967296) * (Y / 4294967296)) (by omega) (by omega), wrU (by omega) (by omega)]
    exact A
  have e4 : div64_s4 a b c = IntKind.u64.wrap (u32.tdiv (Y / 4294967296)) := by unfold div64_s4 div64_s3; rw [eu, ey, ey1]
  have e5 : div64_s5 a b c = IntKind.u64.wrap (u32 - IntKind.u64.wrap (IntKind.u64.wrap (u32.tdiv (Y / 4294967296)) * (Y / 4294967296))) := by unfold div64_s5; rw [e4]; unfold div64_s3; rw [eu, ey, ey1]
  have e7 : div64_s7 a b c = r1 := by
    unfold div64_s7 div64_s6 div64_s3
    rw [eu, ey, ey1, ey0, e1, hYY, sub3, ← eq1, ← er1]
    exact Int.emod_eq_of_lt t0 (by omega)
  have e8 : div64_s8 a b c = IntKind.u64.wrap (r1.tdiv (Y / 4294967296)) := by unfold div64_s8; rw [e7, ey, ey1]
  have e9 : div64_s9 a b c = IntKind.u64.wrap (r1 - IntKind.u64.wrap (IntKind.u64.wrap (r1.tdiv (Y / 4294967296)) * (Y / 4294967296))) := by unfold div64_s9; rw [e7, e8, ey, ey1]
  rw [e4, e5, e7, e8, e9]
  unfold div64_s3 at ew3 ⊢
  rw [eu, ey, ey1, ey0, e1, e0]
  exact ⟨by omega, by omega, ew, ew, ew3, ew, by omega, first v0 v1 p1 p2, trivial, trivial, by omega, first t0 t1 p3 p4, trivial, trivial, ew⟩
set_option maxRecDepth 1000000 in
theorem div64_runs (a b c : Int) (hNeeds : ∀ pN ∈ (div64_needs a b c), pN) : Runs (runF (sums K_lz) L_d2 190) (div64_tpl.args [.i a, .i b, .i c]) (div64_tpl.memo [.i a, .i b, .i c] []) div64_tpl.n (SV.tup [(false, [SC.int IntKind.u64 (SI.v (div64_0 a b c))]), (false, [SC.int IntKind.u64 (SI.v (div64_1 a b c))])])
    ([]) :=
  Runs.of1 (ps := (div64_needs a b c)) (by kernel_rfl) hNeeds
noncomputable def div64_out : List Pm → Lss → Option CRes
  | [.i a, .i b, .i c], [] => some ⟨SV.tup [(false, [SC.int IntKind.u64 (SI.v (div64_0 a b c))]), (false, [SC.int IntKind.u64 (SI.v (div64_1 a b c))])],
    [],
    [0 ≤ a, a < c, 0 ≤ b, b < 18446744073709551616, c < 18446744073709551616], [], 176⟩
  | _, _ => none
theorem div64_ok : FOk Tryz.prog 190 (tplS div64_tpl div64_out) := by
  refine tplS_ok (runF_ok known_d2L 190) fun ps ls r hr hn _ => ?_
  unfold div64_out at hr
  split at hr
  · cases hr; exact ⟨_, div64_runs _ _ _ (div64_weak (by exact hn)), fun _ => rfl⟩
  · cases hr
noncomputable def K_div64 : List (Nat × Summ) := (190, tplS div64_tpl div64_out) :: K_lz
theorem known_div64 : Known Tryz.prog (sums K_div64) L_d2 := known_cons known_d2L div64_ok
/-- THE DIVISION. -/
theorem div64_law {a b c : Int} (ha : 0 ≤ a) (hac : a < c) (hb : 0 ≤ b) (hb' : b < 18446744073709551616) (hc : c < 18446744073709551616) :
    div64_0 a b c = (a * 18446744073709551616 + b) / c ∧ div64_1 a b c = (a * 18446744073709551616 + b) % c := by
  unfold div64_0 div64_1
  by_cases h : a = 0
  · subst h
    rw [show ((0 : Int) == 0) = true from rfl, cond_true, cond_true, Int.tdiv_eq_ediv_of_nonneg hb, Int.tmod_eq_emod_of_nonneg hb, Int.zero_mul, Int.zero_add]
    refine ⟨wrU (Int.ediv_nonneg hb (by omega)) ?_, rfl⟩
    have := Int.ediv_le_self c hb
    omega
  · rw [show (a == 0) = false by simpa using h, cond_false, cond_false]
    obtain ⟨s, Y, u32, u1, u0, q1, r1, q0, s63, es, ey, eY, y1, y2, ey1, ey0, eu, v0, v1, e1, e0, p1, p2, p3, p4, en, eq1, er1, eq0, t0, t1⟩ := (div_parts ha hac hb hb' hc).ex
    have hYY : Y / 4294967296 * 4294967296 + Y % 4294967296 = Y := by omega
    have hd := two_digits (Y := Y) (by omega) v0 ⟨p1, p2⟩ ⟨p3, p4⟩ eq1 er1 eq0
    have es1 : div64_s1 c = Y := by unfold div64_s1; rw [ey, ey1, ey0, hYY]
    have es0 : div64_s0 a b c = u32 * 4294967296 := by unfold div64_s0; rw [eu]
    have er : IntKind.u64.wrap (IntKind.u64.wrap (IntKind.u64.wrap (u32 * 4294967296) + u1) - IntKind.u64.wrap (q1 * Y)) = r1 := by
      rw [sub3, ← er1]; exact Int.emod_eq_of_lt t0 (by omega)
    have es2 : div64_s2 a b c = r1 * 4294967296 := by
      unfold div64_s2
      rw [es0, es1, e1, ey, ← eq1, er]
    have l1 := quo_lt (y1 := Y / 4294967296) (y0 := Y % 4294967296) (u32 := u32) (u := u1) (by omega) (by omega) (by omega) (by omega)
    have l0 := quo_lt (y1 := Y / 4294967296) (y0 := Y % 4294967296) (u32 := r1) (u := u0) (by omega) (by omega) (by omega) (by omega)
    rw [hYY, ← eq1] at l1
    rw [hYY, ← eq0] at l0
    have hp := two_pos s
    have m3 := Int.emod_nonneg ((u32 * 4294967296 + u1) * 4294967296 + u0) (show Y ≠ 0 by omega)
    have m4 := Int.emod_lt_of_pos ((u32 * 4294967296 + u1) * 4294967296 + u0) (show 0 < Y by omega)
    rw [← hd.2.1] at m3 m4
    constructor
    · rw [es0, es1, e1, e0, ey, ← eq1, er, ← eq0, wrU (x := q1 * 4294967296) (by omega) (by omega), wrU (by omega) (by omega), hd.1, en, eY, Int.mul_ediv_mul_of_pos_left _ _ hp]
    · rw [es2, es1, e0, ey, ← eq0, sub3, Int.emod_eq_of_lt m3 (by omega), es, shrE' _ _ m3 (by omega), hd.2.1, en, eY, Int.mul_comm _ (2 ^ s), Int.mul_comm c, Int.mul_emod_mul_of_pos _ _ hp, Int.mul_ediv_cancel_left _ (by omega)]
end Go.Proofs.YthgiaoidekdpfaaGreat
