/-
  Texts of one claim, laid together. Conditions: none.
-/
import Derived.Test.YtmbfbhimdkjkoaaM01b4bf07
set_option linter.all false
namespace Go.Proofs.Ytmbfbhimdkjkoaa
open Go.SX Go.RowKit
noncomputable def d1F (Yn u32 y1 y0 u u0 s : Int) : Fam (Int × Int) Unit where
  k := 20
  E p := [(16, ent 1000000000 (.one (U p.2))), (15, ent 1000000001 (.one (U p.1))), (14, ent 90 (.one (U u0))), (13, ent 87 (.one (U u))), (11, ent 80 (.one (U u32))), (10, ent 71 (.one (U y0))), (9, ent 68 (.one (U y1))), (2, ent 65 (.one (U Yn))), (8, ent 61 (.one (U s)))]
  M _ := []
  out _ := .leaf (.exit 0) [(15, ent 102 (.one (U ((u32 * 4294967296 + u) / (y1 * 4294967296 + y0))))), (14, ent 90 (.one (U u0))), (13, ent 87 (.one (U u))), (11, ent 80 (.one (U u32))), (10, ent 71 (.one (U y0))), (9, ent 68 (.one (U y1))), (2, ent 65 (.one (U Yn))), (8, ent 61 (.one (U s)))] []
  fin _ := ()
  next p _ := (p.1 - 1, p.2 + y1)
  J p := AdjOk y1 y0 u32 u p.1 p.2
  μ p := (4294967296 - p.2).toNat
noncomputable def d1_s0 (u : Int) (p : Int × Int) : Int :=
  IntKind.u64.wrap (IntKind.u64.wrap (4294967296 * p.snd) + u)
noncomputable def d1_s1 (p : Int × Int) : Int :=
  IntKind.u64.wrap (p.fst - 1)
noncomputable def d1_s2 (Yn : Int) (u32 : Int) (y1 : Int) (y0 : Int) (u : Int) (u0 : Int) (s : Int) (p : Int × Int) : Int :=
  ((d1F Yn u32 y1 y0 u u0 s).next p 1).fst
noncomputable def d1_s3 (Yn : Int) (u32 : Int) (y1 : Int) (y0 : Int) (u : Int) (u0 : Int) (s : Int) (p : Int × Int) : Int :=
  ((d1F Yn u32 y1 y0 u u0 s).next p 1).snd
noncomputable def d1_needs (Yn : Int) (u32 : Int) (y1 : Int) (y0 : Int) (u : Int) (u0 : Int) (s : Int) (p : Int × Int) : List Prop :=
  [(decide (p.fst ≥ 4294967296) || decide (IntKind.u64.wrap (p.fst * y0) > d1_s0 u p)) = true →
      (decide (IntKind.u64.wrap (p.snd + y1) ≥ 4294967296) = true → (u32 * 4294967296 + u) / (y1 * 4294967296 + y0) = d1_s1 p) ∧
        (decide (IntKind.u64.wrap (p.snd + y1) ≥ 4294967296) = false →
          AdjOk y1 y0 u32 u (d1_s2 Yn u32 y1 y0 u u0 s p) (d1_s3 Yn u32 y1 y0 u u0 s p) ∧
            (d1F Yn u32 y1 y0 u u0 s).μ ((d1F Yn u32 y1 y0 u u0 s).next p 1) < (d1F Yn u32 y1 y0 u u0 s).μ p ∧
              (d1F Yn u32 y1 y0 u u0 s).fin ((d1F Yn u32 y1 y0 u u0 s).next p 1) = (d1F Yn u32 y1 y0 u u0 s).fin p ∧
                d1_s3 Yn u32 y1 y0 u u0 s p = IntKind.u64.wrap (p.snd + y1) ∧ d1_s2 Yn u32 y1 y0 u u0 s p = d1_s1 p),
    (decide (p.fst ≥ 4294967296) || decide (IntKind.u64.wrap (p.fst * y0) > d1_s0 u p)) = false → (u32 * 4294967296 + u) / (y1 * 4294967296 + y0) = p.fst]
theorem d1_round (Yn u32 y1 y0 u u0 s : Int) (p : Int × Int) (hNeeds : ∀ pN ∈ (d1_needs Yn u32 y1 y0 u u0 s p), pN) : RoundOk (roundC (d1F Yn u32 y1 y0 u u0 s) (bodyOf Try.prog (sums K_lz) L0 100 0) 101 p) :=
  RoundOk.of (ps := (d1_needs Yn u32 y1 y0 u u0 s p)) (by kernel_rfl) (by kernel_rfl) hNeeds
theorem all2 {p q : Prop} (hp : p) (hq : q) : ∀ x ∈ [p, q], x := by
  intro x hx
  rcases List.mem_cons.1 hx with rfl | hx
  · exact hp
  rcases List.mem_cons.1 hx with rfl | hx
  · exact hq
  · cases hx
theorem d1_rounds (Yn u32 y1 y0 u u0 s : Int) : RoundsOk (d1F Yn u32 y1 y0 u u0 s) (bodyOf Try.prog (sums K_lz) L0 100 0) 101 := by
  intro p hJ
  have hJ : AdjOk y1 y0 u32 u p.1 p.2 := hJ
  have hf := hJ.fit
  have hq := hJ.ub
  have hr := hJ.hr
  have h1 := hJ.h1
  have hu := hJ.hu
  have q0 := hJ.q0
  have e0 : d1_s0 u p = 4294967296 * p.2 + u := by
    unfold d1_s0
    rw [wrU (x := 4294967296 * p.2) (by omega) (by omega), wrU (by omega) (by omega)]
  have e1 : 1 ≤ p.1 → d1_s1 p = p.1 - 1 := fun h => wrU (by omega) (by omega)
  have e2 : IntKind.u64.wrap (p.1 * y0) = p.1 * y0 := wrU hf.1 hf.2
  have e3 : IntKind.u64.wrap (p.2 + y1) = p.2 + y1 := wrU (by omega) (by omega)
  have hl := quo_lt h1 hJ.h0 hu hJ.hn
  refine d1_round Yn u32 y1 y0 u u0 s p ?_
  unfold d1_needs
  rw [e0, e2, e3]
  refine all2 ?_ ?_
  · intro hc
    rw [Bool.or_eq_true, decide_eq_true_eq, decide_eq_true_eq] at hc
    have hb := big_cond hJ hc
    refine ⟨fun h => ?_, fun h => ?_⟩
    · rw [decide_eq_true_eq] at h
      rw [e1 (by omega)]
      exact (adj_last hJ hc h).symm
    · rw [decide_eq_false_iff_not] at h
      refine ⟨hJ.next hc (by omega), ?_, rfl, rfl, ?_⟩
      · show (4294967296 - (p.2 + y1)).toNat < (4294967296 - p.2).toNat
        omega
      · rw [e1 (by omega)]; rfl
  · intro hc
    rw [Bool.or_eq_false_iff, decide_eq_false_iff_not, decide_eq_false_iff_not] at hc
    exact (small_cond hJ (by omega)).symm
noncomputable def d1L : LoopS := fun env mem m => match eInt env 2, eInt env 11, eInt env 9, eInt env 10, eInt env 13, eInt env 14, eInt env 8, eInt env 15, eInt env 16 with
  | some Yn, some u32, some y1, some y0, some u, some u0, some s, some q, some r => famS (d1F Yn u32 y1 y0 u u0 s) 101 (fun _ _ => some (q, r)) env mem m
  | _, _, _, _, _, _, _, _, _ => none
noncomputable def L_d1 : FuncId → Nat → Option LoopS := addL L0 100 17 d1L
theorem known_d1L : Known Try.prog (sums K_lz) L_d1 := by
  refine known_addL 0 known_lz (by kernel_rfl) (codeOk_of fun env mem m x h => ?_)
  unfold d1L at h
  have hlen : (loopList Try.prog 100).length = 2 := by kernel_rfl
  split at h
  · exact ⟨_, fam_ok (bodyOf_ok plainN known_lz (by omega)) (d1_rounds _ _ _ _ _ _ _), h⟩
  · cases h
noncomputable def d2F (Yn u32 y1 y0 u u0 s : Int) : Fam (Int × Int) Unit where
  k := 20
  E p := [(16, ent 1000000000 (.one (U p.2))), (18, ent 1000000001 (.one (U p.1))), (17, ent 129 (.one (U u32))), (15, ent 102 (.one (U u0))), (14, ent 90 (.one (U u))), (10, ent 71 (.one (U y0))), (9, ent 68 (.one (U y1))), (2, ent 65 (.one (U Yn))), (8, ent 61 (.one (U s)))]
  M _ := []
  out _ := .leaf (.exit 2) [(18, ent 141 (.one (U ((u32 * 4294967296 + u) / (y1 * 4294967296 + y0))))), (17, ent 129 (.one (U u32))), (15, ent 102 (.one (U u0))), (14, ent 90 (.one (U u))), (2, ent 65 (.one (U Yn))), (8, ent 61 (.one (U s)))] []
  fin _ := ()
  next p _ := (p.1 - 1, p.2 + y1)
  J p := AdjOk y1 y0 u32 u p.1 p.2
  μ p := (4294967296 - p.2).toNat
noncomputable def d2_s0 (u : Int) (p : Int × Int) : Int :=
  IntKind.u64.wrap (IntKind.u64.wrap (4294967296 * p.snd) + u)
noncomputable def d2_s1 (p : Int × Int) : Int :=
  IntKind.u64.wrap (p.fst - 1)
noncomputable def d2_s2 (Yn : Int) (u32 : Int) (y1 : Int) (y0 : Int) (u : Int) (u0 : Int) (s : Int) (p : Int × Int) : Int :=
  ((d2F Yn u32 y1 y0 u u0 s).next p 1).fst
noncomputable def d2_s3 (Yn : Int) (u32 : Int) (y1 : Int) (y0 : Int) (u : Int) (u0 : Int) (s : Int) (p : Int × Int) : Int :=
  ((d2F Yn u32 y1 y0 u u0 s).next p 1).snd
noncomputable def d2_needs (Yn : Int) (u32 : Int) (y1 : Int) (y0 : Int) (u : Int) (u0 : Int) (s : Int) (p : Int × Int) : List Prop :=
  [(decide (p.fst ≥ 4294967296) || decide (IntKind.u64.wrap (p.fst * y0) > d2_s0 u p)) = true →
      (decide (IntKind.u64.wrap (p.snd + y1) ≥ 4294967296) = true → (u32 * 4294967296 + u) / (y1 * 4294967296 + y0) = d2_s1 p) ∧
        (decide (IntKind.u64.wrap (p.snd + y1) ≥ 4294967296) = false →
          AdjOk y1 y0 u32 u (d2_s2 Yn u32 y1 y0 u u0 s p) (d2_s3 Yn u32 y1 y0 u u0 s p) ∧
            (d2F Yn u32 y1 y0 u u0 s).μ ((d2F Yn u32 y1 y0 u u0 s).next p 1) < (d2F Yn u32 y1 y0 u u0 s).μ p ∧
              (d2F Yn u32 y1 y0 u u0 s).fin ((d2F Yn u32 y1 y0 u u0 s).next p 1) = (d2F Yn u32 y1 y0 u u0 s).fin p ∧
                d2_s3 Yn u32 y1 y0 u u0 s p = IntKind.u64.wrap (p.snd + y1) ∧ d2_s2 Yn u32 y1 y0 u u0 s p = d2_s1 p),
    (decide (p.fst ≥ 4294967296) || decide (IntKind.u64.wrap (p.fst * y0) > d2_s0 u p)) = false → (u32 * 4294967296 + u) / (y1 * 4294967296 + y0) = p.fst]
theorem d2_round (Yn u32 y1 y0 u u0 s : Int) (p : Int × Int) (hNeeds : ∀ pN ∈ (d2_needs Yn u32 y1 y0 u u0 s p), pN) : RoundOk (roundC (d2F Yn u32 y1 y0 u u0 s) (bodyOf Try.prog (sums K_lz) L_d1 100 1) 140 p) :=
  RoundOk.of (ps := (d2_needs Yn u32 y1 y0 u u0 s p)) (by kernel_rfl) (by kernel_rfl) hNeeds
theorem d2_rounds (Yn u32 y1 y0 u u0 s : Int) : RoundsOk (d2F Yn u32 y1 y0 u u0 s) (bodyOf Try.prog (sums K_lz) L_d1 100 1) 140 := by
  intro p hJ
  have hJ : AdjOk y1 y0 u32 u p.1 p.2 := hJ
  have hf := hJ.fit
  have hq := hJ.ub
  have hr := hJ.hr
  have h1 := hJ.h1
  have hu := hJ.hu
  have q0 := hJ.q0
  have e0 : d2_s0 u p = 4294967296 * p.2 + u := by
    unfold d2_s0
    rw [wrU (x := 4294967296 * p.2) (by omega) (by omega), wrU (by omega) (by omega)]
  have e1 : 1 ≤ p.1 → d2_s1 p = p.1 - 1 := fun h => wrU (by omega) (by omega)
  have e2 : IntKind.u64.wrap (p.1 * y0) = p.1 * y0 := wrU hf.1 hf.2
  have e3 : IntKind.u64.wrap (p.2 + y1) = p.2 + y1 := wrU (by omega) (by omega)
  have hl := quo_lt h1 hJ.h0 hu hJ.hn
  refine d2_round Yn u32 y1 y0 u u0 s p ?_
  unfold d2_needs
  rw [e0, e2, e3]
  refine all2 ?_ ?_
  · intro hc
    rw [Bool.or_eq_true, decide_eq_true_eq, decide_eq_true_eq] at hc
    have hb := big_cond hJ hc
    refine ⟨fun h => ?_, fun h => ?_⟩
    · rw [decide_eq_true_eq] at h
      rw [e1 (by omega)]
      exact (adj_last hJ hc h).symm
    · rw [decide_eq_false_iff_not] at h
      refine ⟨hJ.next hc (by omega), ?_, rfl, rfl, ?_⟩
      · show (4294967296 - (p.2 + y1)).toNat < (4294967296 - p.2).toNat
        omega
      · rw [e1 (by omega)]; rfl
  · intro hc
    rw [Bool.or_eq_false_iff, decide_eq_false_iff_not, decide_eq_false_iff_not] at hc
    exact (small_cond hJ (by omega)).symm
noncomputable def d2L : LoopS := fun env mem m => match eInt env 2, eInt env 17, eInt env 9, eInt env 10, eInt env 14, eInt env 15, eInt env 8, eInt env 18, eInt env 16 with
  | some Yn, some u32, some y1, some y0, some u, some u0, some s, some q, some r => famS (d2F Yn u32 y1 y0 u u0 s) 140 (fun _ _ => some (q, r)) env mem m
  | _, _, _, _, _, _, _, _, _ => none
noncomputable def L_d2 : FuncId → Nat → Option LoopS := addL L_d1 100 24 d2L
theorem known_d2L : Known Try.prog (sums K_lz) L_d2 := by
  refine known_addL 1 known_d1L (by kernel_rfl) (codeOk_of fun env mem m x h => ?_)
  unfold d2L at h
  have hlen : (loopList Try.prog 100).length = 2 := by kernel_rfl
  split at h
  · exact ⟨_, fam_ok (bodyOf_ok plainN known_d1L (by omega)) (d2_rounds _ _ _ _ _ _ _), h⟩
  · cases h
theorem shrE' (x : Int) (k : Nat) (h : 0 ≤ x) (hk : k ≤ 64) : ishift .shr .u64 x (k : Int) = x / 2 ^ k := by
  have e : min ((k : Int)).toNat IntKind.u64.bits = k := by
    have : IntKind.u64.bits = 64 := rfl
    rw [this, Int.toNat_natCast]
    omega
  unfold ishift
  simp only [e]
  exact Int.fdiv_eq_ediv_of_nonneg _ (Int.le_of_lt (two_pos k))
theorem shlE (x : Int) (k : Nat) (hk : k ≤ 64) : ishift .shl .u64 x (k : Int) = (x * 2 ^ k) % 18446744073709551616 := by
  have e : min ((k : Int)).toNat IntKind.u64.bits = k := by
    have : IntKind.u64.bits = 64 := rfl
    rw [this, Int.toNat_natCast]
    omega
  unfold ishift
  simp only [e]
  exact wrU_mod _
theorem orE {x y : Int} {s : Nat} {m : Int} (hm : 0 ≤ m) (e : x = 2 ^ s * m) (hy : 0 ≤ y ∧ y < 2 ^ s) (h : x + y < 18446744073709551616) : ibits .or .u64 x y = x + y := by
  obtain ⟨n, rfl⟩ := Int.eq_ofNat_of_zero_le hm
  obtain ⟨z, rfl⟩ := Int.eq_ofNat_of_zero_le hy.1
  have er : x = ((2 ^ s * n : Nat) : Int) := by rw [e]; push_cast; rfl
  have hz : z < 2 ^ s := by
    have : ((z : Nat) : Int) < ((2 ^ s : Nat) : Int) := by push_cast; exact hy.2
    exact_mod_cast this
  have hor := Nat.two_pow_add_eq_or_of_lt hz n
  rw [er] at h ⊢
  generalize hq : 2 ^ s * n = q at *
  have b1 : q < 2 ^ 64 := by omega
  have b2 : z < 2 ^ 64 := by omega
  have e1 : (BitVec.ofInt 64 (q : Int)).toNat = q := by simp [BitVec.toNat_ofInt]; omega
  have e2 : (BitVec.ofInt 64 (z : Int)).toNat = z := by simp [BitVec.toNat_ofInt]; omega
  have e3 : (BitVec.ofInt 64 (q : Int) ||| BitVec.ofInt 64 (z : Int)).toNat = q + z := by rw [BitVec.toNat_or, e1, e2, hor]
  show IntKind.u64.wrap ((BitVec.ofInt 64 (q : Int) ||| BitVec.ofInt 64 (z : Int)).toNat : Int) = _
  rw [e3, wrU (by omega) (by omega)]
  push_cast; rfl
/-- The divisor, shifted until its highest bit is set. -/
theorem norm_c {c : Int} (h0 : 0 < c) (h1 : c < 18446744073709551616) : ∃ s : Nat, s ≤ 63 ∧ IntKind.u64.wrap (lz_0 c) = s ∧ 9223372036854775808 ≤ c * 2 ^ s ∧ c * 2 ^ s < 18446744073709551616 ∧ ishift .shl .u64 c (IntKind.u64.wrap (lz_0 c)) = c * 2 ^ s := by
  obtain ⟨l, e, l1, l2, p1, p2⟩ := len64_law h0 h1
  have es : IntKind.u64.wrap (lz_0 c) = ((64 - l : Nat) : Int) := by
    unfold lz_0
    rw [e, wrI (by omega) (by omega), wrU (by omega) (by omega)]
    omega
  have hp := two_pos (64 - l)
  have q1 : (2 : Int) ^ (l - 1) * 2 ^ (64 - l) = 9223372036854775808 := by
    rw [← Int.pow_add, show l - 1 + (64 - l) = 63 by omega]; rfl
  have q2 : (2 : Int) ^ l * 2 ^ (64 - l) = 18446744073709551616 := by
    rw [← Int.pow_add, show l + (64 - l) = 64 by omega]; rfl
  have g1 := Int.mul_le_mul_of_nonneg_right p1 (Int.le_of_lt hp)
  have g2 := Int.mul_lt_mul_of_pos_right p2 hp
  refine ⟨64 - l, by omega, es, by omega, by omega, ?_⟩
  rw [es, shlE _ _ (by omega)]
  exact Int.emod_eq_of_lt (by omega) (by omega)
/-- The number's three parts. -/
theorem norm_ab {a b c : Int} {s : Nat} (ha : 0 ≤ a) (hac : a < c) (hb : 0 ≤ b) (hb' : b < 18446744073709551616) (hs : s ≤ 63) (hc : c * 2 ^ s < 18446744073709551616) :
    ibits .or .u64 (ishift .shl .u64 a (s : Int)) (ishift .shr .u64 b (IntKind.u64.wrap (64 - (s : Int)))) = a * 2 ^ s + b / 2 ^ (64 - s) ∧ 0 ≤ a * 2 ^ s + b / 2 ^ (64 - s) ∧ a * 2 ^ s + b / 2 ^ (64 - s) < c * 2 ^ s ∧
    (a * 2 ^ s + b / 2 ^ (64 - s)) * 18446744073709551616 + (b * 2 ^ s) % 18446744073709551616 = (a * 18446744073709551616 + b) * 2 ^ s := by
  have hp := two_pos s
  have hq := two_pos (64 - s)
  have e64 : (2 : Int) ^ (64 - s) * 2 ^ s = 18446744073709551616 := by rw [← Int.pow_add, show 64 - s + s = 64 by omega]; rfl
  have ew : IntKind.u64.wrap (64 - (s : Int)) = ((64 - s : Nat) : Int) := by rw [wrU (by omega) (by omega)]; omega
  have g1 := Int.mul_le_mul_of_nonneg_right (show a + 1 ≤ c by omega) (Int.le_of_lt hp)
  have g2 : (a + 1) * 2 ^ s = a * 2 ^ s + 2 ^ s := by rw [Int.add_mul, Int.one_mul]
  have g3 := Int.mul_nonneg ha (Int.le_of_lt hp)
  have hr : 0 ≤ b / 2 ^ (64 - s) ∧ b / 2 ^ (64 - s) < 2 ^ s := by
    refine ⟨Int.ediv_nonneg hb (Int.le_of_lt hq), Int.ediv_lt_of_lt_mul hq ?_⟩
    rw [Int.mul_comm, e64]; exact hb'
  have ed : b / 2 ^ (64 - s) = (b * 2 ^ s) / 18446744073709551616 := by
    rw [← e64, Int.mul_ediv_mul_of_pos_left _ _ hp]
  have dm := Int.mul_ediv_add_emod (b * 2 ^ s) 18446744073709551616
  refine ⟨?_, by omega, by omega, ?_⟩
  · rw [ew, shlE _ _ (by omega), shrE' _ _ hb (by omega), Int.emod_eq_of_lt (by omega) (by omega)]
    exact orE ha (Int.mul_comm _ _) hr (by omega)
  · rw [ed]
    have e5 : (a * 18446744073709551616 + b) * 2 ^ s = a * 2 ^ s * 18446744073709551616 + b * 2 ^ s := by grind
    rw [e5, Int.add_mul]
    omega
theorem sub3 (x u z : Int) : IntKind.u64.wrap (IntKind.u64.wrap (IntKind.u64.wrap x + u) - IntKind.u64.wrap z) = (x + u - z) % 18446744073709551616 := by
  rw [wrU_mod, wrU_mod, wrU_mod, wrU_mod]
  omega
/-- All that stands in the division. -/
structure DivParts (a b c : Int) : Prop where
  ex : ∃ (s : Nat) (Y u32 u1 u0 q1 r1 q0 : Int), s ≤ 63 ∧ IntKind.u64.wrap (lz_0 c) = (s : Int) ∧ ishift .shl .u64 c (IntKind.u64.wrap (lz_0 c)) = Y ∧ Y = c * 2 ^ s ∧ 9223372036854775808 ≤ Y ∧ Y < 18446744073709551616 ∧
    ishift .shr .u64 Y 32 = Y / 4294967296 ∧ ibits .and .u64 Y 4294967295 = Y % 4294967296 ∧
    ibits .or .u64 (ishift .shl .u64 a (IntKind.u64.wrap (lz_0 c))) (ishift .shr .u64 b (IntKind.u64.wrap (64 - IntKind.u64.wrap (lz_0 c)))) = u32 ∧ 0 ≤ u32 ∧ u32 < Y ∧
    ishift .shr .u64 (ishift .shl .u64 b (IntKind.u64.wrap (lz_0 c))) 32 = u1 ∧ ibits .and .u64 (ishift .shl .u64 b (IntKind.u64.wrap (lz_0 c))) 4294967295 = u0 ∧ 0 ≤ u1 ∧ u1 < 4294967296 ∧ 0 ≤ u0 ∧ u0 < 4294967296 ∧
    (u32 * 4294967296 + u1) * 4294967296 + u0 = (a * 18446744073709551616 + b) * 2 ^ s ∧
    q1 = (u32 * 4294967296 + u1) / Y ∧ r1 = u32 * 4294967296 + u1 - q1 * Y ∧ q0 = (r1 * 4294967296 + u0) / Y ∧ 0 ≤ r1 ∧ r1 < Y
theorem div_parts {a b c : Int} (ha : 0 ≤ a) (hac : a < c) (hb : 0 ≤ b) (hb' : b < 18446744073709551616) (hc : c < 18446744073709551616) : DivParts a b c := by
  obtain ⟨s, s63, es, y1, y2, ey⟩ := norm_c (c := c) (by omega) hc
  obtain ⟨n1, n2, n3, n4⟩ := norm_ab ha hac hb hb' s63 y2
  have eb : ishift .shl .u64 b (s : Int) = (b * 2 ^ s) % 18446744073709551616 := shlE _ _ (by omega)
  have m1 := Int.emod_nonneg (b * 2 ^ s) (show (18446744073709551616 : Int) ≠ 0 by omega)
  have m2 := Int.emod_lt_of_pos (b * 2 ^ s) (show (0 : Int) < 18446744073709551616 by omega)
  have hd := two_digits (Y := c * 2 ^ s) (u32 := a * 2 ^ s + b / 2 ^ (64 - s)) (u1 := (b * 2 ^ s) % 18446744073709551616 / 4294967296) (u0 := (b * 2 ^ s) % 18446744073709551616 % 4294967296) (by omega) n2 (by omega) (by omega) rfl rfl rfl
  refine ⟨s, c * 2 ^ s, a * 2 ^ s + b / 2 ^ (64 - s), (b * 2 ^ s) % 18446744073709551616 / 4294967296, (b * 2 ^ s) % 18446744073709551616 % 4294967296, _, _, _, s63, es, ey, rfl, y1, y2, shr32 _ (by omega), and32 _ (by omega) y2, ?_, n2, n3, ?_, ?_, by omega, by omega, by omega, by omega, ?_, rfl, rfl, rfl, hd.2.2.1, hd.2.2.2⟩
  · rw [es]; exact n1
  · rw [es, eb, shr32 _ m1]
  · rw [es, eb, and32 _ m1 m2]
  · rw [← n4]
    generalize (b * 2 ^ s) % 18446744073709551616 = z at *
    generalize a * 2 ^ s + b / 2 ^ (64 - s) = w at *
    omega
noncomputable def div64_tpl : Tpl := ⟨[.one (.int .u64), .one (.int .u64), .one (.int .u64)], [], 0⟩
noncomputable def div64_s0 (a : Int) (b : Int) (c : Int) : Int :=
  ibits BinOp.or IntKind.u64 (ishift BinOp.shl IntKind.u64 a (IntKind.u64.wrap (lz_0 c))) (ishift BinOp.shr IntKind.u64 b (IntKind.u64.wrap (64 - IntKind.u64.wrap (lz_0 c)))) * 4294967296
noncomputable def div64_s1 (c : Int) : Int :=
  ishift BinOp.shr IntKind.u64 (ishift BinOp.shl IntKind.u64 c (IntKind.u64.wrap (lz_0 c))) 32 * 4294967296 +
    ibits BinOp.and IntKind.u64 (ishift BinOp.shl IntKind.u64 c (IntKind.u64.wrap (lz_0 c))) 4294967295
noncomputable def div64_0 (a : Int) (b : Int) (c : Int) : Int :=
  bif a == 0 then IntKind.u64.wrap (b.tdiv c)
  else
    IntKind.u64.wrap
      (IntKind.u64.wrap ((div64_s0 a b c + ishift BinOp.shr IntKind.u64 (ishift BinOp.shl IntKind.u64 b (IntKind.u64.wrap (lz_0 c))) 32) / div64_s1 c * 4294967296) +
        (IntKind.u64.wrap
                (IntKind.u64.wrap (IntKind.u64.wrap (div64_s0 a b c) + ishift BinOp.shr IntKind.u64 (ishift BinOp.shl IntKind.u64 b (IntKind.u64.wrap (lz_0 c))) 32) -
                  IntKind.u64.wrap
                    ((div64_s0 a b c + ishift BinOp.shr IntKind.u64 (ishift BinOp.shl IntKind.u64 b (IntKind.u64.wrap (lz_0 c))) 32) / div64_s1 c *
                      ishift BinOp.shl IntKind.u64 c (IntKind.u64.wrap (lz_0 c)))) *
              4294967296 +
            ibits BinOp.and IntKind.u64 (ishift BinOp.shl IntKind.u64 b (IntKind.u64.wrap (lz_0 c))) 4294967295) /
          div64_s1 c)
noncomputable def div64_s2 (a : Int) (b : Int) (c : Int) : Int :=
  IntKind.u64.wrap
      (IntKind.u64.wrap (IntKind.u64.wrap (div64_s0 a b c) + ishift BinOp.shr IntKind.u64 (ishift BinOp.shl IntKind.u64 b (IntKind.u64.wrap (lz_0 c))) 32) -
        IntKind.u64.wrap
          ((div64_s0 a b c + ishift BinOp.shr IntKind.u64 (ishift BinOp.shl IntKind.u64 b (IntKind.u64.wrap (lz_0 c))) 32) / div64_s1 c * ishift BinOp.shl IntKind.u64 c (IntKind.u64.wrap (lz_0 c)))) *
    4294967296
noncomputable def div64_1 (a : Int) (b : Int) (c : Int) : Int :=
  bif a == 0 then b.tmod c
  else
    ishift BinOp.shr IntKind.u64
      (IntKind.u64.wrap
        (IntKind.u64.wrap (IntKind.u64.wrap (div64_s2 a b c) + ibits BinOp.and IntKind.u64 (ishift BinOp.shl IntKind.u64 b (IntKind.u64.wrap (lz_0 c))) 4294967295) -
          IntKind.u64.wrap
            ((div64_s2 a b c + ibits BinOp.and IntKind.u64 (ishift BinOp.shl IntKind.u64 b (IntKind.u64.wrap (lz_0 c))) 4294967295) / div64_s1 c *
              ishift BinOp.shl IntKind.u64 c (IntKind.u64.wrap (lz_0 c)))))
      (IntKind.u64.wrap (lz_0 c))
noncomputable def div64_s3 (c : Int) : Int :=
  IntKind.u64.wrap (64 - IntKind.u64.wrap (lz_0 c))
noncomputable def div64_s4 (a : Int) (b : Int) (c : Int) : Int :=
  IntKind.u64.wrap
    ((ibits BinOp.or IntKind.u64 (ishift BinOp.shl IntKind.u64 a (IntKind.u64.wrap (lz_0 c))) (ishift BinOp.shr IntKind.u64 b (div64_s3 c))).tdiv
      (ishift BinOp.shr IntKind.u64 (ishift BinOp.shl IntKind.u64 c (IntKind.u64.wrap (lz_0 c))) 32))
noncomputable def div64_s5 (a : Int) (b : Int) (c : Int) : Int :=
  IntKind.u64.wrap
    (ibits BinOp.or IntKind.u64 (ishift BinOp.shl IntKind.u64 a (IntKind.u64.wrap (lz_0 c))) (ishift BinOp.shr IntKind.u64 b (div64_s3 c)) -
      IntKind.u64.wrap (div64_s4 a b c * ishift BinOp.shr IntKind.u64 (ishift BinOp.shl IntKind.u64 c (IntKind.u64.wrap (lz_0 c))) 32))
noncomputable def div64_s6 (a : Int) (b : Int) (c : Int) : Int :=
  ibits BinOp.or IntKind.u64 (ishift BinOp.shl IntKind.u64 a (IntKind.u64.wrap (lz_0 c))) (ishift BinOp.shr IntKind.u64 b (div64_s3 c)) * 4294967296
noncomputable def div64_s7 (a : Int) (b : Int) (c : Int) : Int :=
  IntKind.u64.wrap
    (IntKind.u64.wrap (IntKind.u64.wrap (div64_s6 a b c) + ishift BinOp.shr IntKind.u64 (ishift BinOp.shl IntKind.u64 b (IntKind.u64.wrap (lz_0 c))) 32) -
      IntKind.u64.wrap
        ((div64_s6 a b c + ishift BinOp.shr IntKind.u64 (ishift BinOp.shl IntKind.u64 b (IntKind.u64.wrap (lz_0 c))) 32) /
            (ishift BinOp.shr IntKind.u64 (ishift BinOp.shl IntKind.u64 c (IntKind.u64.wrap (lz_0 c))) 32 * 4294967296 +
              ibits BinOp.and IntKind.u64 (ishift BinOp.shl IntKind.u64 c (IntKind.u64.wrap (lz_0 c))) 4294967295) *
          ishift BinOp.shl IntKind.u64 c (IntKind.u64.wrap (lz_0 c))))
noncomputable def div64_s8 (a : Int) (b : Int) (c : Int) : Int :=
  IntKind.u64.wrap ((div64_s7 a b c).tdiv (ishift BinOp.shr IntKind.u64 (ishift BinOp.shl IntKind.u64 c (IntKind.u64.wrap (lz_0 c))) 32))
noncomputable def div64_s9 (a : Int) (b : Int) (c : Int) : Int :=
  IntKind.u64.wrap (div64_s7 a b c - IntKind.u64.wrap (div64_s8 a b c * ishift BinOp.shr IntKind.u64 (ishift BinOp.shl IntKind.u64 c (IntKind.u64.wrap (lz_0 c))) 32))
noncomputable def div64_needs (a : Int) (b : Int) (c : Int) : List Prop :=
  [(c == 0) = false, decide (c ≤ a) = false, (a == 0) = true → c ≠ 0 ∧ c ≠ 0,
    (a == 0) = false →
      0 ≤ c ∧
        c < 18446744073709551616 ∧
          0 ≤ IntKind.u64.wrap (lz_0 c) ∧
            0 ≤ IntKind.u64.wrap (lz_0 c) ∧
              0 ≤ div64_s3 c ∧
                0 ≤ IntKind.u64.wrap (lz_0 c) ∧
                  ishift BinOp.shr IntKind.u64 (ishift BinOp.shl IntKind.u64 c (IntKind.u64.wrap (lz_0 c))) 32 ≠ 0 ∧
                    AdjOk (ishift BinOp.shr IntKind.u64 (ishift BinOp.shl IntKind.u64 c (IntKind.u64.wrap (lz_0 c))) 32)
                        (ibits BinOp.and IntKind.u64 (ishift BinOp.shl IntKind.u64 c (IntKind.u64.wrap (lz_0 c))) 4294967295)
                        (ibits BinOp.or IntKind.u64 (ishift BinOp.shl IntKind.u64 a (IntKind.u64.wrap (lz_0 c))) (ishift BinOp.shr IntKind.u64 b (div64_s3 c)))
                        (ishift BinOp.shr IntKind.u64 (ishift BinOp.shl IntKind.u64 b (IntKind.u64.wrap (lz_0 c))) 32) (div64_s4 a b c, div64_s5 a b c).fst (div64_s4 a b c, div64_s5 a b c).snd ∧
                      (div64_s4 a b c, div64_s5 a b c).snd = div64_s5 a b c ∧
                        (div64_s4 a b c, div64_s5 a b c).fst = div64_s4 a b c ∧
                          ishift BinOp.shr IntKind.u64 (ishift BinOp.shl IntKind.u64 c (IntKind.u64.wrap (lz_0 c))) 32 ≠ 0 ∧
                            AdjOk (ishift BinOp.shr IntKind.u64 (ishift BinOp.shl IntKind.u64 c (IntKind.u64.wrap (lz_0 c))) 32)
                                (ibits BinOp.and IntKind.u64 (ishift BinOp.shl IntKind.u64 c (IntKind.u64.wrap (lz_0 c))) 4294967295) (div64_s7 a b c)
                                (ibits BinOp.and IntKind.u64 (ishift BinOp.shl IntKind.u64 b (IntKind.u64.wrap (lz_0 c))) 4294967295) (div64_s8 a b c, div64_s9 a b c).fst
                                (div64_s8 a b c, div64_s9 a b c).snd ∧
                              (div64_s8 a b c, div64_s9 a b c).snd = div64_s9 a b c ∧ (div64_s8 a b c, div64_s9 a b c).fst = div64_s8 a b c ∧ 0 ≤ IntKind.u64.wrap (lz_0 c)]
theorem div64_weak {a : Int} {b : Int} {c : Int} (hW : ∀ q ∈ ([0 ≤ a, a < c, 0 ≤ b, b < 18446744073709551616, c < 18446744073709551616] : List Prop), q) : ∀ q ∈ (div64_needs a b c), q := by
  simp only [List.mem_cons, List.not_mem_nil, or_false, forall_eq_or_imp, forall_eq] at hW
  unfold div64_needs
  simp only [List.forall_mem_cons, List.not_mem_nil, false_implies, implies_true, and_true]
  obtain ⟨ha, hac, hb, hb', hc⟩ := hW
  refine ⟨by simp; omega, by simp; omega, fun _ => ⟨by omega, by omega⟩, fun _ => ?_⟩
  obtain ⟨s, Y, u32, u1, u0, q1, r1, q0, s63, es, ey, eY, y1, y2, ey1, ey0, eu, v0, v1, e1, e0, p1, p2, p3, p4, en, eq1, er1, eq0, t0, t1⟩ := (div_parts ha hac hb hb' hc).ex
  have ew : 0 ≤ IntKind.u64.wrap (lz_0 c) := by rw [es]; omega
  have ew3 : 0 ≤ div64_s3 c := by unfold div64_s3; rw [es, wrU (by omega) (by omega)]; omega
  have hy1 : 2147483648 ≤ Y / 4294967296 ∧ Y / 4294967296 < 4294967296 := by omega
  have hy0 : 0 ≤ Y % 4294967296 ∧ Y % 4294967296 < 4294967296 := by omega
  have hYY : Y / 4294967296 * 4294967296 + Y % 4294967296 = Y := by omega
  have first : ∀ {x u : Int}, 0 ≤ x → x < Y → 0 ≤ u → u < 4294967296 → AdjOk (Y / 4294967296) (Y % 4294967296) x u (IntKind.u64.wrap (x.tdiv (Y / 4294967296))) (IntKind.u64.wrap (x - IntKind.u64.wrap (IntKind.u64.wrap (x.tdiv (Y / 4294967296)) * (Y / 4294967296)))) := fun {x u} g1 g2 g3 g4 => by
    have A := adj_first (y1 := Y / 4294967296) (y0 := Y % 4294967296) (u32 := x) (u := u) hy1 hy0 ⟨g3, g4⟩ (by omega)
    have hd := Int.mul_ediv_add_emod x (Y / 4294967296)
    have hm1 := Int.emod_nonneg x (show Y / 4294967296 ≠ 0 by omega)
    have hm2 := Int.emod_lt_of_pos x (show 0 < Y / 4294967296 by omega)
    have hcm : Y / 4294967296 * (x / (Y / 4294967296)) = x / (Y / 4294967296) * (Y / 4294967296) := Int.mul_comm _ _
    rw [hcm] at hd
    have ub := A.ub
    have q0 := A.q0
    have qn := Int.mul_nonneg q0 (show 0 ≤ Y / 4294967296 by omega)
    have e1 : IntKind.u64.wrap (x.tdiv (Y / 4294967296)) = x / (Y / 4294967296) := by
      rw [Int.tdiv_eq_ediv_of_nonneg g1, wrU q0 (by omega)]
    rw [e1, wrU (x := x / (Y / 4294967296) * (Y / 4294967296)) (by omega) (by omega), wrU (by omega) (by omega)]
    exact A
  have e4 : div64_s4 a b c = IntKind.u64.wrap (u32.tdiv (Y / 4294967296)) := by unfold div64_s4 div64_s3; rw [eu, ey, ey1]
  have e5 : div64_s5 a b c = IntKind.u64.wrap (u32 - IntKind.u64.wrap (IntKind.u64.wrap (u32.tdiv (Y / 4294967296)) * (Y / 4294967296))) := by unfold div64_s5; rw [e4]; unfold div64_s3; rw [eu, ey, ey1]
  have e7 : div64_s7 a b c = r1 := by
    unfold div64_s7 div64_s6 div64_s3
    rw [eu, ey, ey1, ey0, e1, hYY, sub3, ← eq1, ← er1]
    exact Int.emod_eq_of_lt t0 (by omega)
  have e8 : div64_s8 a b c = IntKind.u64.wrap (r1.tdiv (Y / 4294967296)) := by unfold div64_s8; rw [e7, ey, ey1]
  have e9 : div64_s9 a b c = IntKind.u64.wrap (r1 - IntKind.u64.wrap (IntKind.u64.wrap (r1.tdiv (Y / 4294967296)) * (Y / 4294967296))) := by unfold div64_s9; rw [e7, e8, ey, ey1]
  rw [e4, e5, e7, e8, e9]
  unfold div64_s3 at ew3 ⊢
  rw [eu, ey, ey1, ey0, e1, e0]
  exact ⟨by omega, by omega, ew, ew, ew3, ew, by omega, first v0 v1 p1 p2, trivial, trivial, by omega, first t0 t1 p3 p4, trivial, trivial, ew⟩
set_option maxRecDepth 1000000 in
theorem div64_runs (a b c : Int) (hNeeds : ∀ pN ∈ (div64_needs a b c), pN) : Runs (runF (sums K_lz) L_d2 100) (div64_tpl.args [.i a, .i b, .i c]) (div64_tpl.memo [.i a, .i b, .i c] []) div64_tpl.n (SV.tup [(false, [SC.int IntKind.u64 (SI.v (div64_0 a b c))]), (false, [SC.int IntKind.u64 (SI.v (div64_1 a b c))])])
    ([]) :=
  Runs.of1 (ps := (div64_needs a b c)) (by kernel_rfl) hNeeds
noncomputable def div64_out : List Pm → Lss → Option CRes
  | [.i a, .i b, .i c], [] => some ⟨SV.tup [(false, [SC.int IntKind.u64 (SI.v (div64_0 a b c))]), (false, [SC.int IntKind.u64 (SI.v (div64_1 a b c))])],
    [],
    [0 ≤ a, a < c, 0 ≤ b, b < 18446744073709551616, c < 18446744073709551616], [], 176⟩
  | _, _ => none
theorem div64_ok : FOk Try.prog 100 (tplS div64_tpl div64_out) := by
  refine tplS_ok (runF_ok known_d2L 100) fun ps ls r hr hn _ => ?_
  unfold div64_out at hr
  split at hr
  · cases hr; exact ⟨_, div64_runs _ _ _ (div64_weak (by exact hn)), fun _ => rfl⟩
  · cases hr
noncomputable def K_div64 : List (Nat × Summ) := (100, tplS div64_tpl div64_out) :: K_lz
theorem known_div64 : Known Try.prog (sums K_div64) L_d2 := known_cons known_d2L div64_ok
/-- THE DIVISION. -/
theorem div64_law {a b c : Int} (ha : 0 ≤ a) (hac : a < c) (hb : 0 ≤ b) (hb' : b < 18446744073709551616) (hc : c < 18446744073709551616) :
    div64_0 a b c = (a * 18446744073709551616 + b) / c ∧ div64_1 a b c = (a * 18446744073709551616 + b) % c := by
  unfold div64_0 div64_1
  by_cases h : a = 0
  · subst h
    rw [show ((0 : Int) == 0) = true from rfl, cond_true, cond_true, Int.tdiv_eq_ediv_of_nonneg hb, Int.tmod_eq_emod_of_nonneg hb, Int.zero_mul, Int.zero_add]
    refine ⟨wrU (Int.ediv_nonneg hb (by omega)) ?_, rfl⟩
    have := Int.ediv_le_self c hb
    omega
  · rw [show (a == 0) = false by simpa using h, cond_false, cond_false]
    obtain ⟨s, Y, u32, u1, u0, q1, r1, q0, s63, es, ey, eY, y1, y2, ey1, ey0, eu, v0, v1, e1, e0, p1, p2, p3, p4, en, eq1, er1, eq0, t0, t1⟩ := (div_parts ha hac hb hb' hc).ex
    have hYY : Y / 4294967296 * 4294967296 + Y % 4294967296 = Y := by omega
    have hd := two_digits (Y := Y) (by omega) v0 ⟨p1, p2⟩ ⟨p3, p4⟩ eq1 er1 eq0
    have es1 : div64_s1 c = Y := by unfold div64_s1; rw [ey, ey1, ey0, hYY]
    have es0 : div64_s0 a b c = u32 * 4294967296 := by unfold div64_s0; rw [eu]
    have er : IntKind.u64.wrap (IntKind.u64.wrap (IntKind.u64.wrap (u32 * 4294967296) + u1) - IntKind.u64.wrap (q1 * Y)) = r1 := by
      rw [sub3, ← er1]; exact Int.emod_eq_of_lt t0 (by omega)
    have es2 : div64_s2 a b c = r1 * 4294967296 := by
      unfold div64_s2
      rw [es0, es1, e1, ey, ← eq1, er]
    have l1 := quo_lt (y1 := Y / 4294967296) (y0 := Y % 4294967296) (u32 := u32) (u := u1) (by omega) (by omega) (by omega) (by omega)
    have l0 := quo_lt (y1 := Y / 4294967296) (y0 := Y % 4294967296) (u32 := r1) (u := u0) (by omega) (by omega) (by omega) (by omega)
    rw [hYY, ← eq1] at l1
    rw [hYY, ← eq0] at l0
    have hp := two_pos s
    have m3 := Int.emod_nonneg ((u32 * 4294967296 + u1) * 4294967296 + u0) (show Y ≠ 0 by omega)
    have m4 := Int.emod_lt_of_pos ((u32 * 4294967296 + u1) * 4294967296 + u0) (show 0 < Y by omega)
    rw [← hd.2.1] at m3 m4
    constructor
    · rw [es0, es1, e1, e0, ey, ← eq1, er, ← eq0, wrU (x := q1 * 4294967296) (by omega) (by omega), wrU (by omega) (by omega), hd.1, en, eY, Int.mul_ediv_mul_of_pos_left _ _ hp]
    · rw [es2, es1, e0, ey, ← eq0, sub3, Int.emod_eq_of_lt m3 (by omega), es, shrE' _ _ m3 (by omega), hd.2.1, en, eY, Int.mul_comm _ (2 ^ s), Int.mul_comm c, Int.mul_emod_mul_of_pos _ _ hp, Int.mul_ediv_cancel_left _ (by omega)]
end Go.Proofs.Ytmbfbhimdkjkoaa
namespace Go.Proofs.Ytmbfbhimdkjkoaa
open Go.SX Go.RowKit
theorem wrap_isI (x : Int) : isI (IntKind.i64.wrap x) := by
  unfold IntKind.wrap isI
  simp only [IntKind.bits, IntKind.signed]
  simp
  omega
theorem mod_rng (a b : Int) (h : 1 ≤ b) (hb : b ≤ 4611686018427387904) : 0 ≤ mod_0 a b ∧ mod_0 a b < b := by
  unfold mod_0
  have h1 := Int.tmod_lt_of_pos a (b := b) (by omega)
  have h2 : -b < a.tmod b := by
    have := Int.tmod_lt_of_pos (-a) (b := b) (by omega)
    rw [Int.neg_tmod] at this
    omega
  by_cases h3 : a.tmod b < 0
  · simp only [h3, decide_true, cond_true]
    rw [wrI (by omega) (by omega)]
    omega
  · simp only [h3, decide_false, cond_false]
    omega
abbrev bd (m x : Int) : Prop := -m ≤ x ∧ x ≤ m
theorem minus_eq {a c : Int} (ha : bd 1000000000 a) (hc : bd 1000000000 c) : minus_0 a c = a - c := by unfold minus_0; rw [wrI (by omega) (by omega)]
theorem cmpI_cases (x y : Int) : (x < y ∧ cmpI x y = -1) ∨ (x = y ∧ cmpI x y = 0) ∨ (y < x ∧ cmpI x y = 1) := by
  unfold cmpI
  by_cases h : x < y
  · exact .inl ⟨h, if_pos h⟩
  · by_cases h2 : x = y
    · exact .inr (.inl ⟨h2, by rw [if_neg h, if_pos h2]⟩)
    · exact .inr (.inr ⟨by omega, by rw [if_neg h, if_neg h2]⟩)
theorem cmpI_le (x y : Int) : decide (cmpI x y ≤ 0) = decide (x ≤ y) := by
  rcases cmpI_cases x y with ⟨h1, h2⟩ | ⟨h1, h2⟩ | ⟨h1, h2⟩ <;> rw [h2] <;> simp <;> omega
end Go.Proofs.Ytmbfbhimdkjkoaa
namespace Go.Proofs.Ytmbfbhimdkjkoaa
open Go.SX Go.RowKit
abbrev u64 (x : Int) : Prop := 0 ≤ x ∧ x < 18446744073709551616
/-- The next bit, from the highest one on; 0 behind the last one. -/
noncomputable def bitO (j : Nat) : Int := bif decide (j < 64) then 2 ^ (63 - j) else 0
noncomputable def flF (a b : Int) : Fam Nat Unit where
  k := 20
  E j := [(4, ent 1000000000 (.one (U (bitO j)))), (3, ent 1000000001 (.one (U (fr 64 (a * 18446744073709551616 + b) j)))), (1, ent 3 (.one (.ptr 0 0)))]
  M j := [(0, .blk 118 [(1, U a), (2, U b)])]
  out _ := .leaf (.exit 0) [(3, ent 8 (.one (U (fr 64 (a * 18446744073709551616 + b) 64))))] []
  fin _ := ()
  next j _ := j + 1
  J j := j ≤ 64 ∧ u64 a ∧ u64 b
  μ j := 64 - j
theorem bitO_lt {j : Nat} (h : j < 64) : bitO j = 2 ^ (64 - 1 - j) := by unfold bitO; rw [decide_eq_true h, cond_true]
theorem bitO_next {j : Nat} (h : j < 64) : ishift .shr .u64 (bitO j) 1 = bitO (j + 1) := by
  have hp := two_pos (63 - j)
  have e : (2 : Int) ^ min (1 : Int).toNat IntKind.u64.bits = 2 := by decide
  have e2 : ishift .shr .u64 (bitO j) 1 = bitO j / 2 := by
    unfold ishift
    simp only [e]
    exact Int.fdiv_eq_ediv_of_nonneg _ (by omega)
  rw [e2]
  unfold bitO
  rw [decide_eq_true h, cond_true]
  by_cases h1 : j + 1 < 64
  · rw [decide_eq_true h1, cond_true, show 63 - j = (63 - (j + 1)) + 1 by omega, two_succ]
    omega
  · rw [decide_eq_false h1, cond_false, show 63 - j = 0 by omega]
    rfl
theorem big_lt : (2 : Int) ^ 64 * 2 ^ 64 = 340282366920938463463374607431768211456 := rfl
noncomputable def fl_s0 (a : Int) (b : Int) (j : Nat) : Int :=
  fr 64 (a * 18446744073709551616 + b) j
noncomputable def fl_s1 (a : Int) (b : Int) (j : Nat) : Int :=
  wcomp_0 (mul64_0 (ibits BinOp.or IntKind.u64 (fl_s0 a b j) (bitO j)) (ibits BinOp.or IntKind.u64 (fl_s0 a b j) (bitO j)))
    (mul64_1 (ibits BinOp.or IntKind.u64 (fl_s0 a b j) (bitO j)) (ibits BinOp.or IntKind.u64 (fl_s0 a b j) (bitO j))) a b
noncomputable def fl_needs (a : Int) (b : Int) (j : Nat) : List Prop :=
  [decide (bitO j > 0) = true →
      ((flF a b).next j 0 ≤ 64 ∧ (0 ≤ a ∧ a < 18446744073709551616) ∧ 0 ≤ b ∧ b < 18446744073709551616) ∧
        (flF a b).μ ((flF a b).next j 0) < (flF a b).μ j ∧
          (flF a b).fin ((flF a b).next j 0) = (flF a b).fin j ∧
            bitO ((flF a b).next j 0) = ishift BinOp.shr IntKind.u64 (bitO j) 1 ∧
              fr 64 (a * 18446744073709551616 + b) ((flF a b).next j 0) = bif decide (fl_s1 a b j ≤ 0) then ibits BinOp.or IntKind.u64 (fl_s0 a b j) (bitO j) else fl_s0 a b j,
    decide (bitO j > 0) = false → fr 64 (a * 18446744073709551616 + b) 64 = fl_s0 a b j]
theorem fl_round (a b : Int) (j : Nat) (hNeeds : ∀ pN ∈ (fl_needs a b j), pN) : RoundOk (roundC (flF a b) (bodyOf Try.prog (sums K_div64) L_d2 89 0) 7 j) :=
  RoundOk.of (ps := (fl_needs a b j)) (by kernel_rfl) (by kernel_rfl) hNeeds
theorem fl_rounds (a b : Int) : RoundsOk (flF a b) (bodyOf Try.prog (sums K_div64) L_d2 89 0) 7 := by
  intro j hJ
  obtain ⟨h1, ha, hb⟩ : j ≤ 64 ∧ u64 a ∧ u64 b := hJ
  have hx0 : 0 ≤ a * 18446744073709551616 + b := by omega
  have hx1 : a * 18446744073709551616 + b < 2 ^ 64 * 2 ^ 64 := by rw [big_lt]; omega
  have ex1 : (a * 18446744073709551616 + b) / 18446744073709551616 = a := by omega
  have ex2 : (a * 18446744073709551616 + b) % 18446744073709551616 = b := by omega
  refine fl_round a b j ?_
  unfold fl_needs
  refine all2 ?_ ?_
  · intro h
    have hj : j < 64 := by
      rcases Nat.lt_or_ge j 64 with g | g
      · exact g
      · unfold bitO at h
        rw [decide_eq_false (show ¬ j < 64 by omega)] at h
        simp at h
    obtain ⟨o1, o2, o3⟩ := fr_or hx0 hx1 hj (by omega)
    rw [shl_one (by omega)] at o1
    refine ⟨⟨hj, ha, hb⟩, ?_, rfl, (bitO_next hj).symm, ?_⟩
    · show 64 - (j + 1) < 64 - j; omega
    · unfold fl_s1 fl_s0
      rw [bitO_lt hj, o1, mul64_hi _ _ ⟨o2, o3⟩ ⟨o2, o3⟩, mul64_lo]
      have hc := wcomp_eq ((fr 64 (a * 18446744073709551616 + b) j + 2 ^ (64 - 1 - j)) * (fr 64 (a * 18446744073709551616 + b) j + 2 ^ (64 - 1 - j))) (a * 18446744073709551616 + b) (Int.mul_nonneg o2 o2) hx0
      rw [ex1, ex2] at hc
      rw [hc, cmpI_le]
      rfl
  · intro h
    have hj : j = 64 := by
      rcases Nat.lt_or_ge j 64 with g | g
      · exfalso
        rw [bitO_lt g] at h
        have := two_pos (64 - 1 - j)
        rw [decide_eq_false_iff_not] at h
        omega
      · omega
    rw [hj]; rfl
noncomputable def eBlk2 (env : Env) (mem : Mem) (t : Nat) : Option (Int × Int) := match SX.look env t with
  | some ⟨_, _, _, .one (.ptr id 0)⟩ => (match mInts mem id with
    | some [x, y] => some (x, y)
    | _ => none)
  | _ => none
noncomputable def flL : LoopS := fun env mem m => match eBlk2 env mem 1 with
  | some (a, b) => famS (flF a b) 7 (fun _ _ => some 0) env mem m
  | none => none
noncomputable def L_fl : FuncId → Nat → Option LoopS := addL L_d2 89 3 flL
theorem known_flL : Known Try.prog (sums K_div64) L_fl := by
  refine known_addL 0 known_div64 (by kernel_rfl) (codeOk_of fun env mem m x h => ?_)
  unfold flL at h
  have hlen : (loopList Try.prog 89).length = 1 := by kernel_rfl
  split at h
  · exact ⟨_, fam_ok (bodyOf_ok plainN known_div64 (by omega)) (fl_rounds _ _), h⟩
  · cases h
noncomputable def floorRoot_tpl : Tpl := ⟨[.agg [.int .u64, .int .u64]], [], 0⟩
noncomputable def floorRoot_0 (a : Int) (b : Int) : Int :=
  fr 64 (a * 18446744073709551616 + b) 64
noncomputable def floorRoot_needs (a : Int) (b : Int) : List Prop :=
  [0 ≤ 64 ∧ (0 ≤ a ∧ a < 18446744073709551616) ∧ 0 ≤ b ∧ b < 18446744073709551616, Int.ofNat 9223372036854775808 = 9223372036854775808, fr 64 (a * 18446744073709551616 + b) 0 = 0]
theorem floorRoot_weak {a : Int} {b : Int} (hW : ∀ q ∈ ([u64 a, u64 b] : List Prop), q) : ∀ q ∈ (floorRoot_needs a b), q := by
  simp only [List.mem_cons, List.not_mem_nil, or_false, forall_eq_or_imp, forall_eq] at hW
  unfold floorRoot_needs
  simp only [List.forall_mem_cons, List.not_mem_nil, false_implies, implies_true, and_true]
  exact ⟨⟨by omega, hW.1, hW.2⟩, rfl, rfl⟩
set_option maxRecDepth 1000000 in
theorem floorRoot_runs (a b : Int) (hNeeds : ∀ pN ∈ (floorRoot_needs a b), pN) : Runs (runF (sums K_div64) L_fl 89) (floorRoot_tpl.args [.i a, .i b]) (floorRoot_tpl.memo [.i a, .i b] []) floorRoot_tpl.n (SV.one (SC.int IntKind.u64 (SI.v (floorRoot_0 a b))))
    ([]) :=
  Runs.of1 (ps := (floorRoot_needs a b)) (by kernel_rfl) hNeeds
noncomputable def floorRoot_out : List Pm → Lss → Option CRes
  | [.i a, .i b], [] => some ⟨SV.one (SC.int IntKind.u64 (SI.v (floorRoot_0 a b))),
    [],
    [u64 a, u64 b], [], 29⟩
  | _, _ => none
theorem floorRoot_ok : FOk Try.prog 89 (tplS floorRoot_tpl floorRoot_out) := by
  refine tplS_ok (runF_ok known_flL 89) fun ps ls r hr hn _ => ?_
  unfold floorRoot_out at hr
  split at hr
  · cases hr; exact ⟨_, floorRoot_runs _ _ (floorRoot_weak (by exact hn)), fun _ => rfl⟩
  · cases hr
noncomputable def K_floorRoot : List (Nat × Summ) := (89, tplS floorRoot_tpl floorRoot_out) :: K_div64
theorem known_floorRoot : Known Try.prog (sums K_floorRoot) L_fl := known_cons known_flL floorRoot_ok
theorem fl_law {a b : Int} (ha : u64 a) (hb : u64 b) : 0 ≤ floorRoot_0 a b ∧ floorRoot_0 a b * floorRoot_0 a b ≤ a * 18446744073709551616 + b ∧ a * 18446744073709551616 + b < (floorRoot_0 a b + 1) * (floorRoot_0 a b + 1) ∧ floorRoot_0 a b < 18446744073709551616 := by
  obtain ⟨x, y, z, w⟩ := fr_all (T := 64) (x := a * 18446744073709551616 + b) (by omega) (by rw [big_lt]; omega)
  have e : (2 : Int) ^ 64 = 18446744073709551616 := rfl
  exact ⟨x, y, z, by show fr 64 _ 64 < _; omega⟩
theorem u64_mod (x : Int) : u64 (x % 18446744073709551616) := by omega
theorem m1_u64 (x y : Int) : u64 (mul64_1 x y) := by rw [mul64_lo]; exact u64_mod _
theorem m0_u64 {x y : Int} (hx : u64 x) (hy : u64 y) : u64 (mul64_0 x y) := by
  rw [mul64_hi _ _ hx hy]
  obtain ⟨h1, h2⟩ := prod_lt 18446744073709551615 18446744073709551615 (x := x) (y := y) ⟨hx.1, by omega⟩ ⟨hy.1, by omega⟩ (by omega)
  omega
theorem wu_u64 (x : Int) : u64 (IntKind.u64.wrap x) := by rw [wrU_mod]; exact u64_mod _
theorem s64b_rng (x y z : Int) : 0 ≤ sub64b x y z ∧ sub64b x y z ≤ 1 := by unfold sub64b; split <;> decide
noncomputable def wroot_tpl : Tpl := ⟨[.agg [.int .u64, .int .u64], .one (.int .i64)], [], 0⟩
noncomputable def wroot_s0 (a : Int) (b : Int) : Int :=
  sub64v a (mul64_0 (floorRoot_0 a b) (floorRoot_0 a b)) (sub64b b (mul64_1 (floorRoot_0 a b) (floorRoot_0 a b)) 0)
noncomputable def wroot_s1 (a : Int) (b : Int) (m : Int) : Int :=
  bif
      m == 1 && (decide (wroot_s0 a b > 0) || decide (sub64v b (mul64_1 (floorRoot_0 a b) (floorRoot_0 a b)) 0 > 0)) ||
        m == 2 && (decide (wroot_s0 a b > 0) || decide (sub64v b (mul64_1 (floorRoot_0 a b) (floorRoot_0 a b)) 0 > floorRoot_0 a b)) then
    IntKind.u64.wrap (floorRoot_0 a b + 1)
  else floorRoot_0 a b
noncomputable def wroot_0 (a : Int) (b : Int) (m : Int) : Int :=
  bif decide (wroot_s1 a b m < 9223372036854775808) then IntKind.i64.wrap (wroot_s1 a b m) else 0
noncomputable def wroot_1 (a : Int) (b : Int) (m : Int) : Bool :=
  decide (wroot_s1 a b m < 9223372036854775808)
noncomputable def wroot_needs (a : Int) (b : Int) : List Prop :=
  [0 ≤ a ∧ a < 18446744073709551616, 0 ≤ b ∧ b < 18446744073709551616, 0 ≤ b, 0 ≤ mul64_1 (floorRoot_0 a b) (floorRoot_0 a b), Int.ofNat 0 ≤ 0 ∧ Int.ofNat 0 ≤ 1, 0 ≤ a,
    0 ≤ mul64_0 (floorRoot_0 a b) (floorRoot_0 a b), 0 ≤ sub64b b (mul64_1 (floorRoot_0 a b) (floorRoot_0 a b)) 0 ∧ sub64b b (mul64_1 (floorRoot_0 a b) (floorRoot_0 a b)) 0 ≤ 1]
theorem wroot_weak {a : Int} {b : Int} (hW : ∀ q ∈ ([u64 a, u64 b] : List Prop), q) : ∀ q ∈ (wroot_needs a b), q := by
  simp only [List.mem_cons, List.not_mem_nil, or_false, forall_eq_or_imp, forall_eq] at hW
  unfold wroot_needs
  simp only [List.forall_mem_cons, List.not_mem_nil, false_implies, implies_true, and_true]
  obtain ⟨ha, hb⟩ := hW
  have hf := fl_law ha hb
  have m1 := m1_u64 (floorRoot_0 a b) (floorRoot_0 a b)
  have m0 := m0_u64 (x := floorRoot_0 a b) (y := floorRoot_0 a b) ⟨hf.1, hf.2.2.2⟩ ⟨hf.1, hf.2.2.2⟩
  exact ⟨ha, hb, hb.1, m1.1, by decide, ha.1, m0.1, s64b_rng _ _ _⟩
set_option maxRecDepth 1000000 in
theorem wroot_runs (a b m : Int) (hNeeds : ∀ pN ∈ (wroot_needs a b), pN) : Runs (runF (sums K_floorRoot) L_fl 103) (wroot_tpl.args [.i a, .i b, .i m]) (wroot_tpl.memo [.i a, .i b, .i m] []) wroot_tpl.n (SV.tup [(false, [SC.int IntKind.i64 (SI.v (wroot_0 a b m))]), (false, [SC.bool (SB.v (wroot_1 a b m))])])
    ([]) :=
  Runs.of1 (ps := (wroot_needs a b)) (by kernel_rfl) hNeeds
noncomputable def wroot_out : List Pm → Lss → Option CRes
  | [.i a, .i b, .i m], [] => some ⟨SV.tup [(false, [SC.int IntKind.i64 (SI.v (wroot_0 a b m))]), (false, [SC.bool (SB.v (wroot_1 a b m))])],
    [],
    [u64 a, u64 b], [], 169⟩
  | _, _ => none
theorem wroot_ok : FOk Try.prog 103 (tplS wroot_tpl wroot_out) := by
  refine tplS_ok (runF_ok known_floorRoot 103) fun ps ls r hr hn _ => ?_
  unfold wroot_out at hr
  split at hr
  · cases hr; exact ⟨_, wroot_runs _ _ _ (wroot_weak (by exact hn)), fun _ => rfl⟩
  · cases hr
noncomputable def K_wroot : List (Nat × Summ) := (103, tplS wroot_tpl wroot_out) :: K_floorRoot
theorem known_wroot : Known Try.prog (sums K_wroot) L_fl := known_cons known_floorRoot wroot_ok
noncomputable def wSqrt_tpl : Tpl := ⟨[.one (.int .i64), .one (.int .i64)], [], 0⟩
noncomputable def wSqrt_0 (n : Int) (m : Int) : Int :=
  bif decide (n < 0) || !(m == 0 || m == 1 || m == 2) then 0 else wroot_0 0 (IntKind.u64.wrap n) m
noncomputable def wSqrt_1 (n : Int) (m : Int) : Bool :=
  bif decide (n < 0) || !(m == 0 || m == 1 || m == 2) then false else wroot_1 0 (IntKind.u64.wrap n) m
noncomputable def wSqrt_needs (n : Int) (m : Int) : List Prop :=
  [(decide (n < 0) || !(m == 0 || m == 1 || m == 2)) = false → (Int.ofNat 0 ≤ 0 ∧ Int.ofNat 0 < 18446744073709551616) ∧ 0 ≤ IntKind.u64.wrap n ∧ IntKind.u64.wrap n < 18446744073709551616]
theorem wSqrt_weak {n : Int} {m : Int} (hW : ∀ q ∈ ([isI n] : List Prop), q) : ∀ q ∈ (wSqrt_needs n m), q := by
  simp only [List.mem_cons, List.not_mem_nil, or_false, forall_eq_or_imp, forall_eq] at hW
  unfold wSqrt_needs
  simp only [List.forall_mem_cons, List.not_mem_nil, false_implies, implies_true, and_true]
  intro _
  have := wu_u64 n
  exact ⟨by decide, this.1, this.2⟩
set_option maxRecDepth 1000000 in
theorem wSqrt_runs (n m : Int) (hNeeds : ∀ pN ∈ (wSqrt_needs n m), pN) : Runs (runF (sums K_wroot) L_fl 97) (wSqrt_tpl.args [.i n, .i m]) (wSqrt_tpl.memo [.i n, .i m] []) wSqrt_tpl.n (SV.tup [(false, [SC.int IntKind.i64 (SI.v (wSqrt_0 n m))]), (false, [SC.bool (SB.v (wSqrt_1 n m))])])
    ([]) :=
  Runs.of1 (ps := (wSqrt_needs n m)) (by kernel_rfl) hNeeds
noncomputable def wSqrt_out : List Pm → Lss → Option CRes
  | [.i n, .i m], [] => some ⟨SV.tup [(false, [SC.int IntKind.i64 (SI.v (wSqrt_0 n m))]), (false, [SC.bool (SB.v (wSqrt_1 n m))])],
    [],
    [isI n], [], 201⟩
  | _, _ => none
theorem wSqrt_ok : FOk Try.prog 97 (tplS wSqrt_tpl wSqrt_out) := by
  refine tplS_ok (runF_ok known_wroot 97) fun ps ls r hr hn _ => ?_
  unfold wSqrt_out at hr
  split at hr
  · cases hr; exact ⟨_, wSqrt_runs _ _ (wSqrt_weak (by exact hn)), fun _ => rfl⟩
  · cases hr
noncomputable def K_wSqrt : List (Nat × Summ) := (97, tplS wSqrt_tpl wSqrt_out) :: K_wroot
theorem known_wSqrt : Known Try.prog (sums K_wSqrt) L_fl := known_cons known_wroot wSqrt_ok
noncomputable def quot_tpl : Tpl := ⟨[.agg [.int .u64, .int .u64], .one (.int .u64)], [], 0⟩
noncomputable def quot_0 (a : Int) (b : Int) (c : Int) : Bool :=
  decide (div64_1 (div64_1 0 a c) b c > 0)
noncomputable def quot_needs (a : Int) (b : Int) (c : Int) : List Prop :=
  [Int.ofNat 0 ≤ 0, 0 < c, 0 ≤ a, a < 18446744073709551616, c < 18446744073709551616, 0 ≤ div64_1 0 a c, div64_1 0 a c < c, 0 ≤ b, b < 18446744073709551616, c < 18446744073709551616]
theorem quot_weak {a : Int} {b : Int} {c : Int} (hW : ∀ q ∈ ([u64 a, u64 b, 0 < c, c < 18446744073709551616] : List Prop), q) : ∀ q ∈ (quot_needs a b c), q := by
  simp only [List.mem_cons, List.not_mem_nil, or_false, forall_eq_or_imp, forall_eq] at hW
  unfold quot_needs
  simp only [List.forall_mem_cons, List.not_mem_nil, false_implies, implies_true, and_true]
  obtain ⟨ha, hb, hc, hc'⟩ := hW
  have hd := (div64_law (a := 0) (b := a) (c := c) (by omega) hc ha.1 ha.2 hc').2
  have m3 := Int.emod_nonneg (0 * 18446744073709551616 + a) (show c ≠ 0 by omega)
  have m4 := Int.emod_lt_of_pos (0 * 18446744073709551616 + a) hc
  rw [← hd] at m3 m4
  exact ⟨by decide, hc, ha.1, ha.2, hc', m3, m4, hb.1, hb.2, hc'⟩
set_option maxRecDepth 1000000 in
theorem quot_runs (a b c : Int) (hNeeds : ∀ pN ∈ (quot_needs a b c), pN) : Runs (runF (sums K_wSqrt) L_fl 87) (quot_tpl.args [.i a, .i b, .i c]) (quot_tpl.memo [.i a, .i b, .i c] []) quot_tpl.n (SV.tup [(true, [SC.int IntKind.u64 (SI.v (div64_0 0 a c)), SC.int IntKind.u64 (SI.v (div64_0 (div64_1 0 a c) b c))]), (false, [SC.bool (SB.v (quot_0 a b c))])])
    ([]) :=
  Runs.of1 (ps := (quot_needs a b c)) (by kernel_rfl) hNeeds
noncomputable def quot_out : List Pm → Lss → Option CRes
  | [.i a, .i b, .i c], [] => some ⟨SV.tup [(true, [SC.int IntKind.u64 (SI.v (div64_0 0 a c)), SC.int IntKind.u64 (SI.v (div64_0 (div64_1 0 a c) b c))]), (false, [SC.bool (SB.v (quot_0 a b c))])],
    [],
    [u64 a, u64 b, 0 < c, c < 18446744073709551616], [], 389⟩
  | _, _ => none
theorem quot_ok : FOk Try.prog 87 (tplS quot_tpl quot_out) := by
  refine tplS_ok (runF_ok known_wSqrt 87) fun ps ls r hr hn _ => ?_
  unfold quot_out at hr
  split at hr
  · cases hr; exact ⟨_, quot_runs _ _ _ (quot_weak (by exact hn)), fun _ => rfl⟩
  · cases hr
noncomputable def K_quot : List (Nat × Summ) := (87, tplS quot_tpl quot_out) :: K_wSqrt
theorem known_quot : Known Try.prog (sums K_quot) L_fl := known_cons known_wSqrt quot_ok
noncomputable def grows_tpl : Tpl := ⟨[.one (.int .i64), .one (.int .i64), .one (.bool), .one (.bool)], [], 0⟩
noncomputable def grows_0 (m : Int) (n : Int) (p : Bool) (q : Bool) : Bool :=
  bif m == 0 then p && q else bif m == 1 then p && !q else decide (n > 0) || n == 0 && !q
set_option maxRecDepth 1000000 in
theorem grows_runs (m n : Int) (p q : Bool) : Runs (runF (sums K_quot) L_fl 91) (grows_tpl.args [.i m, .i n, .b p, .b q]) (grows_tpl.memo [.i m, .i n, .b p, .b q] []) grows_tpl.n (SV.one (SC.bool (SB.v (grows_0 m n p q))))
    ([]) :=
  Runs.of1 (ps := []) (by kernel_rfl) (by simp)
noncomputable def grows_out : List Pm → Lss → Option CRes
  | [.i m, .i n, .b p, .b q], [] => some ⟨SV.one (SC.bool (SB.v (grows_0 m n p q))),
    [],
    [], [], 28⟩
  | _, _ => none
theorem grows_ok : FOk Try.prog 91 (tplS grows_tpl grows_out) := by
  refine tplS_ok (runF_ok known_quot 91) fun ps ls r hr hn _ => ?_
  unfold grows_out at hr
  split at hr
  · cases hr; exact ⟨_, grows_runs _ _ _ _, fun _ => rfl⟩
  · cases hr
noncomputable def K_grows : List (Nat × Summ) := (91, tplS grows_tpl grows_out) :: K_quot
theorem known_grows : Known Try.prog (sums K_grows) L_fl := known_cons known_quot grows_ok
noncomputable def signed_tpl : Tpl := ⟨[.one (.int .u64), .one (.bool)], [], 0⟩
noncomputable def signed_0 (n : Int) (p : Bool) : Int :=
  bif p && decide (n ≤ 9223372036854775808) then IntKind.i64.wrap (IntKind.u64.wrap (0 - n)) else bif !p && decide (n < 9223372036854775808) then IntKind.i64.wrap n else 0
noncomputable def signed_1 (n : Int) (p : Bool) : Bool :=
  p && decide (n ≤ 9223372036854775808) || !p && decide (n < 9223372036854775808)
set_option maxRecDepth 1000000 in
theorem signed_runs (n : Int) (p : Bool) : Runs (runF (sums K_grows) L_fl 92) (signed_tpl.args [.i n, .b p]) (signed_tpl.memo [.i n, .b p] []) signed_tpl.n (SV.tup [(false, [SC.int IntKind.i64 (SI.v (signed_0 n p))]), (false, [SC.bool (SB.v (signed_1 n p))])])
    ([]) :=
  Runs.of1 (ps := []) (by kernel_rfl) (by simp)
noncomputable def signed_out : List Pm → Lss → Option CRes
  | [.i n, .b p], [] => some ⟨SV.tup [(false, [SC.int IntKind.i64 (SI.v (signed_0 n p))]), (false, [SC.bool (SB.v (signed_1 n p))])],
    [],
    [], [], 26⟩
  | _, _ => none
theorem signed_ok : FOk Try.prog 92 (tplS signed_tpl signed_out) := by
  refine tplS_ok (runF_ok known_grows 92) fun ps ls r hr hn _ => ?_
  unfold signed_out at hr
  split at hr
  · cases hr; exact ⟨_, signed_runs _ _, fun _ => rfl⟩
  · cases hr
noncomputable def K_signed : List (Nat × Summ) := (92, tplS signed_tpl signed_out) :: K_grows
theorem known_signed : Known Try.prog (sums K_signed) L_fl := known_cons known_grows signed_ok
/-- The quotient of two halves by one. -/
theorem quot_law {a b c : Int} (ha : u64 a) (hb : u64 b) (hc : 0 < c) (hc' : c < 18446744073709551616) :
    u64 (div64_0 0 a c) ∧ u64 (div64_0 (div64_1 0 a c) b c) ∧ div64_0 0 a c * 18446744073709551616 + div64_0 (div64_1 0 a c) b c = (a * 18446744073709551616 + b) / c ∧ quot_0 a b c = decide (0 < (a * 18446744073709551616 + b) % c) := by
  obtain ⟨e0, e1⟩ := div64_law (a := 0) (b := a) (c := c) (by omega) hc ha.1 ha.2 hc'
  have m3 := Int.emod_nonneg (0 * 18446744073709551616 + a) (show c ≠ 0 by omega)
  have m4 := Int.emod_lt_of_pos (0 * 18446744073709551616 + a) hc
  have dm := Int.mul_ediv_add_emod (0 * 18446744073709551616 + a) c
  have q0 := Int.ediv_nonneg (show 0 ≤ 0 * 18446744073709551616 + a by omega) (show 0 ≤ c by omega)
  have q1 := Int.ediv_le_self c (show 0 ≤ 0 * 18446744073709551616 + a by omega)
  rw [← e1] at m3 m4 dm
  rw [← e0] at dm q0 q1
  obtain ⟨f0, f1⟩ := div64_law (a := div64_1 0 a c) (b := b) (c := c) m3 m4 hb.1 hb.2 hc'
  have hr : 0 ≤ (div64_1 0 a c * 18446744073709551616 + b) / c ∧ (div64_1 0 a c * 18446744073709551616 + b) / c < 18446744073709551616 := by
    refine ⟨Int.ediv_nonneg (by omega) (by omega), Int.ediv_lt_of_lt_mul hc ?_⟩
    have := Int.mul_le_mul_of_nonneg_right (show div64_1 0 a c + 1 ≤ c by omega) (show (0 : Int) ≤ 18446744073709551616 by omega)
    have e : 18446744073709551616 * c = c * 18446744073709551616 := Int.mul_comm _ _
    rw [e]
    omega
  have ex : a * 18446744073709551616 + b = (div64_1 0 a c * 18446744073709551616 + b) + c * (div64_0 0 a c * 18446744073709551616) := by
    have e : c * (div64_0 0 a c * 18446744073709551616) = c * div64_0 0 a c * 18446744073709551616 := by rw [Int.mul_assoc]
    rw [e]
    omega
  refine ⟨⟨q0, by omega⟩, by rw [f0]; exact hr, ?_, ?_⟩
  · rw [ex, Int.add_mul_ediv_left _ _ (show c ≠ 0 by omega), f0]
    omega
  · unfold quot_0
    rw [f1, ex, Int.add_mul_emod_self_left]
noncomputable def wOver_tpl : Tpl := ⟨[.one (.int .i64), .one (.int .i64), .one (.int .i64), .one (.int .i64)], [], 0⟩
noncomputable def wOver_s0 (a : Int) (b : Int) : Int :=
  IntKind.u64.wrap (2 * IntKind.u64.wrap (wsize_0 a * wsize_0 b))
noncomputable def wOver_s1 (a : Int) (b : Int) (n : Int) : Int :=
  div64_0 (div64_1 0 (mul64_0 (wOver_s0 a b) (wOver_s0 a b)) (IntKind.u64.wrap n)) (mul64_1 (wOver_s0 a b) (wOver_s0 a b)) (IntKind.u64.wrap n)
noncomputable def wOver_s2 (a : Int) (b : Int) (n : Int) : Int :=
  floorRoot_0 (div64_0 0 (mul64_0 (wOver_s0 a b) (wOver_s0 a b)) (IntKind.u64.wrap n)) (wOver_s1 a b n)
noncomputable def wOver_s3 (a : Int) (b : Int) (n : Int) : Bool :=
  (wOver_s2 a b n).tmod 2 == 1
noncomputable def wOver_s4 (a : Int) (b : Int) (n : Int) : Bool :=
  quot_0 (mul64_0 (wOver_s0 a b) (wOver_s0 a b)) (mul64_1 (wOver_s0 a b) (wOver_s0 a b)) (IntKind.u64.wrap n) ||
    !(mul64_0 (wOver_s2 a b n) (wOver_s2 a b n) == div64_0 0 (mul64_0 (wOver_s0 a b) (wOver_s0 a b)) (IntKind.u64.wrap n) && mul64_1 (wOver_s2 a b n) (wOver_s2 a b n) == wOver_s1 a b n)
noncomputable def wOver_s5 (a : Int) (b : Int) : Bool :=
  decide (wsign_0 a b < 0)
noncomputable def wOver_0 (a : Int) (b : Int) (n : Int) (m : Int) : Int :=
  bif decide (wsize_0 a > 2147483648) || decide (wsize_0 b > 2147483648) || decide (n < 1) || decide (n > 4611686018427387904) || !(m == 0 || m == 1 || m == 2) then 0
  else
    signed_0
      (bif grows_0 m (bif wOver_s3 a b n then bif wOver_s4 a b n then 1 else 0 else -1) (wOver_s4 a b n || wOver_s3 a b n) (wOver_s5 a b) then
        IntKind.u64.wrap (IntKind.u64.wrap ((wOver_s2 a b n).tdiv 2) + 1)
      else IntKind.u64.wrap ((wOver_s2 a b n).tdiv 2))
      (wOver_s5 a b)
noncomputable def wOver_1 (a : Int) (b : Int) (n : Int) (m : Int) : Bool :=
  bif decide (wsize_0 a > 2147483648) || decide (wsize_0 b > 2147483648) || decide (n < 1) || decide (n > 4611686018427387904) || !(m == 0 || m == 1 || m == 2) then false
  else
    signed_1
      (bif grows_0 m (bif wOver_s3 a b n then bif wOver_s4 a b n then 1 else 0 else -1) (wOver_s4 a b n || wOver_s3 a b n) (wOver_s5 a b) then
        IntKind.u64.wrap (IntKind.u64.wrap ((wOver_s2 a b n).tdiv 2) + 1)
      else IntKind.u64.wrap ((wOver_s2 a b n).tdiv 2))
      (wOver_s5 a b)
noncomputable def wOver_needs (a : Int) (b : Int) (n : Int) (m : Int) : List Prop :=
  [(decide (wsize_0 a > 2147483648) || decide (wsize_0 b > 2147483648) || decide (n < 1) || decide (n > 4611686018427387904) || !(m == 0 || m == 1 || m == 2)) = false →
      (0 ≤ mul64_0 (wOver_s0 a b) (wOver_s0 a b) ∧ mul64_0 (wOver_s0 a b) (wOver_s0 a b) < 18446744073709551616) ∧
        (0 ≤ mul64_1 (wOver_s0 a b) (wOver_s0 a b) ∧ mul64_1 (wOver_s0 a b) (wOver_s0 a b) < 18446744073709551616) ∧
          0 < IntKind.u64.wrap n ∧
            IntKind.u64.wrap n < 18446744073709551616 ∧
              (0 ≤ div64_0 0 (mul64_0 (wOver_s0 a b) (wOver_s0 a b)) (IntKind.u64.wrap n) ∧ div64_0 0 (mul64_0 (wOver_s0 a b) (wOver_s0 a b)) (IntKind.u64.wrap n) < 18446744073709551616) ∧
                0 ≤ wOver_s1 a b n ∧ wOver_s1 a b n < 18446744073709551616]
theorem wOver_weak {a : Int} {b : Int} {n : Int} {m : Int} (hW : ∀ q ∈ ([isI a, isI b, isI n] : List Prop), q) : ∀ q ∈ (wOver_needs a b n m), q := by
  simp only [List.mem_cons, List.not_mem_nil, or_false, forall_eq_or_imp, forall_eq] at hW
  unfold wOver_needs
  simp only [List.forall_mem_cons, List.not_mem_nil, false_implies, implies_true, and_true]
  obtain ⟨ha, hb, hn⟩ := hW
  intro h
  simp only [Bool.or_eq_false_iff, decide_eq_false_iff_not] at h
  have s0 : u64 (wOver_s0 a b) := wu_u64 _
  have h0 := m0_u64 s0 s0
  have h1 := m1_u64 (wOver_s0 a b) (wOver_s0 a b)
  have ew : IntKind.u64.wrap n = n := wrU (by omega) (by omega)
  have hq := quot_law h0 h1 (c := n) (by omega) (by omega)
  rw [ew]
  unfold wOver_s1
  rw [ew]
  exact ⟨h0, h1, by omega, by omega, hq.1, hq.2.1.1, hq.2.1.2⟩
set_option maxRecDepth 1000000 in
theorem wOver_runs (a b n m : Int) (hNeeds : ∀ pN ∈ (wOver_needs a b n m), pN) : Runs (runF (sums K_signed) L_fl 73) (wOver_tpl.args [.i a, .i b, .i n, .i m]) (wOver_tpl.memo [.i a, .i b, .i n, .i m] []) wOver_tpl.n (SV.tup [(false, [SC.int IntKind.i64 (SI.v (wOver_0 a b n m))]), (false, [SC.bool (SB.v (wOver_1 a b n m))])])
    ([]) :=
  Runs.of1 (ps := (wOver_needs a b n m)) (by kernel_rfl) hNeeds
noncomputable def wOver_out : List Pm → Lss → Option CRes
  | [.i a, .i b, .i n, .i m], [] => some ⟨SV.tup [(false, [SC.int IntKind.i64 (SI.v (wOver_0 a b n m))]), (false, [SC.bool (SB.v (wOver_1 a b n m))])],
    [],
    [isI a, isI b, isI n], [], 785⟩
  | _, _ => none
theorem wOver_ok : FOk Try.prog 73 (tplS wOver_tpl wOver_out) := by
  refine tplS_ok (runF_ok known_signed 73) fun ps ls r hr hn _ => ?_
  unfold wOver_out at hr
  split at hr
  · cases hr; exact ⟨_, wOver_runs _ _ _ _ (wOver_weak (by exact hn)), fun _ => rfl⟩
  · cases hr
noncomputable def K_wOver : List (Nat × Summ) := (73, tplS wOver_tpl wOver_out) :: K_signed
theorem known_wOver : Known Try.prog (sums K_wOver) L_fl := known_cons known_signed wOver_ok
end Go.Proofs.Ytmbfbhimdkjkoaa
namespace Go.Proofs.Ytmbfbhimdkjkoaa
open Go.SX Go.RowKit
noncomputable def oin_tpl : Tpl := ⟨[.one (.int .i64), .one (.int .i64)], [], 0⟩
noncomputable def oin_0 (n : Int) (m : Int) : Bool :=
  decide (n ≥ IntKind.i64.wrap (0 - m)) && decide (n ≤ m)
set_option maxRecDepth 1000000 in
theorem oin_runs (n m : Int) : Runs (runF (sums K_wOver) L_fl 62) (oin_tpl.args [.i n, .i m]) (oin_tpl.memo [.i n, .i m] []) oin_tpl.n (SV.one (SC.bool (SB.v (oin_0 n m))))
    ([]) :=
  Runs.of1 (ps := []) (by kernel_rfl) (by simp)
noncomputable def oin_out : List Pm → Lss → Option CRes
  | [.i n, .i m], [] => some ⟨SV.one (SC.bool (SB.v (oin_0 n m))),
    [],
    [], [], 11⟩
  | _, _ => none
theorem oin_ok : FOk Try.prog 62 (tplS oin_tpl oin_out) := by
  refine tplS_ok (runF_ok known_wOver 62) fun ps ls r hr hn _ => ?_
  unfold oin_out at hr
  split at hr
  · cases hr; exact ⟨_, oin_runs _ _, fun _ => rfl⟩
  · cases hr
noncomputable def K_oin : List (Nat × Summ) := (62, tplS oin_tpl oin_out) :: K_wOver
theorem known_oin : Known Try.prog (sums K_oin) L_fl := known_cons known_wOver oin_ok
theorem oin_iff {n m : Int} (h : 0 ≤ m) (h2 : m ≤ 1000000000) : oin_0 n m = true ↔ bd m n := by
  unfold oin_0
  rw [wrI (x := 0 - m) (by omega) (by omega)]
  simp only [Bool.and_eq_true, decide_eq_true_eq]
  omega
noncomputable def ocorner_tpl : Tpl := ⟨[.agg [.int .i64, .int .i64], .agg [.int .i64, .int .i64], .one (.int .i64)], [], 0⟩
noncomputable def ocorner_0 (a : Int) (b : Int) (c : Int) (d : Int) (s : Int) : Int :=
  bif vcross_0 a b c d == 0 && decide (vinner_0 a b c d > 0) then 0 else bif decide (vcross_0 a b c d > 0) && decide (s > 0) || decide (vcross_0 a b c d < 0) && decide (s < 0) then 2 else 1
set_option maxRecDepth 1000000 in
theorem ocorner_runs (a b c d s : Int) : Runs (runF (sums K_oin) L_fl 66) (ocorner_tpl.args [.i a, .i b, .i c, .i d, .i s]) (ocorner_tpl.memo [.i a, .i b, .i c, .i d, .i s] []) ocorner_tpl.n (SV.one (SC.int IntKind.i64 (SI.v (ocorner_0 a b c d s))))
    ([]) :=
  Runs.of1 (ps := []) (by kernel_rfl) (by simp)
noncomputable def ocorner_out : List Pm → Lss → Option CRes
  | [.i a, .i b, .i c, .i d, .i s], [] => some ⟨SV.one (SC.int IntKind.i64 (SI.v (ocorner_0 a b c d s))),
    [],
    [], [], 82⟩
  | _, _ => none
theorem ocorner_ok : FOk Try.prog 66 (tplS ocorner_tpl ocorner_out) := by
  refine tplS_ok (runF_ok known_oin 66) fun ps ls r hr hn _ => ?_
  unfold ocorner_out at hr
  split at hr
  · cases hr; exact ⟨_, ocorner_runs _ _ _ _ _, fun _ => rfl⟩
  · cases hr
noncomputable def K_ocorner : List (Nat × Summ) := (66, tplS ocorner_tpl ocorner_out) :: K_oin
theorem known_ocorner : Known Try.prog (sums K_ocorner) L_fl := known_cons known_oin ocorner_ok
theorem nrm_bd {p0 p1 t0 t1 r : Int} (h : (t0 == 0 && t1 == 0 || !oin_0 t0 4194304 || !oin_0 t1 4194304 || !oin_0 p0 1048576 || !oin_0 p1 1048576 || !oin_0 r 32768) = false) : (t0 ≠ 0 ∨ t1 ≠ 0) ∧ bd 4194304 t0 ∧ bd 4194304 t1 ∧ bd 1048576 p0 ∧ bd 1048576 p1 ∧ bd 32768 r := by
  simp only [Bool.or_eq_false_iff, Bool.not_eq_false', Bool.and_eq_false_iff, beq_eq_false_iff_ne] at h
  obtain ⟨⟨⟨⟨⟨h0, h1⟩, h2⟩, h3⟩, h4⟩, h5⟩ := h
  exact ⟨h0, (oin_iff (by omega) (by omega)).1 h1, (oin_iff (by omega) (by omega)).1 h2, (oin_iff (by omega) (by omega)).1 h3, (oin_iff (by omega) (by omega)).1 h4, (oin_iff (by omega) (by omega)).1 h5⟩
noncomputable def onormal_tpl : Tpl := ⟨[.agg [.int .i64, .int .i64], .agg [.int .i64, .int .i64], .one (.int .i64)], [], 0⟩
noncomputable def onormal_0 (p0 : Int) (p1 : Int) (t0 : Int) (t1 : Int) (r : Int) : Int :=
  bif t0 == 0 && t1 == 0 || !oin_0 t0 4194304 || !oin_0 t1 4194304 || !oin_0 p0 1048576 || !oin_0 p1 1048576 || !oin_0 r 32768 then 0
  else addpt_0 p0 (wOver_0 (IntKind.i64.wrap (0 - t1)) r (vinner_0 t0 t1 t0 t1) 2)
noncomputable def onormal_1 (p0 : Int) (p1 : Int) (t0 : Int) (t1 : Int) (r : Int) : Int :=
  bif t0 == 0 && t1 == 0 || !oin_0 t0 4194304 || !oin_0 t1 4194304 || !oin_0 p0 1048576 || !oin_0 p1 1048576 || !oin_0 r 32768 then 0 else addpt_0 p1 (wOver_0 t0 r (vinner_0 t0 t1 t0 t1) 2)
noncomputable def onormal_2 (p0 : Int) (p1 : Int) (t0 : Int) (t1 : Int) (r : Int) : Bool :=
  !(t0 == 0 && t1 == 0 || !oin_0 t0 4194304 || !oin_0 t1 4194304 || !oin_0 p0 1048576 || !oin_0 p1 1048576 || !oin_0 r 32768)
noncomputable def onormal_s0 (t0 : Int) (t1 : Int) : Prop :=
  -9223372036854775808 ≤ vinner_0 t0 t1 t0 t1 ∧ vinner_0 t0 t1 t0 t1 < 9223372036854775808
noncomputable def onormal_needs (p0 : Int) (p1 : Int) (t0 : Int) (t1 : Int) (r : Int) : List Prop :=
  [(t0 == 0 && t1 == 0 || !oin_0 t0 4194304 || !oin_0 t1 4194304 || !oin_0 p0 1048576 || !oin_0 p1 1048576 || !oin_0 r 32768) = false →
      (-9223372036854775808 ≤ IntKind.i64.wrap (0 - t1) ∧ IntKind.i64.wrap (0 - t1) < 9223372036854775808) ∧
        (-9223372036854775808 ≤ r ∧ r < 9223372036854775808) ∧
          onormal_s0 t0 t1 ∧ (-9223372036854775808 ≤ t0 ∧ t0 < 9223372036854775808) ∧ (-9223372036854775808 ≤ r ∧ r < 9223372036854775808) ∧ onormal_s0 t0 t1]
theorem onormal_need {p0 : Int} {p1 : Int} {t0 : Int} {t1 : Int} {r : Int} : ∀ q ∈ (onormal_needs p0 p1 t0 t1 r), q := by
  unfold onormal_needs
  simp only [List.forall_mem_cons, List.not_mem_nil, false_implies, implies_true, and_true]
  intro h
  obtain ⟨h0, h1, h2, h3, h4, h5⟩ := nrm_bd h
  exact ⟨wrap_isI _, ⟨by omega, by omega⟩, wrap_isI _, ⟨by omega, by omega⟩, ⟨by omega, by omega⟩, wrap_isI _⟩
set_option maxRecDepth 1000000 in
theorem onormal_runs (p0 p1 t0 t1 r : Int) (hNeeds : ∀ pN ∈ (onormal_needs p0 p1 t0 t1 r), pN) : Runs (runF (sums K_ocorner) L_fl 59) (onormal_tpl.args [.i p0, .i p1, .i t0, .i t1, .i r]) (onormal_tpl.memo [.i p0, .i p1, .i t0, .i t1, .i r] []) onormal_tpl.n (SV.tup [(true, [SC.int IntKind.i64 (SI.v (onormal_0 p0 p1 t0 t1 r)), SC.int IntKind.i64 (SI.v (onormal_1 p0 p1 t0 t1 r))]), (false, [SC.bool (SB.v (onormal_2 p0 p1 t0 t1 r))])])
    ([]) :=
  Runs.of1 (ps := (onormal_needs p0 p1 t0 t1 r)) (by kernel_rfl) hNeeds
noncomputable def onormal_out : List Pm → Lss → Option CRes
  | [.i p0, .i p1, .i t0, .i t1, .i r], [] => some ⟨SV.tup [(true, [SC.int IntKind.i64 (SI.v (onormal_0 p0 p1 t0 t1 r)), SC.int IntKind.i64 (SI.v (onormal_1 p0 p1 t0 t1 r))]), (false, [SC.bool (SB.v (onormal_2 p0 p1 t0 t1 r))])],
    [],
    [], [], 1758⟩
  | _, _ => none
theorem onormal_ok : FOk Try.prog 59 (tplS onormal_tpl onormal_out) := by
  refine tplS_ok (runF_ok known_ocorner 59) fun ps ls r hr hn _ => ?_
  unfold onormal_out at hr
  split at hr
  · cases hr; exact ⟨_, onormal_runs _ _ _ _ _ (fun p hp => onormal_need p hp), fun _ => rfl⟩
  · cases hr
noncomputable def K_onormal : List (Nat × Summ) := (59, tplS onormal_tpl onormal_out) :: K_ocorner
theorem known_onormal : Known Try.prog (sums K_onormal) L_fl := known_cons known_ocorner onormal_ok
noncomputable def oinward_tpl : Tpl := ⟨[.agg [.int .i64, .int .i64, .int .i64, .int .i64, .int .i64, .int .i64, .int .i64, .bool], .one (.int .i64)], [], 0⟩
noncomputable def oinward_0 (e6 : Int) (r : Int) : Bool :=
  decide (e6 > 0) && decide (r ≥ 0) || decide (e6 < 0) && decide (r < 0)
set_option maxRecDepth 1000000 in
theorem oinward_runs (e0 e1 e2 e3 e4 e5 e6 : Int) (e7 : Bool) (r : Int) : Runs (runF (sums K_onormal) L_fl 57) (oinward_tpl.args [.i e0, .i e1, .i e2, .i e3, .i e4, .i e5, .i e6, .b e7, .i r]) (oinward_tpl.memo [.i e0, .i e1, .i e2, .i e3, .i e4, .i e5, .i e6, .b e7, .i r] []) oinward_tpl.n (SV.one (SC.bool (SB.v (oinward_0 e6 r))))
    ([]) :=
  Runs.of1 (ps := []) (by kernel_rfl) (by simp)
noncomputable def oinward_out : List Pm → Lss → Option CRes
  | [.i e0, .i e1, .i e2, .i e3, .i e4, .i e5, .i e6, .b e7, .i r], [] => some ⟨SV.one (SC.bool (SB.v (oinward_0 e6 r))),
    [],
    [], [], 30⟩
  | _, _ => none
theorem oinward_ok : FOk Try.prog 57 (tplS oinward_tpl oinward_out) := by
  refine tplS_ok (runF_ok known_onormal 57) fun ps ls r hr hn _ => ?_
  unfold oinward_out at hr
  split at hr
  · cases hr; exact ⟨_, oinward_runs _ _ _ _ _ _ _ _ _, fun _ => rfl⟩
  · cases hr
noncomputable def K_oinward : List (Nat × Summ) := (57, tplS oinward_tpl oinward_out) :: K_onormal
theorem known_oinward : Known Try.prog (sums K_oinward) L_fl := known_cons known_onormal oinward_ok
noncomputable def reaches_tpl : Tpl := ⟨[.one (.int .i64), .one (.int .i64), .one (.int .i64)], [], 0⟩
noncomputable def reaches_s0 (a : Int) (b : Int) (c : Int) : Int :=
  IntKind.i64.wrap (IntKind.i64.wrap (c - a) - IntKind.i64.wrap (b * b))
noncomputable def reaches_s1 (a : Int) (b : Int) (c : Int) : Int :=
  wcmp_0 (IntKind.i64.wrap (IntKind.i64.wrap (4 * b) * b)) a (reaches_s0 a b c) (reaches_s0 a b c)
noncomputable def reaches_0 (a : Int) (b : Int) (c : Int) : Bool :=
  decide (reaches_s0 a b c ≥ 0) && decide (reaches_s1 a b c ≤ 0)
set_option maxRecDepth 1000000 in
theorem reaches_runs (a b c : Int) : Runs (runF (sums K_oinward) L_fl 94) (reaches_tpl.args [.i a, .i b, .i c]) (reaches_tpl.memo [.i a, .i b, .i c] []) reaches_tpl.n (SV.one (SC.bool (SB.v (reaches_0 a b c))))
    ([]) :=
  Runs.of1 (ps := []) (by kernel_rfl) (by simp)
noncomputable def reaches_out : List Pm → Lss → Option CRes
  | [.i a, .i b, .i c], [] => some ⟨SV.one (SC.bool (SB.v (reaches_0 a b c))),
    [],
    [], [], 309⟩
  | _, _ => none
theorem reaches_ok : FOk Try.prog 94 (tplS reaches_tpl reaches_out) := by
  refine tplS_ok (runF_ok known_oinward 94) fun ps ls r hr hn _ => ?_
  unfold reaches_out at hr
  split at hr
  · cases hr; exact ⟨_, reaches_runs _ _ _, fun _ => rfl⟩
  · cases hr
noncomputable def K_reaches : List (Nat × Summ) := (94, tplS reaches_tpl reaches_out) :: K_oinward
theorem known_reaches : Known Try.prog (sums K_reaches) L_fl := known_cons known_oinward reaches_ok
noncomputable def oclear_tpl : Tpl := ⟨[.agg [.int .i64, .int .i64, .int .i64, .int .i64, .int .i64, .int .i64, .int .i64, .bool], .agg [.int .i64, .int .i64], .one (.int .i64)], [], 0⟩
noncomputable def oclear_s0 (e0 : Int) (e1 : Int) (e2 : Int) (e3 : Int) (y0 : Int) (y1 : Int) (r : Int) : Int :=
  wcmp_0 (vcross_0 (minus_0 e2 e0) (minus_0 e3 e1) (minus_0 y0 e0) (minus_0 y1 e1)) (vcross_0 (minus_0 e2 e0) (minus_0 e3 e1) (minus_0 y0 e0) (minus_0 y1 e1)) (IntKind.i64.wrap (r * r))
    (vinner_0 (minus_0 e2 e0) (minus_0 e3 e1) (minus_0 e2 e0) (minus_0 e3 e1))
noncomputable def oclear_s1 (r : Int) : Int :=
  if IntKind.i64.wrap (0 - r) > r then IntKind.i64.wrap (0 - r) else r
noncomputable def oclear_0 (e0 : Int) (e1 : Int) (e2 : Int) (e3 : Int) (e4 : Int) (e5 : Int) (e6 : Int) (y0 : Int) (y1 : Int) (r : Int) : Bool :=
  bif e6 == 0 then
    (decide (r ≥ 0) && decide (vcross_0 (minus_0 e2 e0) (minus_0 e3 e1) (minus_0 y0 e0) (minus_0 y1 e1) ≥ 0) ||
        decide (r < 0) && decide (vcross_0 (minus_0 e2 e0) (minus_0 e3 e1) (minus_0 y0 e0) (minus_0 y1 e1) ≤ 0)) &&
      decide (oclear_s0 e0 e1 e2 e3 y0 y1 r ≥ 0)
  else
    bif oinward_0 e6 r then reaches_0 (vinner_0 (minus_0 y0 e4) (minus_0 y1 e5) (minus_0 y0 e4) (minus_0 y1 e5)) (oclear_s1 r) (vinner_0 (minus_0 e2 e4) (minus_0 e3 e5) (minus_0 e2 e4) (minus_0 e3 e5))
    else reaches_0 (vinner_0 (minus_0 e2 e4) (minus_0 e3 e5) (minus_0 e2 e4) (minus_0 e3 e5)) (oclear_s1 r) (vinner_0 (minus_0 y0 e4) (minus_0 y1 e5) (minus_0 y0 e4) (minus_0 y1 e5))
set_option maxRecDepth 1000000 in
theorem oclear_runs (e0 e1 e2 e3 e4 e5 e6 : Int) (e7 : Bool) (y0 y1 r : Int) : Runs (runF (sums K_reaches) L_fl 80) (oclear_tpl.args [.i e0, .i e1, .i e2, .i e3, .i e4, .i e5, .i e6, .b e7, .i y0, .i y1, .i r]) (oclear_tpl.memo [.i e0, .i e1, .i e2, .i e3, .i e4, .i e5, .i e6, .b e7, .i y0, .i y1, .i r] []) oclear_tpl.n (SV.one (SC.bool (SB.v (oclear_0 e0 e1 e2 e3 e4 e5 e6 y0 y1 r))))
    ([]) :=
  Runs.of1 (ps := []) (by kernel_rfl) (by simp)
noncomputable def oclear_out : List Pm → Lss → Option CRes
  | [.i e0, .i e1, .i e2, .i e3, .i e4, .i e5, .i e6, .b e7, .i y0, .i y1, .i r], [] => some ⟨SV.one (SC.bool (SB.v (oclear_0 e0 e1 e2 e3 e4 e5 e6 y0 y1 r))),
    [],
    [], [], 1236⟩
  | _, _ => none
theorem oclear_ok : FOk Try.prog 80 (tplS oclear_tpl oclear_out) := by
  refine tplS_ok (runF_ok known_reaches 80) fun ps ls r hr hn _ => ?_
  unfold oclear_out at hr
  split at hr
  · cases hr; exact ⟨_, oclear_runs _ _ _ _ _ _ _ _ _ _ _, fun _ => rfl⟩
  · cases hr
noncomputable def K_oclear : List (Nat × Summ) := (80, tplS oclear_tpl oclear_out) :: K_reaches
theorem known_oclear : Known Try.prog (sums K_oclear) L_fl := known_cons known_reaches oclear_ok
end Go.Proofs.Ytmbfbhimdkjkoaa
namespace Go.Proofs.Ytmbfbhimdkjkoaa
open Go.SX Go.RowKit
noncomputable def flat_tpl : Tpl := ⟨[.one (.int .i64), .agg [.int .i64, .int .i64, .int .i64]], [], 0⟩
noncomputable def flat_0 (p : Int) (a : Int) (b : Int) (c : Int) : Int :=
  bif p == 17 then a else bif p == 18 then c else bif p == 19 then b else 0
noncomputable def flat_1 (p : Int) (a : Int) (b : Int) (c : Int) : Int :=
  bif p == 17 then b else bif p == 18 then a else bif p == 19 then c else 0
noncomputable def flat_2 (p : Int) (a : Int) (b : Int) (c : Int) : Int :=
  bif p == 17 then c else bif p == 18 then b else bif p == 19 then a else 0
noncomputable def flat_3 (p : Int) : Bool :=
  p == 17 || (p == 18 || p == 19)
set_option maxRecDepth 1000000 in
theorem flat_runs (p a b c : Int) : Runs (runF (sums K_oclear) L_fl 55) (flat_tpl.args [.i p, .i a, .i b, .i c]) (flat_tpl.memo [.i p, .i a, .i b, .i c] []) flat_tpl.n (SV.tup [(true, [SC.int IntKind.i64 (SI.v (flat_0 p a b c)), SC.int IntKind.i64 (SI.v (flat_1 p a b c))]), (false, [SC.int IntKind.i64 (SI.v (flat_2 p a b c))]), (false, [SC.bool (SB.v (flat_3 p))])])
    ([]) :=
  Runs.of1 (ps := []) (by kernel_rfl) (by simp)
noncomputable def flat_out : List Pm → Lss → Option CRes
  | [.i p, .i a, .i b, .i c], [] => some ⟨SV.tup [(true, [SC.int IntKind.i64 (SI.v (flat_0 p a b c)), SC.int IntKind.i64 (SI.v (flat_1 p a b c))]), (false, [SC.int IntKind.i64 (SI.v (flat_2 p a b c))]), (false, [SC.bool (SB.v (flat_3 p))])],
    [],
    [], [], 66⟩
  | _, _ => none
theorem flat_ok : FOk Try.prog 55 (tplS flat_tpl flat_out) := by
  refine tplS_ok (runF_ok known_oclear 55) fun ps ls r hr hn _ => ?_
  unfold flat_out at hr
  split at hr
  · cases hr; exact ⟨_, flat_runs _ _ _ _, fun _ => rfl⟩
  · cases hr
noncomputable def K_flat : List (Nat × Summ) := (55, tplS flat_tpl flat_out) :: K_oclear
theorem known_flat : Known Try.prog (sums K_flat) L_fl := known_cons known_oclear flat_ok
noncomputable def solid_tpl : Tpl := ⟨[.one (.int .i64), .agg [.int .i64, .int .i64], .one (.int .i64)], [], 0⟩
noncomputable def solid_0 (p : Int) (u : Int) (w : Int) (h : Int) : Int :=
  bif p == 17 then u else bif p == 18 then w else bif p == 19 then h else 0
noncomputable def solid_1 (p : Int) (u : Int) (w : Int) (h : Int) : Int :=
  bif p == 17 then w else bif p == 18 then h else bif p == 19 then u else 0
noncomputable def solid_2 (p : Int) (u : Int) (w : Int) (h : Int) : Int :=
  bif p == 17 then h else bif p == 18 then u else bif p == 19 then w else 0
set_option maxRecDepth 1000000 in
theorem solid_runs (p u w h : Int) : Runs (runF (sums K_flat) L_fl 77) (solid_tpl.args [.i p, .i u, .i w, .i h]) (solid_tpl.memo [.i p, .i u, .i w, .i h] []) solid_tpl.n (SV.tup [(true, [SC.int IntKind.i64 (SI.v (solid_0 p u w h)), SC.int IntKind.i64 (SI.v (solid_1 p u w h)), SC.int IntKind.i64 (SI.v (solid_2 p u w h))]), (false, [SC.bool (SB.v (flat_3 p))])])
    ([]) :=
  Runs.of1 (ps := []) (by kernel_rfl) (by simp)
noncomputable def solid_out : List Pm → Lss → Option CRes
  | [.i p, .i u, .i w, .i h], [] => some ⟨SV.tup [(true, [SC.int IntKind.i64 (SI.v (solid_0 p u w h)), SC.int IntKind.i64 (SI.v (solid_1 p u w h)), SC.int IntKind.i64 (SI.v (solid_2 p u w h))]), (false, [SC.bool (SB.v (flat_3 p))])],
    [],
    [], [], 65⟩
  | _, _ => none
theorem solid_ok : FOk Try.prog 77 (tplS solid_tpl solid_out) := by
  refine tplS_ok (runF_ok known_flat 77) fun ps ls r hr hn _ => ?_
  unfold solid_out at hr
  split at hr
  · cases hr; exact ⟨_, solid_runs _ _ _ _, fun _ => rfl⟩
  · cases hr
noncomputable def K_solid : List (Nat × Summ) := (77, tplS solid_tpl solid_out) :: K_flat
theorem known_solid : Known Try.prog (sums K_solid) L_fl := known_cons known_flat solid_ok
noncomputable def vwithin_tpl : Tpl := ⟨[.agg [.int .i64, .int .i64, .int .i64]], [], 0⟩
noncomputable def vwithin_0 (a : Int) (b : Int) (c : Int) : Bool :=
  decide (a ≥ -1048576) && decide (a ≤ 1048576) && (decide (b ≥ -1048576) && decide (b ≤ 1048576)) && (decide (c ≥ -1048576) && decide (c ≤ 1048576))
set_option maxRecDepth 1000000 in
theorem vwithin_runs (a b c : Int) : Runs (runF (sums K_solid) L_fl 52) (vwithin_tpl.args [.i a, .i b, .i c]) (vwithin_tpl.memo [.i a, .i b, .i c] []) vwithin_tpl.n (SV.one (SC.bool (SB.v (vwithin_0 a b c))))
    ([]) :=
  Runs.of1 (ps := []) (by kernel_rfl) (by simp)
noncomputable def vwithin_out : List Pm → Lss → Option CRes
  | [.i a, .i b, .i c], [] => some ⟨SV.one (SC.bool (SB.v (vwithin_0 a b c))),
    [],
    [], [], 44⟩
  | _, _ => none
theorem vwithin_ok : FOk Try.prog 52 (tplS vwithin_tpl vwithin_out) := by
  refine tplS_ok (runF_ok known_solid 52) fun ps ls r hr hn _ => ?_
  unfold vwithin_out at hr
  split at hr
  · cases hr; exact ⟨_, vwithin_runs _ _ _, fun _ => rfl⟩
  · cases hr
noncomputable def K_vwithin : List (Nat × Summ) := (52, tplS vwithin_tpl vwithin_out) :: K_solid
theorem known_vwithin : Known Try.prog (sums K_vwithin) L_fl := known_cons known_solid vwithin_ok
noncomputable def similar_tpl : Tpl := ⟨[.one (.int .i64), .one (.int .i64)], [], 0⟩
noncomputable def similar_s0 (a : Int) (b : Int) : Int :=
  IntKind.i64.wrap (IntKind.i64.wrap ((if b > a then b else a) - if b < a then b else a) - 16)
noncomputable def similar_s1 (a : Int) (b : Int) : Int :=
  wcmp_0 (similar_s0 a b) (similar_s0 a b) 64 (if b < a then b else a)
noncomputable def similar_0 (a : Int) (b : Int) : Bool :=
  decide (similar_s0 a b ≤ 0) || decide (similar_s1 a b ≤ 0)
set_option maxRecDepth 1000000 in
theorem similar_runs (a b : Int) : Runs (runF (sums K_vwithin) L_fl 71) (similar_tpl.args [.i a, .i b]) (similar_tpl.memo [.i a, .i b] []) similar_tpl.n (SV.one (SC.bool (SB.v (similar_0 a b))))
    ([]) :=
  Runs.of1 (ps := []) (by kernel_rfl) (by simp)
noncomputable def similar_out : List Pm → Lss → Option CRes
  | [.i a, .i b], [] => some ⟨SV.one (SC.bool (SB.v (similar_0 a b))),
    [],
    [], [], 310⟩
  | _, _ => none
theorem similar_ok : FOk Try.prog 71 (tplS similar_tpl similar_out) := by
  refine tplS_ok (runF_ok known_vwithin 71) fun ps ls r hr hn _ => ?_
  unfold similar_out at hr
  split at hr
  · cases hr; exact ⟨_, similar_runs _ _, fun _ => rfl⟩
  · cases hr
noncomputable def K_similar : List (Nat × Summ) := (71, tplS similar_tpl similar_out) :: K_vwithin
theorem known_similar : Known Try.prog (sums K_similar) L_fl := known_cons known_vwithin similar_ok
noncomputable def aligned_tpl : Tpl := ⟨[.agg [.int .i64, .int .i64], .agg [.int .i64, .int .i64]], [], 0⟩
noncomputable def aligned_0 (a : Int) (b : Int) (c : Int) (d : Int) : Bool :=
  vcross_0 a b c d == 0 && decide (vinner_0 a b c d > 0)
set_option maxRecDepth 1000000 in
theorem aligned_runs (a b c d : Int) : Runs (runF (sums K_similar) L_fl 72) (aligned_tpl.args [.i a, .i b, .i c, .i d]) (aligned_tpl.memo [.i a, .i b, .i c, .i d] []) aligned_tpl.n (SV.one (SC.bool (SB.v (aligned_0 a b c d))))
    ([]) :=
  Runs.of1 (ps := []) (by kernel_rfl) (by simp)
noncomputable def aligned_out : List Pm → Lss → Option CRes
  | [.i a, .i b, .i c, .i d], [] => some ⟨SV.one (SC.bool (SB.v (aligned_0 a b c d))),
    [],
    [], [], 62⟩
  | _, _ => none
theorem aligned_ok : FOk Try.prog 72 (tplS aligned_tpl aligned_out) := by
  refine tplS_ok (runF_ok known_similar 72) fun ps ls r hr hn _ => ?_
  unfold aligned_out at hr
  split at hr
  · cases hr; exact ⟨_, aligned_runs _ _ _ _, fun _ => rfl⟩
  · cases hr
noncomputable def K_aligned : List (Nat × Summ) := (72, tplS aligned_tpl aligned_out) :: K_similar
theorem known_aligned : Known Try.prog (sums K_aligned) L_fl := known_cons known_similar aligned_ok
noncomputable def oitem_tpl : Tpl := ⟨[.agg [.int .i64, .int .i64, .int .i64, .int .i64, .int .i64, .int .i64, .int .i64, .bool]], [], 0⟩
noncomputable def oitem_0 (e6 : Int) : Int :=
  bif e6 != 0 then 3 else 2
noncomputable def oitem_1 (e4 : Int) (e6 : Int) : Int :=
  bif e6 != 0 then e4 else 0
noncomputable def oitem_3 (e6 : Int) : Int :=
  bif e6 != 0 then e6 else 0
noncomputable def oitem_4 (e6 : Int) (e7 : Bool) : Bool :=
  e6 != 0 && e7
set_option maxRecDepth 1000000 in
theorem oitem_runs (e0 e1 e2 e3 e4 e5 e6 : Int) (e7 : Bool) : Runs (runF (sums K_aligned) L_fl 61) (oitem_tpl.args [.i e0, .i e1, .i e2, .i e3, .i e4, .i e5, .i e6, .b e7]) (oitem_tpl.memo [.i e0, .i e1, .i e2, .i e3, .i e4, .i e5, .i e6, .b e7] []) oitem_tpl.n (SV.agg
    [SC.int IntKind.i64 (SI.v (oitem_0 e6)), SC.int IntKind.i64 (SI.c 0), SC.int IntKind.i64 (SI.v e0), SC.int IntKind.i64 (SI.v e1), SC.int IntKind.i64 (SI.c 0), SC.int IntKind.i64 (SI.v e2),
      SC.int IntKind.i64 (SI.v e3), SC.int IntKind.i64 (SI.c 0), SC.int IntKind.i64 (SI.c 17), SC.int IntKind.i64 (SI.v (oitem_1 e4 e6)), SC.int IntKind.i64 (SI.v (oitem_1 e5 e6)),
      SC.int IntKind.i64 (SI.c 0), SC.int IntKind.i64 (SI.v (oitem_3 e6)), SC.bool (SB.v (oitem_4 e6 e7)), SC.int IntKind.i64 (SI.c 0), SC.bool (SB.c false), SC.int IntKind.i64 (SI.c 0),
      SC.int IntKind.i64 (SI.c 0), SC.int IntKind.i64 (SI.c 0), SC.int IntKind.i64 (SI.c 0), SC.int IntKind.i64 (SI.c 0), SC.bool (SB.c false)])
    ([]) :=
  Runs.of1 (ps := []) (by kernel_rfl) (by simp)
noncomputable def oitem_out : List Pm → Lss → Option CRes
  | [.i e0, .i e1, .i e2, .i e3, .i e4, .i e5, .i e6, .b e7], [] => some ⟨SV.agg
    [SC.int IntKind.i64 (SI.v (oitem_0 e6)), SC.int IntKind.i64 (SI.c 0), SC.int IntKind.i64 (SI.v e0), SC.int IntKind.i64 (SI.v e1), SC.int IntKind.i64 (SI.c 0), SC.int IntKind.i64 (SI.v e2),
      SC.int IntKind.i64 (SI.v e3), SC.int IntKind.i64 (SI.c 0), SC.int IntKind.i64 (SI.c 17), SC.int IntKind.i64 (SI.v (oitem_1 e4 e6)), SC.int IntKind.i64 (SI.v (oitem_1 e5 e6)),
      SC.int IntKind.i64 (SI.c 0), SC.int IntKind.i64 (SI.v (oitem_3 e6)), SC.bool (SB.v (oitem_4 e6 e7)), SC.int IntKind.i64 (SI.c 0), SC.bool (SB.c false), SC.int IntKind.i64 (SI.c 0),
      SC.int IntKind.i64 (SI.c 0), SC.int IntKind.i64 (SI.c 0), SC.int IntKind.i64 (SI.c 0), SC.int IntKind.i64 (SI.c 0), SC.bool (SB.c false)],
    [],
    [], [], 206⟩
  | _, _ => none
theorem oitem_ok : FOk Try.prog 61 (tplS oitem_tpl oitem_out) := by
  refine tplS_ok (runF_ok known_aligned 61) fun ps ls r hr hn _ => ?_
  unfold oitem_out at hr
  split at hr
  · cases hr; exact ⟨_, oitem_runs _ _ _ _ _ _ _ _, fun _ => rfl⟩
  · cases hr
noncomputable def K_oitem : List (Nat × Summ) := (61, tplS oitem_tpl oitem_out) :: K_aligned
theorem known_oitem : Known Try.prog (sums K_oitem) L_fl := known_cons known_aligned oitem_ok
noncomputable def aspokes_tpl : Tpl := ⟨[.agg [.int .i64, .int .i64, .int .i64, .int .i64, .int .i64, .int .i64, .int .i64, .int .i64, .int .i64, .int .i64, .int .i64, .int .i64, .int .i64, .bool, .int .i64, .bool, .int .i64, .int .i64, .int .i64, .int .i64, .int .i64, .bool]], [], 0⟩
noncomputable def aspokes_0 (f0 : Int) (f1 : Int) (f2 : Int) (p : Int) (c0 : Int) (c1 : Int) (c2 : Int) : Int :=
  IntKind.i64.wrap (flat_0 p f0 f1 f2 - flat_0 p c0 c1 c2)
noncomputable def aspokes_1 (f0 : Int) (f1 : Int) (f2 : Int) (p : Int) (c0 : Int) (c1 : Int) (c2 : Int) : Int :=
  IntKind.i64.wrap (flat_1 p f0 f1 f2 - flat_1 p c0 c1 c2)
set_option maxRecDepth 1000000 in
theorem aspokes_runs (k bl f0 f1 f2 t0 t1 t2 p c0 c1 c2 d : Int) (fu : Bool) (fe : Int) (pr : Bool) (si ra be n sp : Int) (on : Bool) : Runs (runF (sums K_oitem) L_fl 70) (aspokes_tpl.args [.i k, .i bl, .i f0, .i f1, .i f2, .i t0, .i t1, .i t2, .i p, .i c0, .i c1, .i c2, .i d, .b fu, .i fe, .b pr, .i si, .i ra, .i be, .i n, .i sp, .b on]) (aspokes_tpl.memo [.i k, .i bl, .i f0, .i f1, .i f2, .i t0, .i t1, .i t2, .i p, .i c0, .i c1, .i c2, .i d, .b fu, .i fe, .b pr, .i si, .i ra, .i be, .i n, .i sp, .b on] []) aspokes_tpl.n (SV.tup
    [(true, [SC.int IntKind.i64 (SI.v (aspokes_0 f0 f1 f2 p c0 c1 c2)), SC.int IntKind.i64 (SI.v (aspokes_1 f0 f1 f2 p c0 c1 c2))]),
      (true, [SC.int IntKind.i64 (SI.v (aspokes_0 t0 t1 t2 p c0 c1 c2)), SC.int IntKind.i64 (SI.v (aspokes_1 t0 t1 t2 p c0 c1 c2))])])
    ([]) :=
  Runs.of1 (ps := []) (by kernel_rfl) (by simp)
noncomputable def aspokes_out : List Pm → Lss → Option CRes
  | [.i k, .i bl, .i f0, .i f1, .i f2, .i t0, .i t1, .i t2, .i p, .i c0, .i c1, .i c2, .i d, .b fu, .i fe, .b pr, .i si, .i ra, .i be, .i n, .i sp, .b on], [] => some ⟨SV.tup
    [(true, [SC.int IntKind.i64 (SI.v (aspokes_0 f0 f1 f2 p c0 c1 c2)), SC.int IntKind.i64 (SI.v (aspokes_1 f0 f1 f2 p c0 c1 c2))]),
      (true, [SC.int IntKind.i64 (SI.v (aspokes_0 t0 t1 t2 p c0 c1 c2)), SC.int IntKind.i64 (SI.v (aspokes_1 t0 t1 t2 p c0 c1 c2))])],
    [],
    [], [], 312⟩
  | _, _ => none
theorem aspokes_ok : FOk Try.prog 70 (tplS aspokes_tpl aspokes_out) := by
  refine tplS_ok (runF_ok known_oitem 70) fun ps ls r hr hn _ => ?_
  unfold aspokes_out at hr
  split at hr
  · cases hr; exact ⟨_, aspokes_runs _ _ _ _ _ _ _ _ _ _ _ _ _ _ _ _ _ _ _ _ _ _, fun _ => rfl⟩
  · cases hr
noncomputable def K_aspokes : List (Nat × Summ) := (70, tplS aspokes_tpl aspokes_out) :: K_oitem
theorem known_aspokes : Known Try.prog (sums K_aspokes) L_fl := known_cons known_oitem aspokes_ok
noncomputable def atang_tpl : Tpl := ⟨[.agg [.int .i64, .int .i64, .int .i64, .int .i64, .int .i64, .int .i64, .int .i64, .int .i64, .int .i64, .int .i64, .int .i64, .int .i64, .int .i64, .bool, .int .i64, .bool, .int .i64, .int .i64, .int .i64, .int .i64, .int .i64, .bool], .one (.bool)], [], 0⟩
noncomputable def atang_s0 (f0 : Int) (f1 : Int) (f2 : Int) (t0 : Int) (t1 : Int) (t2 : Int) (p : Int) (c0 : Int) (c1 : Int) (c2 : Int) (e : Bool) : Int :=
  bif e then aspokes_1 t0 t1 t2 p c0 c1 c2 else aspokes_1 f0 f1 f2 p c0 c1 c2
noncomputable def atang_0 (k : Int) (f0 : Int) (f1 : Int) (f2 : Int) (t0 : Int) (t1 : Int) (t2 : Int) (p : Int) (c0 : Int) (c1 : Int) (c2 : Int) (d : Int) (e : Bool) : Int :=
  bif k != 3 then IntKind.i64.wrap (flat_0 p t0 t1 t2 - flat_0 p f0 f1 f2)
  else bif decide (d < 0) then atang_s0 f0 f1 f2 t0 t1 t2 p c0 c1 c2 e else IntKind.i64.wrap (0 - atang_s0 f0 f1 f2 t0 t1 t2 p c0 c1 c2 e)
noncomputable def atang_s1 (f0 : Int) (f1 : Int) (f2 : Int) (t0 : Int) (t1 : Int) (t2 : Int) (p : Int) (c0 : Int) (c1 : Int) (c2 : Int) (e : Bool) : Int :=
  bif e then aspokes_0 t0 t1 t2 p c0 c1 c2 else aspokes_0 f0 f1 f2 p c0 c1 c2
noncomputable def atang_1 (k : Int) (f0 : Int) (f1 : Int) (f2 : Int) (t0 : Int) (t1 : Int) (t2 : Int) (p : Int) (c0 : Int) (c1 : Int) (c2 : Int) (d : Int) (e : Bool) : Int :=
  bif k != 3 then IntKind.i64.wrap (flat_1 p t0 t1 t2 - flat_1 p f0 f1 f2)
  else bif decide (d < 0) then IntKind.i64.wrap (0 - atang_s1 f0 f1 f2 t0 t1 t2 p c0 c1 c2 e) else atang_s1 f0 f1 f2 t0 t1 t2 p c0 c1 c2 e
set_option maxRecDepth 1000000 in
theorem atang_runs (k bl f0 f1 f2 t0 t1 t2 p c0 c1 c2 d : Int) (fu : Bool) (fe : Int) (pr : Bool) (si ra be n sp : Int) (on e : Bool) : Runs (runF (sums K_aspokes) L_fl 60) (atang_tpl.args [.i k, .i bl, .i f0, .i f1, .i f2, .i t0, .i t1, .i t2, .i p, .i c0, .i c1, .i c2, .i d, .b fu, .i fe, .b pr, .i si, .i ra, .i be, .i n, .i sp, .b on, .b e]) (atang_tpl.memo [.i k, .i bl, .i f0, .i f1, .i f2, .i t0, .i t1, .i t2, .i p, .i c0, .i c1, .i c2, .i d, .b fu, .i fe, .b pr, .i si, .i ra, .i be, .i n, .i sp, .b on, .b e] []) atang_tpl.n (SV.agg [SC.int IntKind.i64 (SI.v (atang_0 k f0 f1 f2 t0 t1 t2 p c0 c1 c2 d e)), SC.int IntKind.i64 (SI.v (atang_1 k f0 f1 f2 t0 t1 t2 p c0 c1 c2 d e))])
    ([]) :=
  Runs.of1 (ps := []) (by kernel_rfl) (by simp)
noncomputable def atang_out : List Pm → Lss → Option CRes
  | [.i k, .i bl, .i f0, .i f1, .i f2, .i t0, .i t1, .i t2, .i p, .i c0, .i c1, .i c2, .i d, .b fu, .i fe, .b pr, .i si, .i ra, .i be, .i n, .i sp, .b on, .b e], [] => some ⟨SV.agg [SC.int IntKind.i64 (SI.v (atang_0 k f0 f1 f2 t0 t1 t2 p c0 c1 c2 d e)), SC.int IntKind.i64 (SI.v (atang_1 k f0 f1 f2 t0 t1 t2 p c0 c1 c2 d e))],
    [],
    [], [], 576⟩
  | _, _ => none
theorem atang_ok : FOk Try.prog 60 (tplS atang_tpl atang_out) := by
  refine tplS_ok (runF_ok known_aspokes 60) fun ps ls r hr hn _ => ?_
  unfold atang_out at hr
  split at hr
  · cases hr; exact ⟨_, atang_runs _ _ _ _ _ _ _ _ _ _ _ _ _ _ _ _ _ _ _ _ _ _ _, fun _ => rfl⟩
  · cases hr
noncomputable def K_atang : List (Nat × Summ) := (60, tplS atang_tpl atang_out) :: K_aspokes
theorem known_atang : Known Try.prog (sums K_atang) L_fl := known_cons known_aspokes atang_ok
noncomputable def oends_tpl : Tpl := ⟨[.agg [.int .i64, .int .i64, .int .i64, .int .i64, .int .i64, .int .i64, .int .i64, .bool], .one (.int .i64)], [], 0⟩
noncomputable def oends_s0 (r : Int) : Int :=
  IntKind.i64.wrap ((if IntKind.i64.wrap (0 - r) > r then IntKind.i64.wrap (0 - r) else r) + 8)
noncomputable def oends_s1 (e0 : Int) (e1 : Int) (e2 : Int) (e3 : Int) (e4 : Int) (e5 : Int) (e6 : Int) (r : Int) : Int :=
  onormal_0 e0 e1 (atang_0 (oitem_0 e6) e0 e1 0 e2 e3 0 17 (oitem_1 e4 e6) (oitem_1 e5 e6) 0 (oitem_3 e6) false)
    (atang_1 (oitem_0 e6) e0 e1 0 e2 e3 0 17 (oitem_1 e4 e6) (oitem_1 e5 e6) 0 (oitem_3 e6) false) r
noncomputable def oends_s2 (e0 : Int) (e1 : Int) (e2 : Int) (e3 : Int) (e4 : Int) (e5 : Int) (e6 : Int) (r : Int) : Int :=
  bif !oin_0 (oends_s1 e0 e1 e2 e3 e4 e5 e6 r) 1048576 then 0
  else
    bif
        !oin_0
            (onormal_1 e0 e1 (atang_0 (oitem_0 e6) e0 e1 0 e2 e3 0 17 (oitem_1 e4 e6) (oitem_1 e5 e6) 0 (oitem_3 e6) false)
              (atang_1 (oitem_0 e6) e0 e1 0 e2 e3 0 17 (oitem_1 e4 e6) (oitem_1 e5 e6) 0 (oitem_3 e6) false) r)
            1048576 then
      0
    else
      bif
          !oin_0
              (onormal_0 e2 e3 (atang_0 (oitem_0 e6) e0 e1 0 e2 e3 0 17 (oitem_1 e4 e6) (oitem_1 e5 e6) 0 (oitem_3 e6) true)
                (atang_1 (oitem_0 e6) e0 e1 0 e2 e3 0 17 (oitem_1 e4 e6) (oitem_1 e5 e6) 0 (oitem_3 e6) true) r)
              1048576 then
        0
      else
        bif
            !oin_0
                (onormal_1 e2 e3 (atang_0 (oitem_0 e6) e0 e1 0 e2 e3 0 17 (oitem_1 e4 e6) (oitem_1 e5 e6) 0 (oitem_3 e6) true)
                  (atang_1 (oitem_0 e6) e0 e1 0 e2 e3 0 17 (oitem_1 e4 e6) (oitem_1 e5 e6) 0 (oitem_3 e6) true) r)
                1048576 then
          0
        else oends_s1 e0 e1 e2 e3 e4 e5 e6 r
noncomputable def oends_0 (e0 : Int) (e1 : Int) (e2 : Int) (e3 : Int) (e4 : Int) (e5 : Int) (e6 : Int) (r : Int) : Int :=
  bif e6 != 0 && oinward_0 e6 r then
    bif decide (vinner_0 (minus_0 e0 e4) (minus_0 e1 e5) (minus_0 e0 e4) (minus_0 e1 e5) < IntKind.i64.wrap (oends_s0 r * oends_s0 r)) then 0
    else bif decide (vinner_0 (minus_0 e2 e4) (minus_0 e3 e5) (minus_0 e2 e4) (minus_0 e3 e5) < IntKind.i64.wrap (oends_s0 r * oends_s0 r)) then 0 else oends_s2 e0 e1 e2 e3 e4 e5 e6 r
  else oends_s2 e0 e1 e2 e3 e4 e5 e6 r
noncomputable def oends_s3 (e0 : Int) (e1 : Int) (e2 : Int) (e3 : Int) (e4 : Int) (e5 : Int) (e6 : Int) (r : Int) : Int :=
  onormal_1 e0 e1 (atang_0 (oitem_0 e6) e0 e1 0 e2 e3 0 17 (oitem_1 e4 e6) (oitem_1 e5 e6) 0 (oitem_3 e6) false)
    (atang_1 (oitem_0 e6) e0 e1 0 e2 e3 0 17 (oitem_1 e4 e6) (oitem_1 e5 e6) 0 (oitem_3 e6) false) r
noncomputable def oends_s4 (e0 : Int) (e1 : Int) (e2 : Int) (e3 : Int) (e4 : Int) (e5 : Int) (e6 : Int) (r : Int) : Int :=
  bif
      !oin_0
          (onormal_0 e0 e1 (atang_0 (oitem_0 e6) e0 e1 0 e2 e3 0 17 (oitem_1 e4 e6) (oitem_1 e5 e6) 0 (oitem_3 e6) false)
            (atang_1 (oitem_0 e6) e0 e1 0 e2 e3 0 17 (oitem_1 e4 e6) (oitem_1 e5 e6) 0 (oitem_3 e6) false) r)
          1048576 then
    0
  else
    bif !oin_0 (oends_s3 e0 e1 e2 e3 e4 e5 e6 r) 1048576 then 0
    else
      bif
          !oin_0
              (onormal_0 e2 e3 (atang_0 (oitem_0 e6) e0 e1 0 e2 e3 0 17 (oitem_1 e4 e6) (oitem_1 e5 e6) 0 (oitem_3 e6) true)
                (atang_1 (oitem_0 e6) e0 e1 0 e2 e3 0 17 (oitem_1 e4 e6) (oitem_1 e5 e6) 0 (oitem_3 e6) true) r)
              1048576 then
        0
      else
        bif
            !oin_0
                (onormal_1 e2 e3 (atang_0 (oitem_0 e6) e0 e1 0 e2 e3 0 17 (oitem_1 e4 e6) (oitem_1 e5 e6) 0 (oitem_3 e6) true)
                  (atang_1 (oitem_0 e6) e0 e1 0 e2 e3 0 17 (oitem_1 e4 e6) (oitem_1 e5 e6) 0 (oitem_3 e6) true) r)
                1048576 then
          0
        else oends_s3 e0 e1 e2 e3 e4 e5 e6 r
noncomputable def oends_1 (e0 : Int) (e1 : Int) (e2 : Int) (e3 : Int) (e4 : Int) (e5 : Int) (e6 : Int) (r : Int) : Int :=
  bif e6 != 0 && oinward_0 e6 r then
    bif decide (vinner_0 (minus_0 e0 e4) (minus_0 e1 e5) (minus_0 e0 e4) (minus_0 e1 e5) < IntKind.i64.wrap (oends_s0 r * oends_s0 r)) then 0
    else bif decide (vinner_0 (minus_0 e2 e4) (minus_0 e3 e5) (minus_0 e2 e4) (minus_0 e3 e5) < IntKind.i64.wrap (oends_s0 r * oends_s0 r)) then 0 else oends_s4 e0 e1 e2 e3 e4 e5 e6 r
  else oends_s4 e0 e1 e2 e3 e4 e5 e6 r
noncomputable def oends_s5 (e0 : Int) (e1 : Int) (e2 : Int) (e3 : Int) (e4 : Int) (e5 : Int) (e6 : Int) (r : Int) : Int :=
  onormal_0 e2 e3 (atang_0 (oitem_0 e6) e0 e1 0 e2 e3 0 17 (oitem_1 e4 e6) (oitem_1 e5 e6) 0 (oitem_3 e6) true)
    (atang_1 (oitem_0 e6) e0 e1 0 e2 e3 0 17 (oitem_1 e4 e6) (oitem_1 e5 e6) 0 (oitem_3 e6) true) r
noncomputable def oends_s6 (e0 : Int) (e1 : Int) (e2 : Int) (e3 : Int) (e4 : Int) (e5 : Int) (e6 : Int) (r : Int) : Int :=
  bif
      !oin_0
          (onormal_0 e0 e1 (atang_0 (oitem_0 e6) e0 e1 0 e2 e3 0 17 (oitem_1 e4 e6) (oitem_1 e5 e6) 0 (oitem_3 e6) false)
            (atang_1 (oitem_0 e6) e0 e1 0 e2 e3 0 17 (oitem_1 e4 e6) (oitem_1 e5 e6) 0 (oitem_3 e6) false) r)
          1048576 then
    0
  else
    bif
        !oin_0
            (onormal_1 e0 e1 (atang_0 (oitem_0 e6) e0 e1 0 e2 e3 0 17 (oitem_1 e4 e6) (oitem_1 e5 e6) 0 (oitem_3 e6) false)
              (atang_1 (oitem_0 e6) e0 e1 0 e2 e3 0 17 (oitem_1 e4 e6) (oitem_1 e5 e6) 0 (oitem_3 e6) false) r)
            1048576 then
      0
    else
      bif !oin_0 (oends_s5 e0 e1 e2 e3 e4 e5 e6 r) 1048576 then 0
      else
        bif
            !oin_0
                (onormal_1 e2 e3 (atang_0 (oitem_0 e6) e0 e1 0 e2 e3 0 17 (oitem_1 e4 e6) (oitem_1 e5 e6) 0 (oitem_3 e6) true)
                  (atang_1 (oitem_0 e6) e0 e1 0 e2 e3 0 17 (oitem_1 e4 e6) (oitem_1 e5 e6) 0 (oitem_3 e6) true) r)
                1048576 then
          0
        else oends_s5 e0 e1 e2 e3 e4 e5 e6 r
noncomputable def oends_2 (e0 : Int) (e1 : Int) (e2 : Int) (e3 : Int) (e4 : Int) (e5 : Int) (e6 : Int) (r : Int) : Int :=
  bif e6 != 0 && oinward_0 e6 r then
    bif decide (vinner_0 (minus_0 e0 e4) (minus_0 e1 e5) (minus_0 e0 e4) (minus_0 e1 e5) < IntKind.i64.wrap (oends_s0 r * oends_s0 r)) then 0
    else bif decide (vinner_0 (minus_0 e2 e4) (minus_0 e3 e5) (minus_0 e2 e4) (minus_0 e3 e5) < IntKind.i64.wrap (oends_s0 r * oends_s0 r)) then 0 else oends_s6 e0 e1 e2 e3 e4 e5 e6 r
  else oends_s6 e0 e1 e2 e3 e4 e5 e6 r
noncomputable def oends_s7 (e0 : Int) (e1 : Int) (e2 : Int) (e3 : Int) (e4 : Int) (e5 : Int) (e6 : Int) (r : Int) : Int :=
  onormal_1 e2 e3 (atang_0 (oitem_0 e6) e0 e1 0 e2 e3 0 17 (oitem_1 e4 e6) (oitem_1 e5 e6) 0 (oitem_3 e6) true)
    (atang_1 (oitem_0 e6) e0 e1 0 e2 e3 0 17 (oitem_1 e4 e6) (oitem_1 e5 e6) 0 (oitem_3 e6) true) r
noncomputable def oends_s8 (e0 : Int) (e1 : Int) (e2 : Int) (e3 : Int) (e4 : Int) (e5 : Int) (e6 : Int) (r : Int) : Int :=
  bif
      !oin_0
          (onormal_0 e0 e1 (atang_0 (oitem_0 e6) e0 e1 0 e2 e3 0 17 (oitem_1 e4 e6) (oitem_1 e5 e6) 0 (oitem_3 e6) false)
            (atang_1 (oitem_0 e6) e0 e1 0 e2 e3 0 17 (oitem_1 e4 e6) (oitem_1 e5 e6) 0 (oitem_3 e6) false) r)
          1048576 then
    0
  else
    bif
        !oin_0
            (onormal_1 e0 e1 (atang_0 (oitem_0 e6) e0 e1 0 e2 e3 0 17 (oitem_1 e4 e6) (oitem_1 e5 e6) 0 (oitem_3 e6) false)
              (atang_1 (oitem_0 e6) e0 e1 0 e2 e3 0 17 (oitem_1 e4 e6) (oitem_1 e5 e6) 0 (oitem_3 e6) false) r)
            1048576 then
      0
    else
      bif
          !oin_0
              (onormal_0 e2 e3 (atang_0 (oitem_0 e6) e0 e1 0 e2 e3 0 17 (oitem_1 e4 e6) (oitem_1 e5 e6) 0 (oitem_3 e6) true)
                (atang_1 (oitem_0 e6) e0 e1 0 e2 e3 0 17 (oitem_1 e4 e6) (oitem_1 e5 e6) 0 (oitem_3 e6) true) r)
              1048576 then
        0
      else bif !oin_0 (oends_s7 e0 e1 e2 e3 e4 e5 e6 r) 1048576 then 0 else oends_s7 e0 e1 e2 e3 e4 e5 e6 r
noncomputable def oends_3 (e0 : Int) (e1 : Int) (e2 : Int) (e3 : Int) (e4 : Int) (e5 : Int) (e6 : Int) (r : Int) : Int :=
  bif e6 != 0 && oinward_0 e6 r then
    bif decide (vinner_0 (minus_0 e0 e4) (minus_0 e1 e5) (minus_0 e0 e4) (minus_0 e1 e5) < IntKind.i64.wrap (oends_s0 r * oends_s0 r)) then 0
    else bif decide (vinner_0 (minus_0 e2 e4) (minus_0 e3 e5) (minus_0 e2 e4) (minus_0 e3 e5) < IntKind.i64.wrap (oends_s0 r * oends_s0 r)) then 0 else oends_s8 e0 e1 e2 e3 e4 e5 e6 r
  else oends_s8 e0 e1 e2 e3 e4 e5 e6 r
noncomputable def oends_s9 (e0 : Int) (e1 : Int) (e2 : Int) (e3 : Int) (e4 : Int) (e5 : Int) (e6 : Int) (r : Int) : Int :=
  bif
      !oin_0
          (onormal_0 e0 e1 (atang_0 (oitem_0 e6) e0 e1 0 e2 e3 0 17 (oitem_1 e4 e6) (oitem_1 e5 e6) 0 (oitem_3 e6) false)
            (atang_1 (oitem_0 e6) e0 e1 0 e2 e3 0 17 (oitem_1 e4 e6) (oitem_1 e5 e6) 0 (oitem_3 e6) false) r)
          1048576 then
    3
  else
    bif
        !oin_0
            (onormal_1 e0 e1 (atang_0 (oitem_0 e6) e0 e1 0 e2 e3 0 17 (oitem_1 e4 e6) (oitem_1 e5 e6) 0 (oitem_3 e6) false)
              (atang_1 (oitem_0 e6) e0 e1 0 e2 e3 0 17 (oitem_1 e4 e6) (oitem_1 e5 e6) 0 (oitem_3 e6) false) r)
            1048576 then
      3
    else
      bif
          !oin_0
              (onormal_0 e2 e3 (atang_0 (oitem_0 e6) e0 e1 0 e2 e3 0 17 (oitem_1 e4 e6) (oitem_1 e5 e6) 0 (oitem_3 e6) true)
                (atang_1 (oitem_0 e6) e0 e1 0 e2 e3 0 17 (oitem_1 e4 e6) (oitem_1 e5 e6) 0 (oitem_3 e6) true) r)
              1048576 then
        3
      else
        bif
            !oin_0
                (onormal_1 e2 e3 (atang_0 (oitem_0 e6) e0 e1 0 e2 e3 0 17 (oitem_1 e4 e6) (oitem_1 e5 e6) 0 (oitem_3 e6) true)
                  (atang_1 (oitem_0 e6) e0 e1 0 e2 e3 0 17 (oitem_1 e4 e6) (oitem_1 e5 e6) 0 (oitem_3 e6) true) r)
                1048576 then
          3
        else 0
noncomputable def oends_4 (e0 : Int) (e1 : Int) (e2 : Int) (e3 : Int) (e4 : Int) (e5 : Int) (e6 : Int) (r : Int) : Int :=
  bif e6 != 0 && oinward_0 e6 r then
    bif decide (vinner_0 (minus_0 e0 e4) (minus_0 e1 e5) (minus_0 e0 e4) (minus_0 e1 e5) < IntKind.i64.wrap (oends_s0 r * oends_s0 r)) then 16
    else bif decide (vinner_0 (minus_0 e2 e4) (minus_0 e3 e5) (minus_0 e2 e4) (minus_0 e3 e5) < IntKind.i64.wrap (oends_s0 r * oends_s0 r)) then 16 else oends_s9 e0 e1 e2 e3 e4 e5 e6 r
  else oends_s9 e0 e1 e2 e3 e4 e5 e6 r
set_option maxRecDepth 1000000 in
theorem oends_runs (e0 e1 e2 e3 e4 e5 e6 : Int) (e7 : Bool) (r : Int) : Runs (runF (sums K_atang) L_fl 42) (oends_tpl.args [.i e0, .i e1, .i e2, .i e3, .i e4, .i e5, .i e6, .b e7, .i r]) (oends_tpl.memo [.i e0, .i e1, .i e2, .i e3, .i e4, .i e5, .i e6, .b e7, .i r] []) oends_tpl.n (SV.tup
    [(true, [SC.int IntKind.i64 (SI.v (oends_0 e0 e1 e2 e3 e4 e5 e6 r)), SC.int IntKind.i64 (SI.v (oends_1 e0 e1 e2 e3 e4 e5 e6 r))]),
      (true, [SC.int IntKind.i64 (SI.v (oends_2 e0 e1 e2 e3 e4 e5 e6 r)), SC.int IntKind.i64 (SI.v (oends_3 e0 e1 e2 e3 e4 e5 e6 r))]),
      (false, [SC.int IntKind.i64 (SI.v (oends_4 e0 e1 e2 e3 e4 e5 e6 r))])])
    ([]) :=
  Runs.of1 (ps := []) (by kernel_rfl) (by simp)
noncomputable def oends_out : List Pm → Lss → Option CRes
  | [.i e0, .i e1, .i e2, .i e3, .i e4, .i e5, .i e6, .b e7, .i r], [] => some ⟨SV.tup
    [(true, [SC.int IntKind.i64 (SI.v (oends_0 e0 e1 e2 e3 e4 e5 e6 r)), SC.int IntKind.i64 (SI.v (oends_1 e0 e1 e2 e3 e4 e5 e6 r))]),
      (true, [SC.int IntKind.i64 (SI.v (oends_2 e0 e1 e2 e3 e4 e5 e6 r)), SC.int IntKind.i64 (SI.v (oends_3 e0 e1 e2 e3 e4 e5 e6 r))]),
      (false, [SC.int IntKind.i64 (SI.v (oends_4 e0 e1 e2 e3 e4 e5 e6 r))])],
    [],
    [], [], 10785⟩
  | _, _ => none
theorem oends_ok : FOk Try.prog 42 (tplS oends_tpl oends_out) := by
  refine tplS_ok (runF_ok known_atang 42) fun ps ls r hr hn _ => ?_
  unfold oends_out at hr
  split at hr
  · cases hr; exact ⟨_, oends_runs _ _ _ _ _ _ _ _ _, fun _ => rfl⟩
  · cases hr
noncomputable def K_oends : List (Nat × Summ) := (42, tplS oends_tpl oends_out) :: K_atang
theorem known_oends : Known Try.prog (sums K_oends) L_fl := known_cons known_atang oends_ok
noncomputable def ohalf_tpl : Tpl := ⟨[.agg [.int .i64, .int .i64], .agg [.int .i64, .int .i64], .one (.int .i64), .one (.int .i64)], [], 0⟩
noncomputable def ohalf_s0 (a : Int) (b : Int) (c : Int) (d : Int) : Bool :=
  decide (vinner_0 a b c d > 0)
noncomputable def ohalf_s1 (a : Int) (b : Int) (c : Int) (d : Int) (i : Int) : Int :=
  bif ohalf_s0 a b c d && decide (IntKind.i64.wrap (vcross_0 a b c d * i) > 0) then addpt_0 a c
  else bif ohalf_s0 a b c d then IntKind.i64.wrap (IntKind.i64.wrap (0 - a) - c) else IntKind.i64.wrap (i * IntKind.i64.wrap (d - b))
noncomputable def ohalf_s2 (a : Int) (b : Int) (c : Int) (d : Int) (i : Int) : Int :=
  bif ohalf_s0 a b c d && decide (IntKind.i64.wrap (vcross_0 a b c d * i) > 0) then addpt_0 b d
  else bif ohalf_s0 a b c d then IntKind.i64.wrap (IntKind.i64.wrap (0 - b) - d) else IntKind.i64.wrap (IntKind.i64.wrap (0 - i) * IntKind.i64.wrap (c - a))
noncomputable def ohalf_needs (a : Int) (b : Int) (c : Int) (d : Int) (i : Int) (s : Int) : List Prop :=
  [-9223372036854775808 ≤ ohalf_s1 a b c d i ∧ ohalf_s1 a b c d i < 9223372036854775808, -9223372036854775808 ≤ s ∧ s < 9223372036854775808,
    -9223372036854775808 ≤ vinner_0 (ohalf_s1 a b c d i) (ohalf_s2 a b c d i) (ohalf_s1 a b c d i) (ohalf_s2 a b c d i) ∧
      vinner_0 (ohalf_s1 a b c d i) (ohalf_s2 a b c d i) (ohalf_s1 a b c d i) (ohalf_s2 a b c d i) < 9223372036854775808,
    -9223372036854775808 ≤ ohalf_s2 a b c d i ∧ ohalf_s2 a b c d i < 9223372036854775808, -9223372036854775808 ≤ s ∧ s < 9223372036854775808,
    -9223372036854775808 ≤ vinner_0 (ohalf_s1 a b c d i) (ohalf_s2 a b c d i) (ohalf_s1 a b c d i) (ohalf_s2 a b c d i) ∧
      vinner_0 (ohalf_s1 a b c d i) (ohalf_s2 a b c d i) (ohalf_s1 a b c d i) (ohalf_s2 a b c d i) < 9223372036854775808]
theorem ohalf_weak {a : Int} {b : Int} {c : Int} {d : Int} {i : Int} {s : Int} (hW : ∀ q ∈ ([isI s] : List Prop), q) : ∀ q ∈ (ohalf_needs a b c d i s), q := by
  simp only [List.mem_cons, List.not_mem_nil, or_false, forall_eq_or_imp, forall_eq] at hW
  unfold ohalf_needs
  simp only [List.forall_mem_cons, List.not_mem_nil, false_implies, implies_true, and_true]
  have s1 : isI (ohalf_s1 a b c d i) := by
    unfold ohalf_s1
    cases (ohalf_s0 a b c d && decide (IntKind.i64.wrap (vcross_0 a b c d * i) > 0)) <;> cases ohalf_s0 a b c d <;> exact wrap_isI _
  have s2 : isI (ohalf_s2 a b c d i) := by
    unfold ohalf_s2
    cases (ohalf_s0 a b c d && decide (IntKind.i64.wrap (vcross_0 a b c d * i) > 0)) <;> cases ohalf_s0 a b c d <;> exact wrap_isI _
  exact ⟨s1, hW, wrap_isI _, s2, hW, wrap_isI _⟩
set_option maxRecDepth 1000000 in
theorem ohalf_runs (a b c d i s : Int) (hNeeds : ∀ pN ∈ (ohalf_needs a b c d i s), pN) : Runs (runF (sums K_oends) L_fl 98) (ohalf_tpl.args [.i a, .i b, .i c, .i d, .i i, .i s]) (ohalf_tpl.memo [.i a, .i b, .i c, .i d, .i i, .i s] []) ohalf_tpl.n (SV.agg
    [SC.int IntKind.i64 (SI.v (wOver_0 (ohalf_s1 a b c d i) s (vinner_0 (ohalf_s1 a b c d i) (ohalf_s2 a b c d i) (ohalf_s1 a b c d i) (ohalf_s2 a b c d i)) 2)),
      SC.int IntKind.i64 (SI.v (wOver_0 (ohalf_s2 a b c d i) s (vinner_0 (ohalf_s1 a b c d i) (ohalf_s2 a b c d i) (ohalf_s1 a b c d i) (ohalf_s2 a b c d i)) 2))])
    ([]) :=
  Runs.of1 (ps := (ohalf_needs a b c d i s)) (by kernel_rfl) hNeeds
noncomputable def ohalf_out : List Pm → Lss → Option CRes
  | [.i a, .i b, .i c, .i d, .i i, .i s], [] => some ⟨SV.agg
    [SC.int IntKind.i64 (SI.v (wOver_0 (ohalf_s1 a b c d i) s (vinner_0 (ohalf_s1 a b c d i) (ohalf_s2 a b c d i) (ohalf_s1 a b c d i) (ohalf_s2 a b c d i)) 2)),
      SC.int IntKind.i64 (SI.v (wOver_0 (ohalf_s2 a b c d i) s (vinner_0 (ohalf_s1 a b c d i) (ohalf_s2 a b c d i) (ohalf_s1 a b c d i) (ohalf_s2 a b c d i)) 2))],
    [],
    [isI s], [], 1770⟩
  | _, _ => none
theorem ohalf_ok : FOk Try.prog 98 (tplS ohalf_tpl ohalf_out) := by
  refine tplS_ok (runF_ok known_oends 98) fun ps ls r hr hn _ => ?_
  unfold ohalf_out at hr
  split at hr
  · cases hr; exact ⟨_, ohalf_runs _ _ _ _ _ _ (ohalf_weak (by exact hn)), fun _ => rfl⟩
  · cases hr
noncomputable def K_ohalf : List (Nat × Summ) := (98, tplS ohalf_tpl ohalf_out) :: K_oends
theorem known_ohalf : Known Try.prog (sums K_ohalf) L_fl := known_cons known_oends ohalf_ok
theorem wsize_rng {a : Int} (h : isI a) : 0 ≤ wsize_0 a ∧ wsize_0 a < 18446744073709551616 := by
  rw [wsize_eq a h]
  obtain ⟨h1, h2⟩ := h
  split <;> omega
noncomputable def muldiv_tpl : Tpl := ⟨[.one (.int .i64), .one (.int .i64), .one (.int .i64), .one (.int .i64)], [], 0⟩
noncomputable def muldiv_s0 (a : Int) (b : Int) (c : Int) : Int :=
  IntKind.u64.wrap (wsize_0 c - div64_1 (mul64_0 (wsize_0 a) (wsize_0 b)) (mul64_1 (wsize_0 a) (wsize_0 b)) (wsize_0 c))
noncomputable def muldiv_s1 (a : Int) (b : Int) (c : Int) : Bool :=
  !decide (wsign_0 a b < 0) == decide (c < 0) && wsign_0 a b != 0
noncomputable def muldiv_s2 (a : Int) (b : Int) (c : Int) : Int :=
  IntKind.u64.wrap (div64_0 (mul64_0 (wsize_0 a) (wsize_0 b)) (mul64_1 (wsize_0 a) (wsize_0 b)) (wsize_0 c) + 1)
noncomputable def muldiv_0 (a : Int) (b : Int) (c : Int) (m : Int) : Int :=
  bif c == 0 || !(m == 0 || m == 1 || m == 2) then 0
  else
    bif decide (mul64_0 (wsize_0 a) (wsize_0 b) ≥ wsize_0 c) then 0
    else
      bif
          grows_0 m
            (bif decide (div64_1 (mul64_0 (wsize_0 a) (wsize_0 b)) (mul64_1 (wsize_0 a) (wsize_0 b)) (wsize_0 c) > muldiv_s0 a b c) then 1
            else bif decide (div64_1 (mul64_0 (wsize_0 a) (wsize_0 b)) (mul64_1 (wsize_0 a) (wsize_0 b)) (wsize_0 c) < muldiv_s0 a b c) then -1 else 0)
            (decide (div64_1 (mul64_0 (wsize_0 a) (wsize_0 b)) (mul64_1 (wsize_0 a) (wsize_0 b)) (wsize_0 c) > 0)) (muldiv_s1 a b c) then
        bif muldiv_s2 a b c == 0 then 0 else signed_0 (muldiv_s2 a b c) (muldiv_s1 a b c)
      else signed_0 (div64_0 (mul64_0 (wsize_0 a) (wsize_0 b)) (mul64_1 (wsize_0 a) (wsize_0 b)) (wsize_0 c)) (muldiv_s1 a b c)
noncomputable def muldiv_1 (a : Int) (b : Int) (c : Int) (m : Int) : Bool :=
  bif c == 0 || !(m == 0 || m == 1 || m == 2) then false
  else
    bif decide (mul64_0 (wsize_0 a) (wsize_0 b) ≥ wsize_0 c) then false
    else
      bif
          grows_0 m
            (bif decide (div64_1 (mul64_0 (wsize_0 a) (wsize_0 b)) (mul64_1 (wsize_0 a) (wsize_0 b)) (wsize_0 c) > muldiv_s0 a b c) then 1
            else bif decide (div64_1 (mul64_0 (wsize_0 a) (wsize_0 b)) (mul64_1 (wsize_0 a) (wsize_0 b)) (wsize_0 c) < muldiv_s0 a b c) then -1 else 0)
            (decide (div64_1 (mul64_0 (wsize_0 a) (wsize_0 b)) (mul64_1 (wsize_0 a) (wsize_0 b)) (wsize_0 c) > 0)) (muldiv_s1 a b c) then
        bif muldiv_s2 a b c == 0 then false else signed_1 (muldiv_s2 a b c) (muldiv_s1 a b c)
      else signed_1 (div64_0 (mul64_0 (wsize_0 a) (wsize_0 b)) (mul64_1 (wsize_0 a) (wsize_0 b)) (wsize_0 c)) (muldiv_s1 a b c)
noncomputable def muldiv_needs (a : Int) (b : Int) (c : Int) (m : Int) : List Prop :=
  [(c == 0 || !(m == 0 || m == 1 || m == 2)) = false →
      decide (mul64_0 (wsize_0 a) (wsize_0 b) ≥ wsize_0 c) = false →
        0 ≤ mul64_0 (wsize_0 a) (wsize_0 b) ∧
          mul64_0 (wsize_0 a) (wsize_0 b) < wsize_0 c ∧ 0 ≤ mul64_1 (wsize_0 a) (wsize_0 b) ∧ mul64_1 (wsize_0 a) (wsize_0 b) < 18446744073709551616 ∧ wsize_0 c < 18446744073709551616]
theorem muldiv_weak {a : Int} {b : Int} {c : Int} {m : Int} (hW : ∀ q ∈ ([isI a, isI b, isI c] : List Prop), q) : ∀ q ∈ (muldiv_needs a b c m), q := by
  simp only [List.mem_cons, List.not_mem_nil, or_false, forall_eq_or_imp, forall_eq] at hW
  unfold muldiv_needs
  simp only [List.forall_mem_cons, List.not_mem_nil, false_implies, implies_true, and_true]
  obtain ⟨ha, hb, hc⟩ := hW
  intro _ h
  have sa := wsize_rng ha
  have sb := wsize_rng hb
  have sc := wsize_rng hc
  have h0 := m0_u64 (x := wsize_0 a) (y := wsize_0 b) sa sb
  have h1 := m1_u64 (wsize_0 a) (wsize_0 b)
  rw [decide_eq_false_iff_not] at h
  exact ⟨h0.1, by omega, h1.1, h1.2, sc.2⟩
set_option maxRecDepth 1000000 in
theorem muldiv_runs (a b c m : Int) (hNeeds : ∀ pN ∈ (muldiv_needs a b c m), pN) : Runs (runF (sums K_ohalf) L_fl 96) (muldiv_tpl.args [.i a, .i b, .i c, .i m]) (muldiv_tpl.memo [.i a, .i b, .i c, .i m] []) muldiv_tpl.n (SV.tup [(false, [SC.int IntKind.i64 (SI.v (muldiv_0 a b c m))]), (false, [SC.bool (SB.v (muldiv_1 a b c m))])])
    ([]) :=
  Runs.of1 (ps := (muldiv_needs a b c m)) (by kernel_rfl) hNeeds
noncomputable def muldiv_out : List Pm → Lss → Option CRes
  | [.i a, .i b, .i c, .i m], [] => some ⟨SV.tup [(false, [SC.int IntKind.i64 (SI.v (muldiv_0 a b c m))]), (false, [SC.bool (SB.v (muldiv_1 a b c m))])],
    [],
    [isI a, isI b, isI c], [], 507⟩
  | _, _ => none
theorem muldiv_ok : FOk Try.prog 96 (tplS muldiv_tpl muldiv_out) := by
  refine tplS_ok (runF_ok known_ohalf 96) fun ps ls r hr hn _ => ?_
  unfold muldiv_out at hr
  split at hr
  · cases hr; exact ⟨_, muldiv_runs _ _ _ _ (muldiv_weak (by exact hn)), fun _ => rfl⟩
  · cases hr
noncomputable def K_muldiv : List (Nat × Summ) := (96, tplS muldiv_tpl muldiv_out) :: K_ohalf
theorem known_muldiv : Known Try.prog (sums K_muldiv) L_fl := known_cons known_ohalf muldiv_ok
noncomputable def chalf_tpl : Tpl := ⟨[.agg [.int .i64, .int .i64, .int .i64, .int .i64], .agg [.int .i64, .int .i64]], [], 0⟩
noncomputable def chalf_0 (a : Int) (b : Int) (c : Int) (d : Int) : Int :=
  bif decide (vcross_0 a b c d > 0) || vcross_0 a b c d == 0 && decide (vinner_0 a b c d > 0) then 0 else 1
set_option maxRecDepth 1000000 in
theorem chalf_runs (a b l m c d : Int) : Runs (runF (sums K_muldiv) L_fl 102) (chalf_tpl.args [.i a, .i b, .i l, .i m, .i c, .i d]) (chalf_tpl.memo [.i a, .i b, .i l, .i m, .i c, .i d] []) chalf_tpl.n (SV.one (SC.int IntKind.i64 (SI.v (chalf_0 a b c d))))
    ([]) :=
  Runs.of1 (ps := []) (by kernel_rfl) (by simp)
noncomputable def chalf_out : List Pm → Lss → Option CRes
  | [.i a, .i b, .i l, .i m, .i c, .i d], [] => some ⟨SV.one (SC.int IntKind.i64 (SI.v (chalf_0 a b c d))),
    [],
    [], [], 73⟩
  | _, _ => none
theorem chalf_ok : FOk Try.prog 102 (tplS chalf_tpl chalf_out) := by
  refine tplS_ok (runF_ok known_muldiv 102) fun ps ls r hr hn _ => ?_
  unfold chalf_out at hr
  split at hr
  · cases hr; exact ⟨_, chalf_runs _ _ _ _ _ _, fun _ => rfl⟩
  · cases hr
noncomputable def K_chalf : List (Nat × Summ) := (102, tplS chalf_tpl chalf_out) :: K_muldiv
theorem known_chalf : Known Try.prog (sums K_chalf) L_fl := known_cons known_muldiv chalf_ok
noncomputable def contains_tpl : Tpl := ⟨[.agg [.int .i64, .int .i64, .int .i64, .int .i64], .agg [.int .i64, .int .i64]], [], 0⟩
noncomputable def contains_0 (a0 : Int) (a1 : Int) (b0 : Int) (b1 : Int) (p0 : Int) (p1 : Int) : Bool :=
  decide (chalf_0 a0 a1 p0 p1 < chalf_0 a0 a1 b0 b1) || chalf_0 a0 a1 p0 p1 == chalf_0 a0 a1 b0 b1 && decide (vcross_0 p0 p1 b0 b1 ≥ 0)
set_option maxRecDepth 1000000 in
theorem contains_runs (a0 a1 b0 b1 p0 p1 : Int) : Runs (runF (sums K_chalf) L_fl 93) (contains_tpl.args [.i a0, .i a1, .i b0, .i b1, .i p0, .i p1]) (contains_tpl.memo [.i a0, .i a1, .i b0, .i b1, .i p0, .i p1] []) contains_tpl.n (SV.one (SC.bool (SB.v (contains_0 a0 a1 b0 b1 p0 p1))))
    ([]) :=
  Runs.of1 (ps := []) (by kernel_rfl) (by simp)
noncomputable def contains_out : List Pm → Lss → Option CRes
  | [.i a0, .i a1, .i b0, .i b1, .i p0, .i p1], [] => some ⟨SV.one (SC.bool (SB.v (contains_0 a0 a1 b0 b1 p0 p1))),
    [],
    [], [], 203⟩
  | _, _ => none
theorem contains_ok : FOk Try.prog 93 (tplS contains_tpl contains_out) := by
  refine tplS_ok (runF_ok known_chalf 93) fun ps ls r hr hn _ => ?_
  unfold contains_out at hr
  split at hr
  · cases hr; exact ⟨_, contains_runs _ _ _ _ _ _, fun _ => rfl⟩
  · cases hr
noncomputable def K_contains : List (Nat × Summ) := (93, tplS contains_tpl contains_out) :: K_chalf
theorem known_contains : Known Try.prog (sums K_contains) L_fl := known_cons known_chalf contains_ok
noncomputable def ainside_tpl : Tpl := ⟨[.agg [.int .i64, .int .i64, .int .i64, .int .i64, .int .i64, .int .i64, .int .i64, .int .i64, .int .i64, .int .i64, .int .i64, .int .i64, .int .i64, .bool, .int .i64, .bool, .int .i64, .int .i64, .int .i64, .int .i64, .int .i64, .bool], .agg [.int .i64, .int .i64]], [], 0⟩
noncomputable def ainside_0 (f0 : Int) (f1 : Int) (f2 : Int) (t0 : Int) (t1 : Int) (t2 : Int) (p : Int) (c0 : Int) (c1 : Int) (c2 : Int) (d : Int) (fu : Bool) (u : Int) (w : Int) : Bool :=
  fu ||
    contains_0 (bif decide (d < 0) then aspokes_0 t0 t1 t2 p c0 c1 c2 else aspokes_0 f0 f1 f2 p c0 c1 c2) (bif decide (d < 0) then aspokes_1 t0 t1 t2 p c0 c1 c2 else aspokes_1 f0 f1 f2 p c0 c1 c2)
      (bif decide (d < 0) then aspokes_0 f0 f1 f2 p c0 c1 c2 else aspokes_0 t0 t1 t2 p c0 c1 c2) (bif decide (d < 0) then aspokes_1 f0 f1 f2 p c0 c1 c2 else aspokes_1 t0 t1 t2 p c0 c1 c2) u w
set_option maxRecDepth 1000000 in
theorem ainside_runs (k bl f0 f1 f2 t0 t1 t2 p c0 c1 c2 d : Int) (fu : Bool) (fe : Int) (pr : Bool) (si ra be n sp : Int) (on : Bool) (u w : Int) : Runs (runF (sums K_contains) L_fl 76) (ainside_tpl.args [.i k, .i bl, .i f0, .i f1, .i f2, .i t0, .i t1, .i t2, .i p, .i c0, .i c1, .i c2, .i d, .b fu, .i fe, .b pr, .i si, .i ra, .i be, .i n, .i sp, .b on, .i u, .i w]) (ainside_tpl.memo [.i k, .i bl, .i f0, .i f1, .i f2, .i t0, .i t1, .i t2, .i p, .i c0, .i c1, .i c2, .i d, .b fu, .i fe, .b pr, .i si, .i ra, .i be, .i n, .i sp, .b on, .i u, .i w] []) ainside_tpl.n (SV.one (SC.bool (SB.v (ainside_0 f0 f1 f2 t0 t1 t2 p c0 c1 c2 d fu u w))))
    ([]) :=
  Runs.of1 (ps := []) (by kernel_rfl) (by simp)
noncomputable def ainside_out : List Pm → Lss → Option CRes
  | [.i k, .i bl, .i f0, .i f1, .i f2, .i t0, .i t1, .i t2, .i p, .i c0, .i c1, .i c2, .i d, .b fu, .i fe, .b pr, .i si, .i ra, .i be, .i n, .i sp, .b on, .i u, .i w], [] => some ⟨SV.one (SC.bool (SB.v (ainside_0 f0 f1 f2 t0 t1 t2 p c0 c1 c2 d fu u w))),
    [],
    [], [], 587⟩
  | _, _ => none
theorem ainside_ok : FOk Try.prog 76 (tplS ainside_tpl ainside_out) := by
  refine tplS_ok (runF_ok known_contains 76) fun ps ls r hr hn _ => ?_
  unfold ainside_out at hr
  split at hr
  · cases hr; exact ⟨_, ainside_runs _ _ _ _ _ _ _ _ _ _ _ _ _ _ _ _ _ _ _ _ _ _ _ _, fun _ => rfl⟩
  · cases hr
noncomputable def K_ainside : List (Nat × Summ) := (76, tplS ainside_tpl ainside_out) :: K_contains
theorem known_ainside : Known Try.prog (sums K_ainside) L_fl := known_cons known_contains ainside_ok
noncomputable def ahead_tpl : Tpl := ⟨[.agg [.int .i64, .int .i64, .int .i64, .int .i64, .int .i64, .int .i64, .int .i64, .bool], .agg [.int .i64, .int .i64], .agg [.int .i64, .int .i64]], [], 0⟩
noncomputable def ahead_0 (e0 : Int) (e1 : Int) (e2 : Int) (e3 : Int) (e4 : Int) (e5 : Int) (e6 : Int) (e7 : Bool) (u : Int) (w : Int) (y : Int) (z : Int) : Bool :=
  bif e6 == 0 then decide (vinner_0 (minus_0 u y) (minus_0 w z) (minus_0 e2 e0) (minus_0 e3 e1) > 0)
  else
    ainside_0 e0 e1 0 e2 e3 0 17 (oitem_1 e4 e6) (oitem_1 e5 e6) 0 (oitem_3 e6) (oitem_4 e6 e7) (minus_0 u e4) (minus_0 w e5) &&
      (vcross_0 (minus_0 e0 e4) (minus_0 e1 e5) (minus_0 u e4) (minus_0 w e5) != 0 || decide (vinner_0 (minus_0 e0 e4) (minus_0 e1 e5) (minus_0 u e4) (minus_0 w e5) ≤ 0))
set_option maxRecDepth 1000000 in
theorem ahead_runs (e0 e1 e2 e3 e4 e5 e6 : Int) (e7 : Bool) (u w y z : Int) : Runs (runF (sums K_ainside) L_fl 83) (ahead_tpl.args [.i e0, .i e1, .i e2, .i e3, .i e4, .i e5, .i e6, .b e7, .i u, .i w, .i y, .i z]) (ahead_tpl.memo [.i e0, .i e1, .i e2, .i e3, .i e4, .i e5, .i e6, .b e7, .i u, .i w, .i y, .i z] []) ahead_tpl.n (SV.one (SC.bool (SB.v (ahead_0 e0 e1 e2 e3 e4 e5 e6 e7 u w y z))))
    ([]) :=
  Runs.of1 (ps := []) (by kernel_rfl) (by simp)
noncomputable def ahead_out : List Pm → Lss → Option CRes
  | [.i e0, .i e1, .i e2, .i e3, .i e4, .i e5, .i e6, .b e7, .i u, .i w, .i y, .i z], [] => some ⟨SV.one (SC.bool (SB.v (ahead_0 e0 e1 e2 e3 e4 e5 e6 e7 u w y z))),
    [],
    [], [], 1039⟩
  | _, _ => none
theorem ahead_ok : FOk Try.prog 83 (tplS ahead_tpl ahead_out) := by
  refine tplS_ok (runF_ok known_ainside 83) fun ps ls r hr hn _ => ?_
  unfold ahead_out at hr
  split at hr
  · cases hr; exact ⟨_, ahead_runs _ _ _ _ _ _ _ _ _ _ _ _, fun _ => rfl⟩
  · cases hr
noncomputable def K_ahead : List (Nat × Summ) := (83, tplS ahead_tpl ahead_out) :: K_ainside
theorem known_ahead : Known Try.prog (sums K_ahead) L_fl := known_cons known_ainside ahead_ok
end Go.Proofs.Ytmbfbhimdkjkoaa
namespace Go.Proofs.Ytmbfbhimdkjkoaa
open Go.SX Go.RowKit
/-- The end of a search by halves: b, once a and b are neighbours. -/
noncomputable def bs (P : Int → Bool) : Nat → Int → Int → Int
  | 0, _, b => b
  | f + 1, a, b => bif decide (b - a > 1) then (bif P ((a + b).tdiv 2) then bs P f a ((a + b).tdiv 2) else bs P f ((a + b).tdiv 2) b) else b
theorem mid_lt {a b : Int} (h0 : 0 ≤ a) (h : b - a > 1) : a < (a + b).tdiv 2 ∧ (a + b).tdiv 2 < b := by
  rw [Int.tdiv_eq_ediv_of_nonneg (by omega)]
  omega
theorem bs_fuel (P : Int → Bool) : ∀ (f g : Nat) (a b : Int), 0 ≤ a → (b - a).toNat ≤ f → (b - a).toNat ≤ g → bs P f a b = bs P g a b
  | 0, 0, _, _, _, _, _ => rfl
  | 0, g + 1, a, b, _, h, _ => by
    unfold bs
    rw [decide_eq_false (show ¬ b - a > 1 by omega)]; rfl
  | f + 1, 0, a, b, _, _, h => by
    unfold bs
    rw [decide_eq_false (show ¬ b - a > 1 by omega)]; rfl
  | f + 1, g + 1, a, b, h0, h1, h2 => by
    unfold bs
    by_cases h : b - a > 1
    · obtain ⟨m1, m2⟩ := mid_lt h0 h
      rw [bs_fuel P f g a _ h0 (by omega) (by omega), bs_fuel P f g _ b (by omega) (by omega) (by omega)]
    · rw [decide_eq_false h]; rfl
noncomputable def bs0 (n : Int) : Int × Int := (0, n)
noncomputable def bsF (P : Int → Bool) (s : Int × Int) : Int := bs P (s.2 - s.1).toNat s.1 s.2
theorem bsF_end {P : Int → Bool} {a b : Int} (h : ¬ b - a > 1) : bsF P (a, b) = b := by
  show bs P (b - a).toNat a b = b
  cases (b - a).toNat with
  | zero => rfl
  | succ f => unfold bs; rw [decide_eq_false h]; rfl
theorem bsF_step {P : Int → Bool} {a b : Int} (h0 : 0 ≤ a) (h : b - a > 1) : bsF P (a, b) = bif P ((a + b).tdiv 2) then bsF P (a, (a + b).tdiv 2) else bsF P ((a + b).tdiv 2, b) := by
  obtain ⟨m1, m2⟩ := mid_lt h0 h
  show bs P (b - a).toNat a b = _
  have e : (b - a).toNat = (b - a - 1).toNat + 1 := by omega
  rw [e]
  unfold bs
  rw [decide_eq_true h, cond_true]
  show (bif P ((a + b).tdiv 2) then bs P (b - a - 1).toNat a ((a + b).tdiv 2) else bs P (b - a - 1).toNat ((a + b).tdiv 2) b) = _
  rw [bs_fuel P (b - a - 1).toNat ((a + b).tdiv 2 - a).toNat a _ h0 (by omega) (by omega), bs_fuel P (b - a - 1).toNat (b - (a + b).tdiv 2).toNat _ b (by omega) (by omega) (by omega)]
  rfl
noncomputable def bsN (P : Int → Bool) (s : Int × Int) : Int × Int := (bif P ((s.1 + s.2).tdiv 2) then s.1 else (s.1 + s.2).tdiv 2, bif P ((s.1 + s.2).tdiv 2) then (s.1 + s.2).tdiv 2 else s.2)
/-- One step of a search: what it keeps. -/
theorem bsN_ok {P : Int → Bool} {s : Int × Int} (h0 : 0 ≤ s.1) (h : s.2 - s.1 > 1) : 0 ≤ (bsN P s).1 ∧ (bsN P s).1 ≤ (bsN P s).2 ∧ (bsN P s).2 ≤ s.2 ∧ ((bsN P s).2 - (bsN P s).1).toNat < (s.2 - s.1).toNat ∧ bsF P (bsN P s) = bsF P s := by
  rcases s with ⟨a, b⟩
  obtain ⟨m1, m2⟩ := mid_lt h0 h
  have hs := bsF_step (P := P) h0 h
  unfold bsN
  simp only at h0 h m1 m2 hs ⊢
  rw [hs]
  cases P ((a + b).tdiv 2)
  · simp only [cond_false]
    exact ⟨by omega, by omega, by omega, by omega, trivial⟩
  · simp only [cond_true]
    exact ⟨by omega, by omega, by omega, by omega, trivial⟩
theorem bs_mid {s : Int × Int} (h0 : 0 ≤ s.1) (h1 : s.1 ≤ s.2) (h2 : s.2 ≤ 1000000000000) : IntKind.i64.wrap (s.2 - s.1) = s.2 - s.1 ∧ IntKind.i64.wrap ((IntKind.i64.wrap (s.1 + s.2)).tdiv 2) = (s.1 + s.2).tdiv 2 ∧ isI ((s.1 + s.2).tdiv 2) := by
  have e : (s.1 + s.2).tdiv 2 = (s.1 + s.2) / 2 := Int.tdiv_eq_ediv_of_nonneg (by omega)
  rw [wrI (x := s.2 - s.1) (by omega) (by omega), wrI (x := s.1 + s.2) (by omega) (by omega), e, wrI (by omega) (by omega)]
  exact ⟨rfl, rfl, by omega, by omega⟩
noncomputable def mElem (mem : Mem) (id : Nat) : Option (List Int × Bool) := match SX.look mem id with
  | some (.blk _ cs) => (match cs.reverse with
    | (_, .bool b) :: r => (intsT r.reverse).map fun l => (l, b.val)
    | _ => none)
  | _ => none
noncomputable def blkE (id t : Nat) (e0 e1 e2 e3 e4 e5 e6 : Int) (e7 : Bool) : Nat × SX.Obj := (id, .blk 74 [(t, I e0), (t + 1, I e1), (t + 2, I e2), (t + 3, I e3), (t + 4, I e4), (t + 5, I e5), (t + 6, I e6), (t + 7, .bool (.v e7))])
noncomputable def blkP (id t : Nat) (x y : Int) : Nat × SX.Obj := (id, .blk 59 [(t, I x), (t + 1, I y)])
noncomputable def blk0 (id t : Nat) : Nat × SX.Obj := (id, .blk 59 [(t, .int .i64 (.c 0)), (t + 1, .int .i64 (.c 0))])
noncomputable def stP (l0 l1 d0 d1 n e0 e1 e2 e3 e4 e5 e6 r k : Int) : Bool := oclear_0 e0 e1 e2 e3 e4 e5 e6 (addpt_0 l0 (muldiv_0 d0 k n 2)) (addpt_0 l1 (muldiv_0 d1 k n 2)) r
noncomputable def stM (l0 l1 d0 d1 n e0 e1 e2 e3 e4 e5 e6 : Int) (e7 : Bool) (r : Int) : Mem :=
  [(76, .clo [.one (.ptr 53 0), .one (.ptr 71 0), .one (.ptr 12 0)]), (71, .blk 3 [(74, I n)]), blkP 53 57 d0 d1, blk0 20 21, blkP 12 13 l0 l1, (0, .clo [.one (.ptr 1 0), .one (.ptr 2 0)]), blkE 1 3 e0 e1 e2 e3 e4 e5 e6 e7, (2, .blk 3 [(11, I r)])]
noncomputable def stF (l0 l1 d0 d1 n e0 e1 e2 e3 e4 e5 e6 : Int) (e7 : Bool) (r : Int) : Fam (Int × Int) Int where
  k := 60
  E s := [(11, ent 1000000000 (.one (I s.2))), (10, ent 1000000001 (.one (I s.1))), (9, ent 78 (.one (.clo 95 76))), (6, ent 23 (.one (.ptr 20 0))), (2, ent 4 (.one (.clo 79 0)))]
  M _ := stM l0 l1 d0 d1 n e0 e1 e2 e3 e4 e5 e6 e7 r
  out b := .leaf (.exit 0) [(11, ent 83 (.one (I b))), (9, ent 78 (.one (.clo 95 76))), (6, ent 23 (.one (.ptr 20 0)))] (stM l0 l1 d0 d1 n e0 e1 e2 e3 e4 e5 e6 e7 r)
  fin s := bsF (stP l0 l1 d0 d1 n e0 e1 e2 e3 e4 e5 e6 r) s
  next s _ := bsN (stP l0 l1 d0 d1 n e0 e1 e2 e3 e4 e5 e6 r) s
  J s := 0 ≤ s.1 ∧ s.1 ≤ s.2 ∧ s.2 ≤ 1000000000000 ∧ isI d0 ∧ isI d1 ∧ isI n
  μ s := (s.2 - s.1).toNat
noncomputable def st_s0 (s : Int × Int) : Prop :=
  decide (IntKind.i64.wrap (s.snd - s.fst) > 1) = true
noncomputable def st_s1 (s : Int × Int) : Int :=
  IntKind.i64.wrap ((IntKind.i64.wrap (s.fst + s.snd)).tdiv 2)
noncomputable def st_s2 (n : Int) : Prop :=
  -9223372036854775808 ≤ n ∧ n < 9223372036854775808
noncomputable def st_s3 (l0 : Int) (l1 : Int) (d0 : Int) (d1 : Int) (n : Int) (e0 : Int) (e1 : Int) (e2 : Int) (e3 : Int) (e4 : Int) (e5 : Int) (e6 : Int) (e7 : Bool) (r : Int) (s : Int × Int) : Int :=
  ((stF l0 l1 d0 d1 n e0 e1 e2 e3 e4 e5 e6 e7 r).next s 0).fst
noncomputable def st_s4 (l0 : Int) (l1 : Int) (d0 : Int) (d1 : Int) (n : Int) (e0 : Int) (e1 : Int) (e2 : Int) (e3 : Int) (e4 : Int) (e5 : Int) (e6 : Int) (e7 : Bool) (r : Int) (s : Int × Int) : Int :=
  ((stF l0 l1 d0 d1 n e0 e1 e2 e3 e4 e5 e6 e7 r).next s 0).snd
noncomputable def st_s5 (l0 : Int) (l1 : Int) (d0 : Int) (d1 : Int) (n : Int) (e0 : Int) (e1 : Int) (e2 : Int) (e3 : Int) (e4 : Int) (e5 : Int) (e6 : Int) (e7 : Bool) (r : Int) (s : Int × Int) : Int :=
  (stF l0 l1 d0 d1 n e0 e1 e2 e3 e4 e5 e6 e7 r).fin s
noncomputable def st_needs (l0 : Int) (l1 : Int) (d0 : Int) (d1 : Int) (n : Int) (e0 : Int) (e1 : Int) (e2 : Int) (e3 : Int) (e4 : Int) (e5 : Int) (e6 : Int) (e7 : Bool) (r : Int) (s : Int × Int) : List Prop :=
  [st_s0 s →
      (-9223372036854775808 ≤ d0 ∧ d0 < 9223372036854775808) ∧
        (-9223372036854775808 ≤ st_s1 s ∧ st_s1 s < 9223372036854775808) ∧
          st_s2 n ∧ (-9223372036854775808 ≤ d1 ∧ d1 < 9223372036854775808) ∧ (-9223372036854775808 ≤ st_s1 s ∧ st_s1 s < 9223372036854775808) ∧ st_s2 n,
    st_s0 s →
      (0 ≤ st_s3 l0 l1 d0 d1 n e0 e1 e2 e3 e4 e5 e6 e7 r s ∧
          st_s3 l0 l1 d0 d1 n e0 e1 e2 e3 e4 e5 e6 e7 r s ≤ st_s4 l0 l1 d0 d1 n e0 e1 e2 e3 e4 e5 e6 e7 r s ∧
            st_s4 l0 l1 d0 d1 n e0 e1 e2 e3 e4 e5 e6 e7 r s ≤ 1000000000000 ∧ (-9223372036854775808 ≤ d0 ∧ d0 < 9223372036854775808) ∧ (-9223372036854775808 ≤ d1 ∧ d1 < 9223372036854775808) ∧ st_s2 n) ∧
        (stF l0 l1 d0 d1 n e0 e1 e2 e3 e4 e5 e6 e7 r).μ ((stF l0 l1 d0 d1 n e0 e1 e2 e3 e4 e5 e6 e7 r).next s 0) < (stF l0 l1 d0 d1 n e0 e1 e2 e3 e4 e5 e6 e7 r).μ s ∧
          (stF l0 l1 d0 d1 n e0 e1 e2 e3 e4 e5 e6 e7 r).fin ((stF l0 l1 d0 d1 n e0 e1 e2 e3 e4 e5 e6 e7 r).next s 0) = st_s5 l0 l1 d0 d1 n e0 e1 e2 e3 e4 e5 e6 e7 r s ∧
            (st_s4 l0 l1 d0 d1 n e0 e1 e2 e3 e4 e5 e6 e7 r s =
                bif oclear_0 e0 e1 e2 e3 e4 e5 e6 (addpt_0 l0 (muldiv_0 d0 (st_s1 s) n 2)) (addpt_0 l1 (muldiv_0 d1 (st_s1 s) n 2)) r then st_s1 s else s.snd) ∧
              st_s3 l0 l1 d0 d1 n e0 e1 e2 e3 e4 e5 e6 e7 r s =
                bif oclear_0 e0 e1 e2 e3 e4 e5 e6 (addpt_0 l0 (muldiv_0 d0 (st_s1 s) n 2)) (addpt_0 l1 (muldiv_0 d1 (st_s1 s) n 2)) r then s.fst else st_s1 s,
    decide (IntKind.i64.wrap (s.snd - s.fst) > 1) = false → st_s5 l0 l1 d0 d1 n e0 e1 e2 e3 e4 e5 e6 e7 r s = s.snd]
theorem st_round (l0 l1 d0 d1 n e0 e1 e2 e3 e4 e5 e6 : Int) (e7 : Bool) (r : Int) (s : Int × Int) (hNeeds : ∀ pN ∈ (st_needs l0 l1 d0 d1 n e0 e1 e2 e3 e4 e5 e6 e7 r s), pN) : RoundOk (roundC (stF l0 l1 d0 d1 n e0 e1 e2 e3 e4 e5 e6 e7 r) (bodyOf Try.prog (sums K_ahead) L_fl 81 0) 82 s) :=
  RoundOk.of (ps := (st_needs l0 l1 d0 d1 n e0 e1 e2 e3 e4 e5 e6 e7 r s)) (by kernel_rfl) (by kernel_rfl) hNeeds
theorem st_rounds (l0 l1 d0 d1 n e0 e1 e2 e3 e4 e5 e6 : Int) (e7 : Bool) (r : Int) : RoundsOk (stF l0 l1 d0 d1 n e0 e1 e2 e3 e4 e5 e6 e7 r) (bodyOf Try.prog (sums K_ahead) L_fl 81 0) 82 := by
  intro s hJ
  obtain ⟨h0, h1, h2, h3, h4, h5⟩ : 0 ≤ s.1 ∧ s.1 ≤ s.2 ∧ s.2 ≤ 1000000000000 ∧ isI d0 ∧ isI d1 ∧ isI n := hJ
  obtain ⟨w1, w2, w3⟩ := bs_mid h0 h1 h2
  have hk : st_s1 s = (s.1 + s.2).tdiv 2 := w2
  refine st_round l0 l1 d0 d1 n e0 e1 e2 e3 e4 e5 e6 e7 r s ?_
  unfold st_needs
  rw [hk]
  unfold st_s0
  rw [w1]
  intro p hp
  simp only [List.mem_cons, List.not_mem_nil, or_false] at hp
  rcases hp with rfl | rfl | rfl
  · exact fun _ => ⟨h3, w3, h5, h4, w3, h5⟩
  · intro h
    have h : s.2 - s.1 > 1 := by simpa using h
    obtain ⟨b1, b2, b3, b4, b5⟩ := bsN_ok (P := stP l0 l1 d0 d1 n e0 e1 e2 e3 e4 e5 e6 r) h0 h
    exact ⟨⟨b1, b2, Int.le_trans b3 h2, h3, h4, h5⟩, b4, b5, rfl, rfl⟩
  · intro h
    have h : ¬ s.2 - s.1 > 1 := by simpa using h
    show bsF _ (s.1, s.2) = s.2
    exact bsF_end h
noncomputable def stL : LoopS := fun env mem m => match eInt env 11, mInts mem 12, mInts mem 53, mInts mem 71, mElem mem 1, mInts mem 2 with
  | some b, some [l0, l1], some [d0, d1], some [n], some ([e0, e1, e2, e3, e4, e5, e6], e7), some [r] => famS (stF l0 l1 d0 d1 n e0 e1 e2 e3 e4 e5 e6 e7 r) 82 (fun _ _ => some (bs0 b)) env mem m
  | _, _, _, _, _, _ => none
noncomputable def L_st : FuncId → Nat → Option LoopS := addL L_fl 81 5 stL
theorem known_stL : Known Try.prog (sums K_ahead) L_st := by
  refine known_addL 0 known_ahead (by kernel_rfl) (codeOk_of fun env mem m x h => ?_)
  unfold stL at h
  have hlen : (loopList Try.prog 81).length = 1 := by kernel_rfl
  split at h
  · exact ⟨_, fam_ok (bodyOf_ok plainN known_ahead (by omega)) (st_rounds _ _ _ _ _ _ _ _ _ _ _ _ _ _), h⟩
  · cases h
/-- The greater of the two differences. -/
theorem bs_rng (P : Int → Bool) : ∀ (f : Nat) (a b : Int), 0 ≤ a → a ≤ b → a ≤ bs P f a b ∧ bs P f a b ≤ b
  | 0, a, b, _, h => ⟨h, Int.le_refl _⟩
  | f + 1, a, b, h0, h => by
    unfold bs
    by_cases g : b - a > 1
    · obtain ⟨m1, m2⟩ := mid_lt h0 g
      rw [decide_eq_true g, cond_true]
      cases P ((a + b).tdiv 2)
      · have := bs_rng P f ((a + b).tdiv 2) b (by omega) (by omega)
        rw [cond_false]; omega
      · have := bs_rng P f a ((a + b).tdiv 2) h0 (by omega)
        rw [cond_true]; omega
    · rw [decide_eq_false g, cond_false]; omega
theorem bsF_rng (P : Int → Bool) {n : Int} (h : 0 ≤ n) : 0 ≤ bsF P (bs0 n) ∧ bsF P (bs0 n) ≤ n := bs_rng P _ 0 n (by omega) h
noncomputable def straight_tpl : Tpl := ⟨[.agg [.int .i64, .int .i64], .agg [.int .i64, .int .i64], .one (.clo 79 0)], [(0, .clo [.one (.ptr 1 0), .one (.ptr 2 0)]), (1, .blk 74 [(3, .int .i64), (4, .int .i64), (5, .int .i64), (6, .int .i64), (7, .int .i64), (8, .int .i64), (9, .int .i64), (10, .bool)]), (2, .blk 3 [(11, .int .i64)])], 12⟩
noncomputable def straight_s0 (l0 : Int) (h0 : Int) : Int :=
  if IntKind.i64.wrap (0 - minus_0 h0 l0) > minus_0 h0 l0 then IntKind.i64.wrap (0 - minus_0 h0 l0) else minus_0 h0 l0
noncomputable def straight_s1 (l0 : Int) (l1 : Int) (h0 : Int) (h1 : Int) : Int :=
  if minus_0 h1 l1 > straight_s0 l0 h0 then minus_0 h1 l1 else straight_s0 l0 h0
noncomputable def straight_s2 (l0 : Int) (l1 : Int) (h0 : Int) (h1 : Int) : Int :=
  if IntKind.i64.wrap (0 - minus_0 h1 l1) > straight_s1 l0 l1 h0 h1 then IntKind.i64.wrap (0 - minus_0 h1 l1) else straight_s1 l0 l1 h0 h1
noncomputable def straight_0 (l0 : Int) (l1 : Int) (h0 : Int) (h1 : Int) (e0 : Int) (e1 : Int) (e2 : Int) (e3 : Int) (e4 : Int) (e5 : Int) (e6 : Int) (e7 : Bool) (r : Int) : Int :=
  addpt_0 l0 (muldiv_0 (minus_0 h0 l0) ((stF l0 l1 (minus_0 h0 l0) (minus_0 h1 l1) (straight_s2 l0 l1 h0 h1) e0 e1 e2 e3 e4 e5 e6 e7 r).fin (bs0 (straight_s2 l0 l1 h0 h1))) (straight_s2 l0 l1 h0 h1) 2)
noncomputable def straight_1 (l0 : Int) (l1 : Int) (h0 : Int) (h1 : Int) (e0 : Int) (e1 : Int) (e2 : Int) (e3 : Int) (e4 : Int) (e5 : Int) (e6 : Int) (e7 : Bool) (r : Int) : Int :=
  addpt_0 l1 (muldiv_0 (minus_0 h1 l1) ((stF l0 l1 (minus_0 h0 l0) (minus_0 h1 l1) (straight_s2 l0 l1 h0 h1) e0 e1 e2 e3 e4 e5 e6 e7 r).fin (bs0 (straight_s2 l0 l1 h0 h1))) (straight_s2 l0 l1 h0 h1) 2)
noncomputable def straight_s3 (l0 : Int) (h0 : Int) : Prop :=
  -9223372036854775808 ≤ minus_0 h0 l0 ∧ minus_0 h0 l0 < 9223372036854775808
noncomputable def straight_s5 (l0 : Int) (l1 : Int) (h0 : Int) (h1 : Int) : Prop :=
  -9223372036854775808 ≤ straight_s2 l0 l1 h0 h1 ∧ straight_s2 l0 l1 h0 h1 < 9223372036854775808
noncomputable def straight_s6 (l0 : Int) (l1 : Int) (h0 : Int) (h1 : Int) (e0 : Int) (e1 : Int) (e2 : Int) (e3 : Int) (e4 : Int) (e5 : Int) (e6 : Int) (e7 : Bool) (r : Int) : Int :=
  (stF l0 l1 (minus_0 h0 l0) (minus_0 h1 l1) (straight_s2 l0 l1 h0 h1) e0 e1 e2 e3 e4 e5 e6 e7 r).fin (bs0 (straight_s2 l0 l1 h0 h1))
noncomputable def straight_needs (l0 : Int) (l1 : Int) (h0 : Int) (h1 : Int) (e0 : Int) (e1 : Int) (e2 : Int) (e3 : Int) (e4 : Int) (e5 : Int) (e6 : Int) (e7 : Bool) (r : Int) : List Prop :=
  [0 ≤ (bs0 (straight_s2 l0 l1 h0 h1)).fst ∧
      (bs0 (straight_s2 l0 l1 h0 h1)).fst ≤ (bs0 (straight_s2 l0 l1 h0 h1)).snd ∧ (bs0 (straight_s2 l0 l1 h0 h1)).snd ≤ 1000000000000 ∧ straight_s3 l0 h0 ∧ straight_s3 l1 h1 ∧ straight_s5 l0 l1 h0 h1,
    (bs0 (straight_s2 l0 l1 h0 h1)).snd = straight_s2 l0 l1 h0 h1, (bs0 (straight_s2 l0 l1 h0 h1)).fst = 0, straight_s3 l0 h0,
    -9223372036854775808 ≤ straight_s6 l0 l1 h0 h1 e0 e1 e2 e3 e4 e5 e6 e7 r ∧ straight_s6 l0 l1 h0 h1 e0 e1 e2 e3 e4 e5 e6 e7 r < 9223372036854775808, straight_s5 l0 l1 h0 h1, straight_s3 l1 h1,
    -9223372036854775808 ≤ straight_s6 l0 l1 h0 h1 e0 e1 e2 e3 e4 e5 e6 e7 r ∧ straight_s6 l0 l1 h0 h1 e0 e1 e2 e3 e4 e5 e6 e7 r < 9223372036854775808, straight_s5 l0 l1 h0 h1]
theorem straight_weak {l0 : Int} {l1 : Int} {h0 : Int} {h1 : Int} {e0 : Int} {e1 : Int} {e2 : Int} {e3 : Int} {e4 : Int} {e5 : Int} {e6 : Int} {e7 : Bool} {r : Int} (hW : ∀ q ∈ ([bd 1048576 l0, bd 1048576 l1, bd 1048576 h0, bd 1048576 h1] : List Prop), q) : ∀ q ∈ (straight_needs l0 l1 h0 h1 e0 e1 e2 e3 e4 e5 e6 e7 r), q := by
  simp only [List.mem_cons, List.not_mem_nil, or_false, forall_eq_or_imp, forall_eq] at hW
  unfold straight_needs
  simp only [List.forall_mem_cons, List.not_mem_nil, false_implies, implies_true, and_true]
  obtain ⟨b0, b1, b2, b3⟩ := hW
  have d0 : minus_0 h0 l0 = h0 - l0 := minus_eq (by omega) (by omega)
  have d1 : minus_0 h1 l1 = h1 - l1 := minus_eq (by omega) (by omega)
  have hn : 0 ≤ straight_s2 l0 l1 h0 h1 ∧ straight_s2 l0 l1 h0 h1 ≤ 2097152 := by
    unfold straight_s2 straight_s1 straight_s0
    rw [d0, d1, wrI (x := 0 - (h0 - l0)) (by omega) (by omega), wrI (x := 0 - (h1 - l1)) (by omega) (by omega)]
    repeat' split
    all_goals omega
  have hf : 0 ≤ straight_s6 l0 l1 h0 h1 e0 e1 e2 e3 e4 e5 e6 e7 r ∧ straight_s6 l0 l1 h0 h1 e0 e1 e2 e3 e4 e5 e6 e7 r ≤ straight_s2 l0 l1 h0 h1 := bsF_rng _ hn.1
  have i6 : isI (straight_s6 l0 l1 h0 h1 e0 e1 e2 e3 e4 e5 e6 e7 r) := ⟨by omega, by omega⟩
  have i5 : isI (straight_s2 l0 l1 h0 h1) := ⟨by omega, by omega⟩
  have i0 : isI (minus_0 h0 l0) := wrap_isI _
  have i1 : isI (minus_0 h1 l1) := wrap_isI _
  exact ⟨⟨Int.le_refl 0, hn.1, show straight_s2 l0 l1 h0 h1 ≤ _ by omega, i0, i1, i5⟩, rfl, rfl, i0, i6, i5, i1, i6, i5⟩
set_option maxRecDepth 1000000 in
theorem straight_runs (l0 l1 h0 h1 e0 e1 e2 e3 e4 e5 e6 : Int) (e7 : Bool) (r : Int) (hNeeds : ∀ pN ∈ (straight_needs l0 l1 h0 h1 e0 e1 e2 e3 e4 e5 e6 e7 r), pN) : Runs (runF (sums K_ahead) L_st 81) (straight_tpl.args [.i l0, .i l1, .i h0, .i h1, .i e0, .i e1, .i e2, .i e3, .i e4, .i e5, .i e6, .b e7, .i r]) (straight_tpl.memo [.i l0, .i l1, .i h0, .i h1, .i e0, .i e1, .i e2, .i e3, .i e4, .i e5, .i e6, .b e7, .i r] []) straight_tpl.n (SV.agg [SC.int IntKind.i64 (SI.v (straight_0 l0 l1 h0 h1 e0 e1 e2 e3 e4 e5 e6 e7 r)), SC.int IntKind.i64 (SI.v (straight_1 l0 l1 h0 h1 e0 e1 e2 e3 e4 e5 e6 e7 r))])
    ([(0, Obj.clo [SV.one (SC.ptr 1 0), SV.one (SC.ptr 2 0)]),
    (1,
      Obj.blk 74
        [(3, SC.int IntKind.i64 (SI.v e0)), (4, SC.int IntKind.i64 (SI.v e1)), (5, SC.int IntKind.i64 (SI.v e2)), (6, SC.int IntKind.i64 (SI.v e3)), (7, SC.int IntKind.i64 (SI.v e4)),
          (8, SC.int IntKind.i64 (SI.v e5)), (9, SC.int IntKind.i64 (SI.v e6)), (10, SC.bool (SB.v e7))]),
    (2, Obj.blk 3 [(11, SC.int IntKind.i64 (SI.v r))])]) :=
  Runs.of1 (ps := (straight_needs l0 l1 h0 h1 e0 e1 e2 e3 e4 e5 e6 e7 r)) (by kernel_rfl) hNeeds
noncomputable def straight_out : List Pm → Lss → Option CRes
  | [.i l0, .i l1, .i h0, .i h1, .i e0, .i e1, .i e2, .i e3, .i e4, .i e5, .i e6, .b e7, .i r], [] => some ⟨SV.agg [SC.int IntKind.i64 (SI.v (straight_0 l0 l1 h0 h1 e0 e1 e2 e3 e4 e5 e6 e7 r)), SC.int IntKind.i64 (SI.v (straight_1 l0 l1 h0 h1 e0 e1 e2 e3 e4 e5 e6 e7 r))],
    [(0, Obj.clo [SV.one (SC.ptr 1 0), SV.one (SC.ptr 2 0)]),
    (1,
      Obj.blk 74
        [(3, SC.int IntKind.i64 (SI.v e0)), (4, SC.int IntKind.i64 (SI.v e1)), (5, SC.int IntKind.i64 (SI.v e2)), (6, SC.int IntKind.i64 (SI.v e3)), (7, SC.int IntKind.i64 (SI.v e4)),
          (8, SC.int IntKind.i64 (SI.v e5)), (9, SC.int IntKind.i64 (SI.v e6)), (10, SC.bool (SB.v e7))]),
    (2, Obj.blk 3 [(11, SC.int IntKind.i64 (SI.v r))])],
    [bd 1048576 l0, bd 1048576 l1, bd 1048576 h0, bd 1048576 h1], [], 1229⟩
  | _, _ => none
theorem straight_ok : FOk Try.prog 81 (tplS straight_tpl straight_out) := by
  refine tplS_ok (runF_ok known_stL 81) fun ps ls r hr hn _ => ?_
  unfold straight_out at hr
  split at hr
  · cases hr; exact ⟨_, straight_runs _ _ _ _ _ _ _ _ _ _ _ _ _ (straight_weak (by exact hn)), fun _ => rfl⟩
  · cases hr
noncomputable def K_straight : List (Nat × Summ) := (81, tplS straight_tpl straight_out) :: K_ahead
theorem known_straight : Known Try.prog (sums K_straight) L_st := known_cons known_stL straight_ok
end Go.Proofs.Ytmbfbhimdkjkoaa
namespace Go.Proofs.Ytmbfbhimdkjkoaa
open Go.SX Go.RowKit
/-- A state of a search on an arc: how often, and the two points. -/
structure CvS where
  i : Nat
  a0 : Int
  a1 : Int
  b0 : Int
  b1 : Int
noncomputable def cvNear (s : CvS) : Bool := oin_0 (IntKind.i64.wrap (s.b0 - s.a0)) 1 && oin_0 (IntKind.i64.wrap (s.b1 - s.a1)) 1
noncomputable def oH0 (a0 a1 b0 b1 d z : Int) : Int := wOver_0 (ohalf_s1 a0 a1 b0 b1 d) z (vinner_0 (ohalf_s1 a0 a1 b0 b1 d) (ohalf_s2 a0 a1 b0 b1 d) (ohalf_s1 a0 a1 b0 b1 d) (ohalf_s2 a0 a1 b0 b1 d)) 2
noncomputable def oH1 (a0 a1 b0 b1 d z : Int) : Int := wOver_0 (ohalf_s2 a0 a1 b0 b1 d) z (vinner_0 (ohalf_s1 a0 a1 b0 b1 d) (ohalf_s2 a0 a1 b0 b1 d) (ohalf_s1 a0 a1 b0 b1 d) (ohalf_s2 a0 a1 b0 b1 d)) 2
noncomputable def cvM0 (d z : Int) (full : Bool) (s : CvS) : Int := bif !full || decide (Int.ofNat s.i > 0) then oH0 s.a0 s.a1 s.b0 s.b1 d z else IntKind.i64.wrap (0 - s.a0)
noncomputable def cvM1 (d z : Int) (full : Bool) (s : CvS) : Int := bif !full || decide (Int.ofNat s.i > 0) then oH1 s.a0 s.a1 s.b0 s.b1 d z else IntKind.i64.wrap (0 - s.a1)
noncomputable def cvN (P : Int → Int → Bool) (d z : Int) (full : Bool) (s : CvS) : CvS :=
  ⟨s.i + 1, bif P (cvM0 d z full s) (cvM1 d z full s) then s.a0 else cvM0 d z full s, bif P (cvM0 d z full s) (cvM1 d z full s) then s.a1 else cvM1 d z full s,
    bif P (cvM0 d z full s) (cvM1 d z full s) then cvM0 d z full s else s.b0, bif P (cvM0 d z full s) (cvM1 d z full s) then cvM1 d z full s else s.b1⟩
noncomputable def cv (P : Int → Int → Bool) (d z : Int) (full : Bool) : Nat → CvS → Int × Int
  | 0, s => (s.b0, s.b1)
  | f + 1, s => bif (!full || decide (Int.ofNat s.i > 0)) && cvNear s then (s.b0, s.b1) else cv P d z full f (cvN P d z full s)
noncomputable def cv0 (a0 a1 b0 b1 : Int) : CvS := ⟨0, a0, a1, b0, b1⟩
noncomputable def blkT (id t u : Nat) (x y : Int) : Nat × SX.Obj := (id, .blk 59 [(t, I x), (u, I y)])
noncomputable def crP (f4 f5 e0 e1 e2 e3 e4 e5 e6 r u w : Int) : Bool := oclear_0 e0 e1 e2 e3 e4 e5 e6 (addpt_0 f4 u) (addpt_0 f5 w) r
noncomputable def crM (f0 f1 f2 f3 f4 f5 f6 : Int) (f7 : Bool) (e0 e1 e2 e3 e4 e5 e6 : Int) (e7 : Bool) (r : Int) : Mem :=
  [blk0 30 31, blkE 12 13 f0 f1 f2 f3 f4 f5 f6 f7, (0, .clo [.one (.ptr 1 0), .one (.ptr 2 0)]), blkE 1 3 e0 e1 e2 e3 e4 e5 e6 e7, (2, .blk 3 [(11, I r)])]
noncomputable def crF (z : Int) (f0 f1 f2 f3 f4 f5 f6 : Int) (f7 : Bool) (e0 e1 e2 e3 e4 e5 e6 : Int) (e7 : Bool) (r : Int) : Fam CvS (Int × Int) where
  k := 60
  E s := [(44, ent 1000000000 (.one (I (Int.ofNat s.i)))), (15, ent 377 (.one (.ptr 374 0))), (14, ent 373 (.one (.ptr 370 0))), (12, ent 309 (.one (I z))), (10, ent 33 (.one (.ptr 30 0))), (5, ent 21 (.one (.ptr 12 0))), (4, ent 8 (.one (.clo 79 0)))]
  M s := blkT 374 1000000001 1000000002 s.b0 s.b1 :: blkT 370 1000000003 1000000004 s.a0 s.a1 :: crM f0 f1 f2 f3 f4 f5 f6 f7 e0 e1 e2 e3 e4 e5 e6 e7 r
  out t := .leaf (.exit 0) [(15, ent 377 (.one (.ptr 374 0))), (10, ent 33 (.one (.ptr 30 0))), (5, ent 21 (.one (.ptr 12 0)))] (blkT 374 386 387 t.1 t.2 :: crM f0 f1 f2 f3 f4 f5 f6 f7 e0 e1 e2 e3 e4 e5 e6 e7 r)
  fin s := cv (crP f4 f5 e0 e1 e2 e3 e4 e5 e6 r) f6 z f7 (24 - s.i) s
  next s _ := cvN (crP f4 f5 e0 e1 e2 e3 e4 e5 e6 r) f6 z f7 s
  J s := s.i ≤ 24 ∧ isI z
  μ s := 24 - s.i
noncomputable def cr_s0 (s : CvS) : Prop :=
  decide (Int.ofNat s.i < 24) = true
noncomputable def cr_s1 (f7 : Bool) (s : CvS) : Prop :=
  (!f7 || decide (Int.ofNat s.i > 0)) = true
noncomputable def cr_s2 (s : CvS) : Prop :=
  (oin_0 (IntKind.i64.wrap (s.b0 - s.a0)) 1 && oin_0 (IntKind.i64.wrap (s.b1 - s.a1)) 1) = false
noncomputable def cr_s3 (z : Int) : Prop :=
  -9223372036854775808 ≤ z ∧ z < 9223372036854775808
noncomputable def cr_s4 (z : Int) (f0 : Int) (f1 : Int) (f2 : Int) (f3 : Int) (f4 : Int) (f5 : Int) (f6 : Int) (f7 : Bool) (e0 : Int) (e1 : Int) (e2 : Int) (e3 : Int) (e4 : Int) (e5 : Int) (e6 : Int) (e7 : Bool) (r : Int) (s : CvS) : Prop :=
  ((crF z f0 f1 f2 f3 f4 f5 f6 f7 e0 e1 e2 e3 e4 e5 e6 e7 r).fin s).fst = s.b0 ∧ ((crF z f0 f1 f2 f3 f4 f5 f6 f7 e0 e1 e2 e3 e4 e5 e6 e7 r).fin s).snd = s.b1
noncomputable def cr_s5 (f6 : Int) (s : CvS) : Int :=
  vinner_0 (ohalf_s1 s.a0 s.a1 s.b0 s.b1 f6) (ohalf_s2 s.a0 s.a1 s.b0 s.b1 f6) (ohalf_s1 s.a0 s.a1 s.b0 s.b1 f6) (ohalf_s2 s.a0 s.a1 s.b0 s.b1 f6)
noncomputable def cr_s6 (z : Int) (f6 : Int) (s : CvS) : Int :=
  wOver_0 (ohalf_s1 s.a0 s.a1 s.b0 s.b1 f6) z (cr_s5 f6 s) 2
noncomputable def cr_s7 (z : Int) (f6 : Int) (s : CvS) : Int :=
  wOver_0 (ohalf_s2 s.a0 s.a1 s.b0 s.b1 f6) z (cr_s5 f6 s) 2
noncomputable def cr_needs (z : Int) (f0 : Int) (f1 : Int) (f2 : Int) (f3 : Int) (f4 : Int) (f5 : Int) (f6 : Int) (f7 : Bool) (e0 : Int) (e1 : Int) (e2 : Int) (e3 : Int) (e4 : Int) (e5 : Int) (e6 : Int) (e7 : Bool) (r : Int) (s : CvS) : List Prop :=
  [cr_s0 s → cr_s1 f7 s → cr_s2 s → cr_s3 z,
    cr_s0 s →
      (cr_s1 f7 s →
          ((oin_0 (IntKind.i64.wrap (s.b0 - s.a0)) 1 && oin_0 (IntKind.i64.wrap (s.b1 - s.a1)) 1) = true → cr_s4 z f0 f1 f2 f3 f4 f5 f6 f7 e0 e1 e2 e3 e4 e5 e6 e7 r s) ∧
            (cr_s2 s →
              (((crF z f0 f1 f2 f3 f4 f5 f6 f7 e0 e1 e2 e3 e4 e5 e6 e7 r).next s 1).i ≤ 24 ∧ cr_s3 z) ∧
                (crF z f0 f1 f2 f3 f4 f5 f6 f7 e0 e1 e2 e3 e4 e5 e6 e7 r).μ ((crF z f0 f1 f2 f3 f4 f5 f6 f7 e0 e1 e2 e3 e4 e5 e6 e7 r).next s 1) <
                    (crF z f0 f1 f2 f3 f4 f5 f6 f7 e0 e1 e2 e3 e4 e5 e6 e7 r).μ s ∧
                  (crF z f0 f1 f2 f3 f4 f5 f6 f7 e0 e1 e2 e3 e4 e5 e6 e7 r).fin ((crF z f0 f1 f2 f3 f4 f5 f6 f7 e0 e1 e2 e3 e4 e5 e6 e7 r).next s 1) =
                      (crF z f0 f1 f2 f3 f4 f5 f6 f7 e0 e1 e2 e3 e4 e5 e6 e7 r).fin s ∧
                    Int.ofNat ((crF z f0 f1 f2 f3 f4 f5 f6 f7 e0 e1 e2 e3 e4 e5 e6 e7 r).next s 1).i = IntKind.i64.wrap (Int.ofNat s.i + 1) ∧
                      (((crF z f0 f1 f2 f3 f4 f5 f6 f7 e0 e1 e2 e3 e4 e5 e6 e7 r).next s 1).b0 =
                          bif oclear_0 e0 e1 e2 e3 e4 e5 e6 (addpt_0 f4 (cr_s6 z f6 s)) (addpt_0 f5 (cr_s7 z f6 s)) r then cr_s6 z f6 s else s.b0) ∧
                        (((crF z f0 f1 f2 f3 f4 f5 f6 f7 e0 e1 e2 e3 e4 e5 e6 e7 r).next s 1).b1 =
                            bif oclear_0 e0 e1 e2 e3 e4 e5 e6 (addpt_0 f4 (cr_s6 z f6 s)) (addpt_0 f5 (cr_s7 z f6 s)) r then cr_s7 z f6 s else s.b1) ∧
                          (((crF z f0 f1 f2 f3 f4 f5 f6 f7 e0 e1 e2 e3 e4 e5 e6 e7 r).next s 1).a0 =
                              bif oclear_0 e0 e1 e2 e3 e4 e5 e6 (addpt_0 f4 (cr_s6 z f6 s)) (addpt_0 f5 (cr_s7 z f6 s)) r then s.a0 else cr_s6 z f6 s) ∧
                            ((crF z f0 f1 f2 f3 f4 f5 f6 f7 e0 e1 e2 e3 e4 e5 e6 e7 r).next s 1).a1 =
                              bif oclear_0 e0 e1 e2 e3 e4 e5 e6 (addpt_0 f4 (cr_s6 z f6 s)) (addpt_0 f5 (cr_s7 z f6 s)) r then s.a1 else cr_s7 z f6 s)) ∧
        ((!f7 || decide (Int.ofNat s.i > 0)) = false →
          (((crF z f0 f1 f2 f3 f4 f5 f6 f7 e0 e1 e2 e3 e4 e5 e6 e7 r).next s 2).i ≤ 24 ∧ cr_s3 z) ∧
            (crF z f0 f1 f2 f3 f4 f5 f6 f7 e0 e1 e2 e3 e4 e5 e6 e7 r).μ ((crF z f0 f1 f2 f3 f4 f5 f6 f7 e0 e1 e2 e3 e4 e5 e6 e7 r).next s 2) <
                (crF z f0 f1 f2 f3 f4 f5 f6 f7 e0 e1 e2 e3 e4 e5 e6 e7 r).μ s ∧
              (crF z f0 f1 f2 f3 f4 f5 f6 f7 e0 e1 e2 e3 e4 e5 e6 e7 r).fin ((crF z f0 f1 f2 f3 f4 f5 f6 f7 e0 e1 e2 e3 e4 e5 e6 e7 r).next s 2) =
                  (crF z f0 f1 f2 f3 f4 f5 f6 f7 e0 e1 e2 e3 e4 e5 e6 e7 r).fin s ∧
                Int.ofNat ((crF z f0 f1 f2 f3 f4 f5 f6 f7 e0 e1 e2 e3 e4 e5 e6 e7 r).next s 2).i = IntKind.i64.wrap (Int.ofNat s.i + 1) ∧
                  (((crF z f0 f1 f2 f3 f4 f5 f6 f7 e0 e1 e2 e3 e4 e5 e6 e7 r).next s 2).b0 =
                      bif oclear_0 e0 e1 e2 e3 e4 e5 e6 (addpt_0 f4 (IntKind.i64.wrap (0 - s.a0))) (addpt_0 f5 (IntKind.i64.wrap (0 - s.a1))) r then IntKind.i64.wrap (0 - s.a0) else s.b0) ∧
                    (((crF z f0 f1 f2 f3 f4 f5 f6 f7 e0 e1 e2 e3 e4 e5 e6 e7 r).next s 2).b1 =
                        bif oclear_0 e0 e1 e2 e3 e4 e5 e6 (addpt_0 f4 (IntKind.i64.wrap (0 - s.a0))) (addpt_0 f5 (IntKind.i64.wrap (0 - s.a1))) r then IntKind.i64.wrap (0 - s.a1) else s.b1) ∧
                      (((crF z f0 f1 f2 f3 f4 f5 f6 f7 e0 e1 e2 e3 e4 e5 e6 e7 r).next s 2).a0 =
                          bif oclear_0 e0 e1 e2 e3 e4 e5 e6 (addpt_0 f4 (IntKind.i64.wrap (0 - s.a0))) (addpt_0 f5 (IntKind.i64.wrap (0 - s.a1))) r then s.a0 else IntKind.i64.wrap (0 - s.a0)) ∧
                        ((crF z f0 f1 f2 f3 f4 f5 f6 f7 e0 e1 e2 e3 e4 e5 e6 e7 r).next s 2).a1 =
                          bif oclear_0 e0 e1 e2 e3 e4 e5 e6 (addpt_0 f4 (IntKind.i64.wrap (0 - s.a0))) (addpt_0 f5 (IntKind.i64.wrap (0 - s.a1))) r then s.a1 else IntKind.i64.wrap (0 - s.a1)),
    decide (Int.ofNat s.i < 24) = false → cr_s4 z f0 f1 f2 f3 f4 f5 f6 f7 e0 e1 e2 e3 e4 e5 e6 e7 r s]
theorem cr_round (z f0 f1 f2 f3 f4 f5 f6 : Int) (f7 : Bool) (e0 e1 e2 e3 e4 e5 e6 : Int) (e7 : Bool) (r : Int) (s : CvS) (hNeeds : ∀ pN ∈ (cr_needs z f0 f1 f2 f3 f4 f5 f6 f7 e0 e1 e2 e3 e4 e5 e6 e7 r s), pN) : RoundOk (roundC (crF z f0 f1 f2 f3 f4 f5 f6 f7 e0 e1 e2 e3 e4 e5 e6 e7 r) (bodyOf Try.prog (sums K_straight) L_st 82 0) 385 s) :=
  RoundOk.of (ps := (cr_needs z f0 f1 f2 f3 f4 f5 f6 f7 e0 e1 e2 e3 e4 e5 e6 e7 r s)) (by kernel_rfl) (by kernel_rfl) hNeeds
theorem cv_next (P : Int → Int → Bool) (d z : Int) (full : Bool) (s : CvS) (h : s.i < 24) : cv P d z full (24 - s.i) s = bif (!full || decide (Int.ofNat s.i > 0)) && cvNear s then (s.b0, s.b1) else cv P d z full (24 - (s.i + 1)) (cvN P d z full s) := by
  have e : 24 - s.i = (24 - (s.i + 1)) + 1 := by omega
  rw [e]; rfl
theorem cr_rounds (z f0 f1 f2 f3 f4 f5 f6 : Int) (f7 : Bool) (e0 e1 e2 e3 e4 e5 e6 : Int) (e7 : Bool) (r : Int) : RoundsOk (crF z f0 f1 f2 f3 f4 f5 f6 f7 e0 e1 e2 e3 e4 e5 e6 e7 r) (bodyOf Try.prog (sums K_straight) L_st 82 0) 385 := by
  intro s hJ
  obtain ⟨hi, hz⟩ : s.i ≤ 24 ∧ isI z := hJ
  refine cr_round z f0 f1 f2 f3 f4 f5 f6 f7 e0 e1 e2 e3 e4 e5 e6 e7 r s ?_
  unfold cr_needs
  intro p hp
  simp only [List.mem_cons, List.not_mem_nil, or_false] at hp
  have hw : IntKind.i64.wrap (Int.ofNat s.i + 1) = Int.ofNat (s.i + 1) := by
    rw [wrI (by simp; omega) (by simp; omega)]; rfl
  rcases hp with rfl | rfl | rfl
  · exact fun _ _ _ => hz
  · intro h0
    have hi' : s.i < 24 := by
      have h0 : decide (Int.ofNat s.i < 24) = true := h0
      simp at h0; omega
    have E1 := cv_next (crP f4 f5 e0 e1 e2 e3 e4 e5 e6 r) f6 z f7 s hi'
    refine ⟨fun g1 => ⟨fun g2 => ?_, fun g2 => ?_⟩, fun g1 => ?_⟩
    · have g1 : (!f7 || decide (Int.ofNat s.i > 0)) = true := g1
      have g2 : cvNear s = true := g2
      rw [g1, g2] at E1
      have e2 : (crF z f0 f1 f2 f3 f4 f5 f6 f7 e0 e1 e2 e3 e4 e5 e6 e7 r).fin s = (s.b0, s.b1) := E1
      unfold cr_s4
      rw [e2]
      exact ⟨rfl, rfl⟩
    · have g1 : (!f7 || decide (Int.ofNat s.i > 0)) = true := g1
      have g2 : cvNear s = false := g2
      rw [g1, g2] at E1
      have m0 : cvM0 f6 z f7 s = cr_s6 z f6 s := by unfold cvM0; rw [g1]; rfl
      have m1 : cvM1 f6 z f7 s = cr_s7 z f6 s := by unfold cvM1; rw [g1]; rfl
      refine ⟨⟨by show s.i + 1 ≤ 24; omega, hz⟩, ?_, E1.symm, hw.symm, ?_, ?_, ?_, ?_⟩
      · show 24 - (s.i + 1) < 24 - s.i; omega
      all_goals (rw [← m0, ← m1]; rfl)
    · have m0 : cvM0 f6 z f7 s = IntKind.i64.wrap (0 - s.a0) := by unfold cvM0; rw [g1]; rfl
      have m1 : cvM1 f6 z f7 s = IntKind.i64.wrap (0 - s.a1) := by unfold cvM1; rw [g1]; rfl
      rw [g1] at E1
      refine ⟨⟨by show s.i + 1 ≤ 24; omega, hz⟩, ?_, E1.symm, hw.symm, ?_, ?_, ?_, ?_⟩
      · show 24 - (s.i + 1) < 24 - s.i; omega
      all_goals (rw [← m0, ← m1]; rfl)
  · intro h
    have hi' : 24 - s.i = 0 := by
      simp at h; omega
    have e2 : (crF z f0 f1 f2 f3 f4 f5 f6 f7 e0 e1 e2 e3 e4 e5 e6 e7 r).fin s = (s.b0, s.b1) := by
      show cv _ _ _ _ (24 - s.i) s = _
      rw [hi']; rfl
    unfold cr_s4
    rw [e2]
    exact ⟨rfl, rfl⟩
noncomputable def crL : LoopS := fun env mem m => match eInt env 12, mInts mem 374, mInts mem 370, mElem mem 12, mElem mem 1, mInts mem 2 with
  | some z, some [b0, b1], some [a0, a1], some ([f0, f1, f2, f3, f4, f5, f6], f7), some ([e0, e1, e2, e3, e4, e5, e6], e7), some [r] => famS (crF z f0 f1 f2 f3 f4 f5 f6 f7 e0 e1 e2 e3 e4 e5 e6 e7 r) 385 (fun _ _ => some (cv0 a0 a1 b0 b1)) env mem m
  | _, _, _, _, _, _ => none
noncomputable def L_cr : FuncId → Nat → Option LoopS := addL L_st 82 6 crL
theorem known_crL : Known Try.prog (sums K_straight) L_cr := by
  refine known_addL 0 known_straight (by kernel_rfl) (codeOk_of fun env mem m x h => ?_)
  unfold crL at h
  have hlen : (loopList Try.prog 82).length = 1 := by kernel_rfl
  split at h
  · exact ⟨_, fam_ok (bodyOf_ok plainN known_straight (by omega)) (cr_rounds _ _ _ _ _ _ _ _ _ _ _ _ _ _ _ _ _ _), h⟩
  · cases h
noncomputable def curved_tpl : Tpl := ⟨[.agg [.int .i64, .int .i64, .int .i64, .int .i64, .int .i64, .int .i64, .int .i64, .bool], .agg [.int .i64, .int .i64], .agg [.int .i64, .int .i64], .one (.int .i64), .one (.clo 79 0)], [(0, .clo [.one (.ptr 1 0), .one (.ptr 2 0)]), (1, .blk 74 [(3, .int .i64), (4, .int .i64), (5, .int .i64), (6, .int .i64), (7, .int .i64), (8, .int .i64), (9, .int .i64), (10, .bool)]), (2, .blk 3 [(11, .int .i64)])], 12⟩
noncomputable def curved_0 (f0 : Int) (f1 : Int) (f2 : Int) (f3 : Int) (f4 : Int) (f5 : Int) (f6 : Int) (f7 : Bool) (l0 : Int) (l1 : Int) (h0 : Int) (h1 : Int) (rr : Int) (e0 : Int) (e1 : Int) (e2 : Int) (e3 : Int) (e4 : Int) (e5 : Int) (e6 : Int) (e7 : Bool) (r : Int) : Int :=
  addpt_0 f4
    ((crF (IntKind.i64.wrap (wSqrt_0 (vinner_0 (minus_0 f0 f4) (minus_0 f1 f5) (minus_0 f0 f4) (minus_0 f1 f5)) 2 - IntKind.i64.wrap (f6 * rr))) f0 f1 f2 f3 f4 f5 f6 f7 e0 e1 e2 e3 e4 e5 e6 e7 r).fin
        (cv0 (minus_0 l0 f4) (minus_0 l1 f5) (minus_0 h0 f4) (minus_0 h1 f5))).fst
noncomputable def curved_1 (f0 : Int) (f1 : Int) (f2 : Int) (f3 : Int) (f4 : Int) (f5 : Int) (f6 : Int) (f7 : Bool) (l0 : Int) (l1 : Int) (h0 : Int) (h1 : Int) (rr : Int) (e0 : Int) (e1 : Int) (e2 : Int) (e3 : Int) (e4 : Int) (e5 : Int) (e6 : Int) (e7 : Bool) (r : Int) : Int :=
  addpt_0 f5
    ((crF (IntKind.i64.wrap (wSqrt_0 (vinner_0 (minus_0 f0 f4) (minus_0 f1 f5) (minus_0 f0 f4) (minus_0 f1 f5)) 2 - IntKind.i64.wrap (f6 * rr))) f0 f1 f2 f3 f4 f5 f6 f7 e0 e1 e2 e3 e4 e5 e6 e7 r).fin
        (cv0 (minus_0 l0 f4) (minus_0 l1 f5) (minus_0 h0 f4) (minus_0 h1 f5))).snd
noncomputable def curved_s0 (f0 : Int) (f1 : Int) (f4 : Int) (f5 : Int) (f6 : Int) (rr : Int) : Int :=
  IntKind.i64.wrap (wSqrt_0 (vinner_0 (minus_0 f0 f4) (minus_0 f1 f5) (minus_0 f0 f4) (minus_0 f1 f5)) 2 - IntKind.i64.wrap (f6 * rr))
noncomputable def curved_needs (f0 : Int) (f1 : Int) (f4 : Int) (f5 : Int) (f6 : Int) (l0 : Int) (l1 : Int) (h0 : Int) (h1 : Int) (rr : Int) : List Prop :=
  [-9223372036854775808 ≤ vinner_0 (minus_0 f0 f4) (minus_0 f1 f5) (minus_0 f0 f4) (minus_0 f1 f5) ∧ vinner_0 (minus_0 f0 f4) (minus_0 f1 f5) (minus_0 f0 f4) (minus_0 f1 f5) < 9223372036854775808,
    (cv0 (minus_0 l0 f4) (minus_0 l1 f5) (minus_0 h0 f4) (minus_0 h1 f5)).i ≤ 24 ∧ -9223372036854775808 ≤ curved_s0 f0 f1 f4 f5 f6 rr ∧ curved_s0 f0 f1 f4 f5 f6 rr < 9223372036854775808,
    Int.ofNat (cv0 (minus_0 l0 f4) (minus_0 l1 f5) (minus_0 h0 f4) (minus_0 h1 f5)).i = 0, (cv0 (minus_0 l0 f4) (minus_0 l1 f5) (minus_0 h0 f4) (minus_0 h1 f5)).b0 = minus_0 h0 f4,
    (cv0 (minus_0 l0 f4) (minus_0 l1 f5) (minus_0 h0 f4) (minus_0 h1 f5)).b1 = minus_0 h1 f5, (cv0 (minus_0 l0 f4) (minus_0 l1 f5) (minus_0 h0 f4) (minus_0 h1 f5)).a0 = minus_0 l0 f4,
    (cv0 (minus_0 l0 f4) (minus_0 l1 f5) (minus_0 h0 f4) (minus_0 h1 f5)).a1 = minus_0 l1 f5]
theorem curved_need {f0 : Int} {f1 : Int} {f4 : Int} {f5 : Int} {f6 : Int} {l0 : Int} {l1 : Int} {h0 : Int} {h1 : Int} {rr : Int} : ∀ q ∈ (curved_needs f0 f1 f4 f5 f6 l0 l1 h0 h1 rr), q := by
  unfold curved_needs
  simp only [List.forall_mem_cons, List.not_mem_nil, false_implies, implies_true, and_true]
  exact ⟨wrap_isI _, ⟨Nat.zero_le _, wrap_isI _⟩, rfl, rfl, rfl, rfl, rfl⟩
set_option maxRecDepth 1000000 in
theorem curved_runs (f0 f1 f2 f3 f4 f5 f6 : Int) (f7 : Bool) (l0 l1 h0 h1 rr e0 e1 e2 e3 e4 e5 e6 : Int) (e7 : Bool) (r : Int) (hNeeds : ∀ pN ∈ (curved_needs f0 f1 f4 f5 f6 l0 l1 h0 h1 rr), pN) : Runs (runF (sums K_straight) L_cr 82) (curved_tpl.args [.i f0, .i f1, .i f2, .i f3, .i f4, .i f5, .i f6, .b f7, .i l0, .i l1, .i h0, .i h1, .i rr, .i e0, .i e1, .i e2, .i e3, .i e4, .i e5, .i e6, .b e7, .i r]) (curved_tpl.memo [.i f0, .i f1, .i f2, .i f3, .i f4, .i f5, .i f6, .b f7, .i l0, .i l1, .i h0, .i h1, .i rr, .i e0, .i e1, .i e2, .i e3, .i e4, .i e5, .i e6, .b e7, .i r] []) curved_tpl.n (SV.agg
    [SC.int IntKind.i64 (SI.v (curved_0 f0 f1 f2 f3 f4 f5 f6 f7 l0 l1 h0 h1 rr e0 e1 e2 e3 e4 e5 e6 e7 r)),
      SC.int IntKind.i64 (SI.v (curved_1 f0 f1 f2 f3 f4 f5 f6 f7 l0 l1 h0 h1 rr e0 e1 e2 e3 e4 e5 e6 e7 r))])
    ([(0, Obj.clo [SV.one (SC.ptr 1 0), SV.one (SC.ptr 2 0)]),
    (1,
      Obj.blk 74
        [(3, SC.int IntKind.i64 (SI.v e0)), (4, SC.int IntKind.i64 (SI.v e1)), (5, SC.int IntKind.i64 (SI.v e2)), (6, SC.int IntKind.i64 (SI.v e3)), (7, SC.int IntKind.i64 (SI.v e4)),
          (8, SC.int IntKind.i64 (SI.v e5)), (9, SC.int IntKind.i64 (SI.v e6)), (10, SC.bool (SB.v e7))]),
    (2, Obj.blk 3 [(11, SC.int IntKind.i64 (SI.v r))])]) :=
  Runs.of1 (ps := (curved_needs f0 f1 f4 f5 f6 l0 l1 h0 h1 rr)) (by kernel_rfl) hNeeds
noncomputable def curved_out : List Pm → Lss → Option CRes
  | [.i f0, .i f1, .i f2, .i f3, .i f4, .i f5, .i f6, .b f7, .i l0, .i l1, .i h0, .i h1, .i rr, .i e0, .i e1, .i e2, .i e3, .i e4, .i e5, .i e6, .b e7, .i r], [] => some ⟨SV.agg
    [SC.int IntKind.i64 (SI.v (curved_0 f0 f1 f2 f3 f4 f5 f6 f7 l0 l1 h0 h1 rr e0 e1 e2 e3 e4 e5 e6 e7 r)),
      SC.int IntKind.i64 (SI.v (curved_1 f0 f1 f2 f3 f4 f5 f6 f7 l0 l1 h0 h1 rr e0 e1 e2 e3 e4 e5 e6 e7 r))],
    [(0, Obj.clo [SV.one (SC.ptr 1 0), SV.one (SC.ptr 2 0)]),
    (1,
      Obj.blk 74
        [(3, SC.int IntKind.i64 (SI.v e0)), (4, SC.int IntKind.i64 (SI.v e1)), (5, SC.int IntKind.i64 (SI.v e2)), (6, SC.int IntKind.i64 (SI.v e3)), (7, SC.int IntKind.i64 (SI.v e4)),
          (8, SC.int IntKind.i64 (SI.v e5)), (9, SC.int IntKind.i64 (SI.v e6)), (10, SC.bool (SB.v e7))]),
    (2, Obj.blk 3 [(11, SC.int IntKind.i64 (SI.v r))])],
    [], [], 478⟩
  | _, _ => none
theorem curved_ok : FOk Try.prog 82 (tplS curved_tpl curved_out) := by
  refine tplS_ok (runF_ok known_crL 82) fun ps ls r hr hn _ => ?_
  unfold curved_out at hr
  split at hr
  · cases hr; exact ⟨_, curved_runs _ _ _ _ _ _ _ _ _ _ _ _ _ _ _ _ _ _ _ _ _ _ (fun p hp => curved_need p hp), fun _ => rfl⟩
  · cases hr
noncomputable def K_curved : List (Nat × Summ) := (82, tplS curved_tpl curved_out) :: K_straight
theorem known_curved : Known Try.prog (sums K_curved) L_cr := known_cons known_crL curved_ok
end Go.Proofs.Ytmbfbhimdkjkoaa
namespace Go.Proofs.Ytmbfbhimdkjkoaa
open Go.SX Go.RowKit
theorem nest_bd (A B C D X : Int) (hX : X = A ∨ X = B ∨ X = C ∨ X = D) : bd 1048576 (bif !oin_0 A 1048576 then 0 else bif !oin_0 B 1048576 then 0 else bif !oin_0 C 1048576 then 0 else bif !oin_0 D 1048576 then 0 else X) := by
  have z : bd 1048576 0 := by decide
  cases hA : oin_0 A 1048576
  · exact z
  cases hB : oin_0 B 1048576
  · exact z
  cases hC : oin_0 C 1048576
  · exact z
  cases hD : oin_0 D 1048576
  · exact z
  have q : ∀ {x}, oin_0 x 1048576 = true → bd 1048576 x := fun h => (oin_iff (by omega) (by omega)).1 h
  rcases hX with rfl | rfl | rfl | rfl
  · exact q hA
  · exact q hB
  · exact q hC
  · exact q hD
theorem oends_bd (e0 e1 e2 e3 e4 e5 e6 r : Int) : bd 1048576 (oends_0 e0 e1 e2 e3 e4 e5 e6 r) ∧ bd 1048576 (oends_1 e0 e1 e2 e3 e4 e5 e6 r) ∧ bd 1048576 (oends_2 e0 e1 e2 e3 e4 e5 e6 r) ∧ bd 1048576 (oends_3 e0 e1 e2 e3 e4 e5 e6 r) := by
  have z : bd 1048576 0 := by decide
  have key : ∀ (p q s : Bool) (x : Int), bd 1048576 x → bd 1048576 (bif p then bif q then 0 else bif s then 0 else x else x) := fun p q s x h => by
    cases p <;> cases q <;> cases s <;> first | exact h | exact z
  refine ⟨key _ _ _ _ ?_, key _ _ _ _ ?_, key _ _ _ _ ?_, key _ _ _ _ ?_⟩
  · exact nest_bd _ _ _ _ _ (.inl rfl)
  · exact nest_bd _ _ _ _ _ (.inr (.inl rfl))
  · exact nest_bd _ _ _ _ _ (.inr (.inr (.inl rfl)))
  · exact nest_bd _ _ _ _ _ (.inr (.inr (.inr rfl)))
noncomputable def trim_tpl : Tpl := ⟨[.agg [.int .i64, .int .i64, .int .i64, .int .i64, .int .i64, .int .i64, .int .i64, .bool], .agg [.int .i64, .int .i64, .int .i64, .int .i64, .int .i64, .int .i64, .int .i64, .bool], .one (.int .i64)], [], 0⟩
noncomputable def trim_s0 (e0 : Int) (e1 : Int) (e2 : Int) (e3 : Int) (e4 : Int) (e5 : Int) (e6 : Int) (e7 : Bool) (f0 : Int) (f1 : Int) (f2 : Int) (f3 : Int) (f4 : Int) (f5 : Int) (f6 : Int) (f7 : Bool) (r : Int) : Int :=
  bif f6 == 0 then straight_0 (oends_0 f0 f1 f2 f3 f4 f5 f6 r) (oends_1 f0 f1 f2 f3 f4 f5 f6 r) (oends_2 f0 f1 f2 f3 f4 f5 f6 r) (oends_3 f0 f1 f2 f3 f4 f5 f6 r) e0 e1 e2 e3 e4 e5 e6 e7 r
  else curved_0 f0 f1 f2 f3 f4 f5 f6 f7 (oends_0 f0 f1 f2 f3 f4 f5 f6 r) (oends_1 f0 f1 f2 f3 f4 f5 f6 r) (oends_2 f0 f1 f2 f3 f4 f5 f6 r) (oends_3 f0 f1 f2 f3 f4 f5 f6 r) r e0 e1 e2 e3 e4 e5 e6 e7 r
noncomputable def trim_s1 (e0 : Int) (e1 : Int) (e2 : Int) (e3 : Int) (e4 : Int) (e5 : Int) (e6 : Int) (e7 : Bool) (f0 : Int) (f1 : Int) (f2 : Int) (f3 : Int) (f4 : Int) (f5 : Int) (f6 : Int) (f7 : Bool) (r : Int) : Int :=
  bif f6 == 0 then straight_1 (oends_0 f0 f1 f2 f3 f4 f5 f6 r) (oends_1 f0 f1 f2 f3 f4 f5 f6 r) (oends_2 f0 f1 f2 f3 f4 f5 f6 r) (oends_3 f0 f1 f2 f3 f4 f5 f6 r) e0 e1 e2 e3 e4 e5 e6 e7 r
  else curved_1 f0 f1 f2 f3 f4 f5 f6 f7 (oends_0 f0 f1 f2 f3 f4 f5 f6 r) (oends_1 f0 f1 f2 f3 f4 f5 f6 r) (oends_2 f0 f1 f2 f3 f4 f5 f6 r) (oends_3 f0 f1 f2 f3 f4 f5 f6 r) r e0 e1 e2 e3 e4 e5 e6 e7 r
noncomputable def trim_0 (e0 : Int) (e1 : Int) (e2 : Int) (e3 : Int) (e4 : Int) (e5 : Int) (e6 : Int) (e7 : Bool) (f0 : Int) (f1 : Int) (f2 : Int) (f3 : Int) (f4 : Int) (f5 : Int) (f6 : Int) (f7 : Bool) (r : Int) : Int :=
  bif oends_4 e0 e1 e2 e3 e4 e5 e6 r != 0 then 0
  else
    bif oends_4 f0 f1 f2 f3 f4 f5 f6 r != 0 then 0
    else
      bif !oclear_0 e0 e1 e2 e3 e4 e5 e6 (oends_2 f0 f1 f2 f3 f4 f5 f6 r) (oends_3 f0 f1 f2 f3 f4 f5 f6 r) r then 0
      else
        bif !oin_0 (trim_s0 e0 e1 e2 e3 e4 e5 e6 e7 f0 f1 f2 f3 f4 f5 f6 f7 r) 1048576 || !oin_0 (trim_s1 e0 e1 e2 e3 e4 e5 e6 e7 f0 f1 f2 f3 f4 f5 f6 f7 r) 1048576 then 0
        else
          bif
              !ahead_0 e0 e1 e2 e3 e4 e5 e6 e7 (trim_s0 e0 e1 e2 e3 e4 e5 e6 e7 f0 f1 f2 f3 f4 f5 f6 f7 r) (trim_s1 e0 e1 e2 e3 e4 e5 e6 e7 f0 f1 f2 f3 f4 f5 f6 f7 r) (oends_0 e0 e1 e2 e3 e4 e5 e6 r)
                  (oends_1 e0 e1 e2 e3 e4 e5 e6 r) then
            0
          else trim_s0 e0 e1 e2 e3 e4 e5 e6 e7 f0 f1 f2 f3 f4 f5 f6 f7 r
noncomputable def trim_1 (e0 : Int) (e1 : Int) (e2 : Int) (e3 : Int) (e4 : Int) (e5 : Int) (e6 : Int) (e7 : Bool) (f0 : Int) (f1 : Int) (f2 : Int) (f3 : Int) (f4 : Int) (f5 : Int) (f6 : Int) (f7 : Bool) (r : Int) : Int :=
  bif oends_4 e0 e1 e2 e3 e4 e5 e6 r != 0 then 0
  else
    bif oends_4 f0 f1 f2 f3 f4 f5 f6 r != 0 then 0
    else
      bif !oclear_0 e0 e1 e2 e3 e4 e5 e6 (oends_2 f0 f1 f2 f3 f4 f5 f6 r) (oends_3 f0 f1 f2 f3 f4 f5 f6 r) r then 0
      else
        bif !oin_0 (trim_s0 e0 e1 e2 e3 e4 e5 e6 e7 f0 f1 f2 f3 f4 f5 f6 f7 r) 1048576 || !oin_0 (trim_s1 e0 e1 e2 e3 e4 e5 e6 e7 f0 f1 f2 f3 f4 f5 f6 f7 r) 1048576 then 0
        else
          bif
              !ahead_0 e0 e1 e2 e3 e4 e5 e6 e7 (trim_s0 e0 e1 e2 e3 e4 e5 e6 e7 f0 f1 f2 f3 f4 f5 f6 f7 r) (trim_s1 e0 e1 e2 e3 e4 e5 e6 e7 f0 f1 f2 f3 f4 f5 f6 f7 r) (oends_0 e0 e1 e2 e3 e4 e5 e6 r)
                  (oends_1 e0 e1 e2 e3 e4 e5 e6 r) then
            0
          else trim_s1 e0 e1 e2 e3 e4 e5 e6 e7 f0 f1 f2 f3 f4 f5 f6 f7 r
noncomputable def trim_2 (e0 : Int) (e1 : Int) (e2 : Int) (e3 : Int) (e4 : Int) (e5 : Int) (e6 : Int) (e7 : Bool) (f0 : Int) (f1 : Int) (f2 : Int) (f3 : Int) (f4 : Int) (f5 : Int) (f6 : Int) (f7 : Bool) (r : Int) : Int :=
  bif oends_4 e0 e1 e2 e3 e4 e5 e6 r != 0 then oends_4 e0 e1 e2 e3 e4 e5 e6 r
  else
    bif oends_4 f0 f1 f2 f3 f4 f5 f6 r != 0 then oends_4 f0 f1 f2 f3 f4 f5 f6 r
    else
      bif !oclear_0 e0 e1 e2 e3 e4 e5 e6 (oends_2 f0 f1 f2 f3 f4 f5 f6 r) (oends_3 f0 f1 f2 f3 f4 f5 f6 r) r then 16
      else
        bif !oin_0 (trim_s0 e0 e1 e2 e3 e4 e5 e6 e7 f0 f1 f2 f3 f4 f5 f6 f7 r) 1048576 || !oin_0 (trim_s1 e0 e1 e2 e3 e4 e5 e6 e7 f0 f1 f2 f3 f4 f5 f6 f7 r) 1048576 then 3
        else
          bif
              !ahead_0 e0 e1 e2 e3 e4 e5 e6 e7 (trim_s0 e0 e1 e2 e3 e4 e5 e6 e7 f0 f1 f2 f3 f4 f5 f6 f7 r) (trim_s1 e0 e1 e2 e3 e4 e5 e6 e7 f0 f1 f2 f3 f4 f5 f6 f7 r) (oends_0 e0 e1 e2 e3 e4 e5 e6 r)
                  (oends_1 e0 e1 e2 e3 e4 e5 e6 r) then
            16
          else 0
noncomputable def trim_needs (e0 : Int) (e1 : Int) (e2 : Int) (e3 : Int) (e4 : Int) (e5 : Int) (e6 : Int) (f0 : Int) (f1 : Int) (f2 : Int) (f3 : Int) (f4 : Int) (f5 : Int) (f6 : Int) (r : Int) : List Prop :=
  [(oends_4 e0 e1 e2 e3 e4 e5 e6 r != 0) = false →
      (oends_4 f0 f1 f2 f3 f4 f5 f6 r != 0) = false →
        (!oclear_0 e0 e1 e2 e3 e4 e5 e6 (oends_2 f0 f1 f2 f3 f4 f5 f6 r) (oends_3 f0 f1 f2 f3 f4 f5 f6 r) r) = false →
          (f6 == 0) = true →
            (-1048576 ≤ oends_0 f0 f1 f2 f3 f4 f5 f6 r ∧ oends_0 f0 f1 f2 f3 f4 f5 f6 r ≤ 1048576) ∧
              (-1048576 ≤ oends_1 f0 f1 f2 f3 f4 f5 f6 r ∧ oends_1 f0 f1 f2 f3 f4 f5 f6 r ≤ 1048576) ∧
                (-1048576 ≤ oends_2 f0 f1 f2 f3 f4 f5 f6 r ∧ oends_2 f0 f1 f2 f3 f4 f5 f6 r ≤ 1048576) ∧ -1048576 ≤ oends_3 f0 f1 f2 f3 f4 f5 f6 r ∧ oends_3 f0 f1 f2 f3 f4 f5 f6 r ≤ 1048576]
theorem trim_need {e0 : Int} {e1 : Int} {e2 : Int} {e3 : Int} {e4 : Int} {e5 : Int} {e6 : Int} {f0 : Int} {f1 : Int} {f2 : Int} {f3 : Int} {f4 : Int} {f5 : Int} {f6 : Int} {r : Int} : ∀ q ∈ (trim_needs e0 e1 e2 e3 e4 e5 e6 f0 f1 f2 f3 f4 f5 f6 r), q := by
  unfold trim_needs
  simp only [List.forall_mem_cons, List.not_mem_nil, false_implies, implies_true, and_true]
  intro _ _ _ _
  exact oends_bd _ _ _ _ _ _ _ _
set_option maxRecDepth 1000000 in
theorem trim_runs (e0 e1 e2 e3 e4 e5 e6 : Int) (e7 : Bool) (f0 f1 f2 f3 f4 f5 f6 : Int) (f7 : Bool) (r : Int) (hNeeds : ∀ pN ∈ (trim_needs e0 e1 e2 e3 e4 e5 e6 f0 f1 f2 f3 f4 f5 f6 r), pN) : Runs (runF (sums K_curved) L_cr 67) (trim_tpl.args [.i e0, .i e1, .i e2, .i e3, .i e4, .i e5, .i e6, .b e7, .i f0, .i f1, .i f2, .i f3, .i f4, .i f5, .i f6, .b f7, .i r]) (trim_tpl.memo [.i e0, .i e1, .i e2, .i e3, .i e4, .i e5, .i e6, .b e7, .i f0, .i f1, .i f2, .i f3, .i f4, .i f5, .i f6, .b f7, .i r] []) trim_tpl.n (SV.tup
    [(true, [SC.int IntKind.i64 (SI.v (trim_0 e0 e1 e2 e3 e4 e5 e6 e7 f0 f1 f2 f3 f4 f5 f6 f7 r)), SC.int IntKind.i64 (SI.v (trim_1 e0 e1 e2 e3 e4 e5 e6 e7 f0 f1 f2 f3 f4 f5 f6 f7 r))]),
      (false, [SC.int IntKind.i64 (SI.v (trim_2 e0 e1 e2 e3 e4 e5 e6 e7 f0 f1 f2 f3 f4 f5 f6 f7 r))])])
    ([]) :=
  Runs.of1 (ps := (trim_needs e0 e1 e2 e3 e4 e5 e6 f0 f1 f2 f3 f4 f5 f6 r)) (by kernel_rfl) hNeeds
noncomputable def trim_out : List Pm → Lss → Option CRes
  | [.i e0, .i e1, .i e2, .i e3, .i e4, .i e5, .i e6, .b e7, .i f0, .i f1, .i f2, .i f3, .i f4, .i f5, .i f6, .b f7, .i r], [] => some ⟨SV.tup
    [(true, [SC.int IntKind.i64 (SI.v (trim_0 e0 e1 e2 e3 e4 e5 e6 e7 f0 f1 f2 f3 f4 f5 f6 f7 r)), SC.int IntKind.i64 (SI.v (trim_1 e0 e1 e2 e3 e4 e5 e6 e7 f0 f1 f2 f3 f4 f5 f6 f7 r))]),
      (false, [SC.int IntKind.i64 (SI.v (trim_2 e0 e1 e2 e3 e4 e5 e6 e7 f0 f1 f2 f3 f4 f5 f6 f7 r))])],
    [],
    [], [], 25762⟩
  | _, _ => none
theorem trim_ok : FOk Try.prog 67 (tplS trim_tpl trim_out) := by
  refine tplS_ok (runF_ok known_curved 67) fun ps ls r hr hn _ => ?_
  unfold trim_out at hr
  split at hr
  · cases hr; exact ⟨_, trim_runs _ _ _ _ _ _ _ _ _ _ _ _ _ _ _ _ _ (fun p hp => trim_need p hp), fun _ => rfl⟩
  · cases hr
noncomputable def K_trim : List (Nat × Summ) := (67, tplS trim_tpl trim_out) :: K_curved
theorem known_trim : Known Try.prog (sums K_trim) L_cr := known_cons known_curved trim_ok
noncomputable def acheck_tpl : Tpl := ⟨[.agg [.int .i64, .int .i64, .int .i64, .int .i64, .int .i64, .int .i64, .int .i64, .int .i64, .int .i64, .int .i64, .int .i64, .int .i64, .int .i64, .bool, .int .i64, .bool, .int .i64, .int .i64, .int .i64, .int .i64, .int .i64, .bool]], [], 0⟩
noncomputable def acheck_0 (k : Int) (f0 : Int) (f1 : Int) (f2 : Int) (t0 : Int) (t1 : Int) (t2 : Int) (p : Int) (c0 : Int) (c1 : Int) (c2 : Int) (d : Int) (fu : Bool) : Int :=
  bif k != 3 || !flat_3 p || !vwithin_0 f0 f1 f2 || !vwithin_0 t0 t1 t2 || !vwithin_0 c0 c1 c2 || d != 1 && d != -1 || flat_2 p f0 f1 f2 != flat_2 p c0 c1 c2 then 1
  else
    bif
        decide (vinner_0 (aspokes_0 f0 f1 f2 p c0 c1 c2) (aspokes_1 f0 f1 f2 p c0 c1 c2) (aspokes_0 f0 f1 f2 p c0 c1 c2) (aspokes_1 f0 f1 f2 p c0 c1 c2) < 64) ||
                decide (vinner_0 (aspokes_0 t0 t1 t2 p c0 c1 c2) (aspokes_1 t0 t1 t2 p c0 c1 c2) (aspokes_0 t0 t1 t2 p c0 c1 c2) (aspokes_1 t0 t1 t2 p c0 c1 c2) < 64) ||
              !similar_0 (vinner_0 (aspokes_0 f0 f1 f2 p c0 c1 c2) (aspokes_1 f0 f1 f2 p c0 c1 c2) (aspokes_0 f0 f1 f2 p c0 c1 c2) (aspokes_1 f0 f1 f2 p c0 c1 c2))
                  (vinner_0 (aspokes_0 t0 t1 t2 p c0 c1 c2) (aspokes_1 t0 t1 t2 p c0 c1 c2) (aspokes_0 t0 t1 t2 p c0 c1 c2) (aspokes_1 t0 t1 t2 p c0 c1 c2)) ||
            fu && !(aspokes_0 f0 f1 f2 p c0 c1 c2 == aspokes_0 t0 t1 t2 p c0 c1 c2 && aspokes_1 f0 f1 f2 p c0 c1 c2 == aspokes_1 t0 t1 t2 p c0 c1 c2) ||
          !fu && aligned_0 (aspokes_0 f0 f1 f2 p c0 c1 c2) (aspokes_1 f0 f1 f2 p c0 c1 c2) (aspokes_0 t0 t1 t2 p c0 c1 c2) (aspokes_1 t0 t1 t2 p c0 c1 c2) then
      12
    else 0
set_option maxRecDepth 1000000 in
theorem acheck_runs (k bl f0 f1 f2 t0 t1 t2 p c0 c1 c2 d : Int) (fu : Bool) (fe : Int) (pr : Bool) (si ra be n sp : Int) (on : Bool) : Runs (runF (sums K_trim) L_cr 54) (acheck_tpl.args [.i k, .i bl, .i f0, .i f1, .i f2, .i t0, .i t1, .i t2, .i p, .i c0, .i c1, .i c2, .i d, .b fu, .i fe, .b pr, .i si, .i ra, .i be, .i n, .i sp, .b on]) (acheck_tpl.memo [.i k, .i bl, .i f0, .i f1, .i f2, .i t0, .i t1, .i t2, .i p, .i c0, .i c1, .i c2, .i d, .b fu, .i fe, .b pr, .i si, .i ra, .i be, .i n, .i sp, .b on] []) acheck_tpl.n (SV.one (SC.int IntKind.i64 (SI.v (acheck_0 k f0 f1 f2 t0 t1 t2 p c0 c1 c2 d fu))))
    ([]) :=
  Runs.of1 (ps := []) (by kernel_rfl) (by simp)
noncomputable def acheck_out : List Pm → Lss → Option CRes
  | [.i k, .i bl, .i f0, .i f1, .i f2, .i t0, .i t1, .i t2, .i p, .i c0, .i c1, .i c2, .i d, .b fu, .i fe, .b pr, .i si, .i ra, .i be, .i n, .i sp, .b on], [] => some ⟨SV.one (SC.int IntKind.i64 (SI.v (acheck_0 k f0 f1 f2 t0 t1 t2 p c0 c1 c2 d fu))),
    [],
    [], [], 1152⟩
  | _, _ => none
theorem acheck_ok : FOk Try.prog 54 (tplS acheck_tpl acheck_out) := by
  refine tplS_ok (runF_ok known_trim 54) fun ps ls r hr hn _ => ?_
  unfold acheck_out at hr
  split at hr
  · cases hr; exact ⟨_, acheck_runs _ _ _ _ _ _ _ _ _ _ _ _ _ _ _ _ _ _ _ _ _ _, fun _ => rfl⟩
  · cases hr
noncomputable def K_acheck : List (Nat × Summ) := (54, tplS acheck_tpl acheck_out) :: K_trim
theorem known_acheck : Known Try.prog (sums K_acheck) L_cr := known_cons known_trim acheck_ok
end Go.Proofs.Ytmbfbhimdkjkoaa
namespace Go.Proofs.Ytmbfbhimdkjkoaa
open Go.SX Go.RowKit
noncomputable def cmotion_tpl : Tpl := ⟨[.one (.int .i64)], [], 0⟩
noncomputable def cmotion_0 (k : Int) : Bool :=
  decide (k ≥ 1) && decide (k ≤ 6)
set_option maxRecDepth 1000000 in
theorem cmotion_runs (k : Int) : Runs (runF (sums K_acheck) L_cr 35) (cmotion_tpl.args [.i k]) (cmotion_tpl.memo [.i k] []) cmotion_tpl.n (SV.one (SC.bool (SB.v (cmotion_0 k))))
    ([]) :=
  Runs.of1 (ps := []) (by kernel_rfl) (by simp)
noncomputable def cmotion_out : List Pm → Lss → Option CRes
  | [.i k], [] => some ⟨SV.one (SC.bool (SB.v (cmotion_0 k))),
    [],
    [], [], 8⟩
  | _, _ => none
theorem cmotion_ok : FOk Try.prog 35 (tplS cmotion_tpl cmotion_out) := by
  refine tplS_ok (runF_ok known_acheck 35) fun ps ls r hr hn _ => ?_
  unfold cmotion_out at hr
  split at hr
  · cases hr; exact ⟨_, cmotion_runs _, fun _ => rfl⟩
  · cases hr
noncomputable def K_cmotion : List (Nat × Summ) := (35, tplS cmotion_tpl cmotion_out) :: K_acheck
theorem known_cmotion : Known Try.prog (sums K_cmotion) L_cr := known_cons known_acheck cmotion_ok
noncomputable def cvalid_tpl : Tpl := ⟨[.agg [.int .i64, .int .i64, .int .i64, .int .i64, .int .i64, .int .i64, .int .i64, .int .i64, .int .i64, .int .i64, .int .i64, .int .i64, .int .i64, .bool, .int .i64, .bool, .int .i64, .int .i64, .int .i64, .int .i64, .int .i64, .bool]], [], 0⟩
noncomputable def cvalid_sp : List GK := [.v itemB]
noncomputable def cvalid_s0 (x : List GC) : Bool :=
  bif xi x 0 == 1 then xi x 14 == 0 && !xb x 15 && xi x 18 == 0
  else
    bif decide (xi x 14 < 1) || decide (xi x 14 > 60000000) then false
    else
      bif bif xi x 0 == 2 then xi x 0 == 2 else xi x 0 == 3 then decide (xi x 18 ≥ 0) && decide (xi x 18 ≤ 1000)
      else bif bif xi x 0 == 5 then xi x 0 == 5 else xi x 0 == 6 then xi x 18 == 0 && xb x 15 else xi x 18 == 0
noncomputable def cvalid_s1 (x : List GC) : Bool :=
  bif xi x 0 == 6 then bif xi x 19 != 3 && xi x 19 != 4 then false else cvalid_s0 x else bif xi x 19 != 0 then false else cvalid_s0 x
noncomputable def cvalid_s2 (x : List GC) : Bool :=
  decide (xi x 19 ≥ 0)
noncomputable def cvalid_0 (x : List GC) : Bool :=
  bif decide (xi x 1 < 0) || decide (xi x 1 ≥ 2000) then false
  else
    bif cmotion_0 (xi x 0) then
      bif
          !vwithin_0 (xi x 2) (xi x 3) (xi x 4) || !vwithin_0 (xi x 5) (xi x 6) (xi x 7) || xi x 20 != 0 || xb x 21 ||
            !bif xi x 16 == 0 then xi x 17 == 0 && (xi x 8 == 0 || xi x 0 == 3)
              else (xi x 0 == 1 || xi x 0 == 2 || xi x 0 == 3) && flat_3 (xi x 8) && (xi x 16 == 1 || xi x 16 == -1) && decide (xi x 17 ≥ 0) && decide (xi x 17 ≤ 32768) then
        false
      else
        bif xi x 0 == 3 then bif acheck_0 (xi x 0) (xi x 2) (xi x 3) (xi x 4) (xi x 5) (xi x 6) (xi x 7) (xi x 8) (xi x 9) (xi x 10) (xi x 11) (xi x 12) (xb x 13) != 0 then false else cvalid_s1 x
        else bif !(xi x 9 == 0 && (xi x 10 == 0 && xi x 11 == 0)) || xi x 12 != 0 || xb x 13 then false else cvalid_s1 x
    else
      bif
          !(xi x 0 == xi x 0 &&
              (xi x 1 == xi x 1 &&
                (xi x 2 == 0 &&
                  (xi x 3 == 0 &&
                    (xi x 4 == 0 &&
                      (xi x 5 == 0 &&
                        (xi x 6 == 0 &&
                          (xi x 7 == 0 &&
                            (xi x 8 == 0 &&
                              (xi x 9 == 0 &&
                                (xi x 10 == 0 &&
                                  (xi x 11 == 0 &&
                                    (xi x 12 == 0 &&
                                      (xb x 13 == false &&
                                        (xi x 14 == 0 &&
                                          (xb x 15 == false &&
                                            (xi x 16 == 0 && (xi x 17 == 0 && (xi x 18 == 0 && (xi x 19 == xi x 19 && (xi x 20 == xi x 20 && xb x 21 == xb x 21))))))))))))))))))))) then
        false
      else
        bif xi x 0 == 8 then !xb x 21 && decide (xi x 19 ≥ 3) && decide (xi x 19 ≤ 5) && decide (xi x 20 ≥ 0) && decide (xi x 20 ≤ 30000) && (xi x 19 != 5 || xi x 20 == 0)
        else
          bif xi x 0 == 9 then xi x 20 == 0 && (xi x 19 == 7 || xi x 19 == 8)
          else
            bif xi x 0 == 10 then xi x 20 == 0 && cvalid_s2 x && decide (xi x 19 < 16)
            else
              bif xi x 0 == 7 then !xb x 21 && xi x 20 == 0 && cvalid_s2 x && decide (xi x 19 ≤ 60000)
              else
                bif xi x 0 == 11 then !xb x 21 && xi x 20 == 0 && cvalid_s2 x && decide (xi x 19 ≤ 32)
                else (bif xi x 0 == 12 then xi x 0 == 12 else bif xi x 0 == 13 then xi x 0 == 13 else xi x 0 == 14) && (!xb x 21 && xi x 20 == 0 && xi x 19 == 0)
set_option maxRecDepth 1000000 in
theorem cvalid_runs (x : List GC) : Runs (runF (sums K_cmotion) L_cr 36) (cvalid_tpl.args (spread cvalid_sp [.v x])) (cvalid_tpl.memo (spread cvalid_sp [.v x]) []) cvalid_tpl.n (SV.one (SC.bool (SB.v (cvalid_0 x))))
    ([]) :=
  Runs.of1 (ps := []) (by kernel_rfl) (by simp)
noncomputable def cvalid_out : List Gm → Lss → Option CRes
  | [.v x], [] => some ⟨SV.one (SC.bool (SB.v (cvalid_0 x))),
    [],
    [], [], 1925⟩
  | _, _ => none
theorem cvalid_ok : FOk Try.prog 36 (tplG cvalid_sp cvalid_tpl cvalid_out) := by
  refine tplG_ok (runF_ok known_cmotion 36) fun ps ls r hr hn _ => ?_
  unfold cvalid_out at hr
  split at hr
  · cases hr; exact ⟨_, cvalid_runs _, fun _ => rfl⟩
  · cases hr
noncomputable def K_cvalid : List (Nat × Summ) := (36, tplG cvalid_sp cvalid_tpl cvalid_out) :: K_cmotion
theorem known_cvalid : Known Try.prog (sums K_cvalid) L_cr := known_cons known_cmotion cvalid_ok
noncomputable def leads_tpl : Tpl := ⟨[.agg [.int .i64, .int .i64, .int .i64, .int .i64, .int .i64, .int .i64, .int .i64, .int .i64, .int .i64, .int .i64, .int .i64, .int .i64, .int .i64, .bool, .int .i64, .bool, .int .i64, .int .i64, .int .i64, .int .i64, .int .i64, .bool], .one (.int .i64), .one (.int .i64)], [], 0⟩
noncomputable def leads_sp : List GK := [.v itemB, .i, .i]
noncomputable def leads_s0 (x : List GC) (pl : Int) : Int :=
  IntKind.i64.wrap (flat_0 pl (xi x 5) (xi x 6) (xi x 7) - flat_0 pl (xi x 2) (xi x 3) (xi x 4))
noncomputable def leads_s1 (x : List GC) (pl : Int) : Int :=
  IntKind.i64.wrap (flat_1 pl (xi x 5) (xi x 6) (xi x 7) - flat_1 pl (xi x 2) (xi x 3) (xi x 4))
noncomputable def leads_0 (x : List GC) (pl : Int) (ra : Int) : Bool :=
  xi x 0 == 2 && flat_2 pl (xi x 2) (xi x 3) (xi x 4) == flat_2 pl (xi x 5) (xi x 6) (xi x 7) && decide (vinner_0 (leads_s0 x pl) (leads_s1 x pl) (leads_s0 x pl) (leads_s1 x pl) > 0) &&
    decide (vinner_0 (leads_s0 x pl) (leads_s1 x pl) (leads_s0 x pl) (leads_s1 x pl) ≥ IntKind.i64.wrap (ra * ra))
set_option maxRecDepth 1000000 in
theorem leads_runs (x : List GC) (pl ra : Int) : Runs (runF (sums K_cvalid) L_cr 41) (leads_tpl.args (spread leads_sp [.v x, .i pl, .i ra])) (leads_tpl.memo (spread leads_sp [.v x, .i pl, .i ra]) []) leads_tpl.n (SV.one (SC.bool (SB.v (leads_0 x pl ra))))
    ([]) :=
  Runs.of1 (ps := []) (by kernel_rfl) (by simp)
noncomputable def leads_out : List Gm → Lss → Option CRes
  | [.v x, .i pl, .i ra], [] => some ⟨SV.one (SC.bool (SB.v (leads_0 x pl ra))),
    [],
    [], [], 254⟩
  | _, _ => none
theorem leads_ok : FOk Try.prog 41 (tplG leads_sp leads_tpl leads_out) := by
  refine tplG_ok (runF_ok known_cvalid 41) fun ps ls r hr hn _ => ?_
  unfold leads_out at hr
  split at hr
  · cases hr; exact ⟨_, leads_runs _ _ _, fun _ => rfl⟩
  · cases hr
noncomputable def K_leads : List (Nat × Summ) := (41, tplG leads_sp leads_tpl leads_out) :: K_cvalid
theorem known_leads : Known Try.prog (sums K_leads) L_cr := known_cons known_cvalid leads_ok
noncomputable def line_tpl : Tpl := ⟨[.one (.ptr 0 0), .agg [.int .i64, .int .i64, .int .i64, .int .i64, .int .i64, .int .i64, .int .i64, .int .i64, .int .i64, .int .i64, .int .i64, .int .i64, .int .i64, .bool, .int .i64, .bool, .int .i64, .int .i64, .int .i64, .int .i64, .int .i64, .bool], .agg [.int .i64, .int .i64], .one (.int .i64), .one (.int .i64), .one (.bool)], [(0, .blk 66 [(3, .int .i64), (4, .int .i64), (5, .int .i64), (6, .int .i64), (7, .int .i64), (8, .int .i64), (9, .int .i64), (10, .int .i64), (11, .int .i64), (12, .int .i64), (13, .int .i64), (14, .int .i64), (15, .int .i64), (16, .bool), (17, .int .i64), (18, .bool), (19, .int .i64), (20, .int .i64), (21, .int .i64), (22, .int .i64), (23, .int .i64), (24, .bool), (25, .int .i64), (26, .int .i64), (27, .int .i64), (28, .int .i64), (29, .int .i64), (30, .int .i64), (31, .int .i64), (32, .int .i64), (33, .int .i64), (34, .int .i64), (35, .int .i64), (36, .int .i64), (37, .int .i64), (38, .bool), (39, .int .i64), (40, .bool), (41, .int .i64), (42, .int .i64), (43, .int .i64), (44, .int .i64), (45, .int .i64), (46, .bool), (47, .int .i64), (48, .int .i64), (49, .bool), (50, .wh 1), (51, .bool), (52, .bool), (53, .bool), (54, .bool), (55, .int .i64), (56, .int .i64), (57, .int .i64), (58, .wh 2), (59, .int .i64)]), (1, .row false 32 22 60 [.int .i64, .int .i64, .int .i64, .int .i64, .int .i64, .int .i64, .int .i64, .int .i64, .int .i64, .int .i64, .int .i64, .int .i64, .int .i64, .bool, .int .i64, .bool, .int .i64, .int .i64, .int .i64, .int .i64, .int .i64, .bool]), (2, .row false 32 22 61 [.int .i64, .int .i64, .int .i64, .int .i64, .int .i64, .int .i64, .int .i64, .int .i64, .int .i64, .int .i64, .int .i64, .int .i64, .int .i64, .bool, .int .i64, .bool, .int .i64, .int .i64, .int .i64, .int .i64, .int .i64, .bool])], 62⟩
noncomputable def line_sp : List GK := [.v itemB, .i, .i, .i, .i, .b, .v itemB, .v itemB, .i, .i, .b, .b, .b, .b, .b, .i, .i, .i, .i]
noncomputable def line_44 (u : Int) (w : Int) (lo : Int) (hi : Int) (al : Bool) (l : List GC) (a0 : Int) (a1 : Int) : Int :=
  bif al || !(solid_0 (xi l 8) a0 a1 lo == solid_0 (xi l 8) u w hi && (solid_1 (xi l 8) a0 a1 lo == solid_1 (xi l 8) u w hi && solid_2 (xi l 8) a0 a1 lo == solid_2 (xi l 8) u w hi)) then u else u
noncomputable def line_45 (u : Int) (w : Int) (lo : Int) (hi : Int) (al : Bool) (l : List GC) (a0 : Int) (a1 : Int) : Int :=
  bif al || !(solid_0 (xi l 8) a0 a1 lo == solid_0 (xi l 8) u w hi && (solid_1 (xi l 8) a0 a1 lo == solid_1 (xi l 8) u w hi && solid_2 (xi l 8) a0 a1 lo == solid_2 (xi l 8) u w hi)) then w else w
noncomputable def line_46 (x : List GC) (u : Int) (w : Int) (lo : Int) (hi : Int) (al : Bool) (l : List GC) (a0 : Int) (a1 : Int) (O : List (List Int)) : List (List Int) :=
  bif al || !(solid_0 (xi l 8) a0 a1 lo == solid_0 (xi l 8) u w hi && (solid_1 (xi l 8) a0 a1 lo == solid_1 (xi l 8) u w hi && solid_2 (xi l 8) a0 a1 lo == solid_2 (xi l 8) u w hi)) then
    O ++
      [[xi x 0, xi x 1, solid_0 (xi l 8) a0 a1 lo, solid_1 (xi l 8) a0 a1 lo, solid_2 (xi l 8) a0 a1 lo, solid_0 (xi l 8) u w hi, solid_1 (xi l 8) u w hi, solid_2 (xi l 8) u w hi,
          bif xi x 0 != 3 then 0 else xi x 8, xi x 9, xi x 10, xi x 11, xi x 12, bif xb x 13 then 1 else 0, xi x 14, bif xb x 15 then 1 else 0, 0, 0, xi x 18, xi x 19, xi x 20,
          bif xb x 21 then 1 else 0]]
  else O
noncomputable def line_needs (u : Int) (w : Int) (lo : Int) (hi : Int) (al : Bool) (l : List GC) (a0 : Int) (a1 : Int) (O : List (List Int)) : List Prop :=
  [(al || !(solid_0 (xi l 8) a0 a1 lo == solid_0 (xi l 8) u w hi && (solid_1 (xi l 8) a0 a1 lo == solid_1 (xi l 8) u w hi && solid_2 (xi l 8) a0 a1 lo == solid_2 (xi l 8) u w hi))) = true →
      (O.length + 1) * 176 ≤ 140737488355328 ∧ O.length + 1 ≤ 9223372036854775807]
theorem line_weak {u : Int} {w : Int} {lo : Int} {hi : Int} {al : Bool} {l : List GC} {a0 : Int} {a1 : Int} {O : List (List Int)} (hW : ∀ q ∈ ([O.length ≤ 1000000] : List Prop), q) : ∀ q ∈ (line_needs u w lo hi al l a0 a1 O), q := by
  simp only [List.mem_cons, List.not_mem_nil, or_false, forall_eq_or_imp, forall_eq] at hW
  unfold line_needs
  simp only [List.forall_mem_cons, List.not_mem_nil, false_implies, implies_true, and_true]
  exact fun _ => ⟨by omega, by omega⟩
set_option maxRecDepth 1000000 in
theorem line_runs (x : List GC) (u w lo hi : Int) (al : Bool) (l y : List GC) (a0 a1 : Int) (tr op cl en mo : Bool) (la0 la1 la2 er : Int) (C O : List (List Int)) (hNeeds : ∀ pN ∈ (line_needs u w lo hi al l a0 a1 O), pN) : Runs (runF (sums K_leads) L_cr 48) (line_tpl.args (spread line_sp [.v x, .i u, .i w, .i lo, .i hi, .b al, .v l, .v y, .i a0, .i a1, .b tr, .b op, .b cl, .b en, .b mo, .i la0, .i la1, .i la2, .i er])) (line_tpl.memo (spread line_sp [.v x, .i u, .i w, .i lo, .i hi, .b al, .v l, .v y, .i a0, .i a1, .b tr, .b op, .b cl, .b en, .b mo, .i la0, .i la1, .i la2, .i er]) [C, O]) line_tpl.n (SV.tup [])
    ([(0,
      Obj.blk 66
        [(3, SC.int IntKind.i64 (SI.v (xi l 0))), (4, SC.int IntKind.i64 (SI.v (xi l 1))), (5, SC.int IntKind.i64 (SI.v (xi l 2))), (6, SC.int IntKind.i64 (SI.v (xi l 3))),
          (7, SC.int IntKind.i64 (SI.v (xi l 4))), (8, SC.int IntKind.i64 (SI.v (xi l 5))), (9, SC.int IntKind.i64 (SI.v (xi l 6))), (10, SC.int IntKind.i64 (SI.v (xi l 7))),
          (11, SC.int IntKind.i64 (SI.v (xi l 8))), (12, SC.int IntKind.i64 (SI.v (xi l 9))), (13, SC.int IntKind.i64 (SI.v (xi l 10))), (14, SC.int IntKind.i64 (SI.v (xi l 11))),
          (15, SC.int IntKind.i64 (SI.v (xi l 12))), (16, SC.bool (SB.v (xb l 13))), (17, SC.int IntKind.i64 (SI.v (xi l 14))), (18, SC.bool (SB.v (xb l 15))), (19, SC.int IntKind.i64 (SI.v (xi l 16))),
          (20, SC.int IntKind.i64 (SI.v (xi l 17))), (21, SC.int IntKind.i64 (SI.v (xi l 18))), (22, SC.int IntKind.i64 (SI.v (xi l 19))), (23, SC.int IntKind.i64 (SI.v (xi l 20))),
          (24, SC.bool (SB.v (xb l 21))), (25, SC.int IntKind.i64 (SI.v (xi y 0))), (26, SC.int IntKind.i64 (SI.v (xi y 1))), (27, SC.int IntKind.i64 (SI.v (xi y 2))),
          (28, SC.int IntKind.i64 (SI.v (xi y 3))), (29, SC.int IntKind.i64 (SI.v (xi y 4))), (30, SC.int IntKind.i64 (SI.v (xi y 5))), (31, SC.int IntKind.i64 (SI.v (xi y 6))),
          (32, SC.int IntKind.i64 (SI.v (xi y 7))), (33, SC.int IntKind.i64 (SI.v (xi y 8))), (34, SC.int IntKind.i64 (SI.v (xi y 9))), (35, SC.int IntKind.i64 (SI.v (xi y 10))),
          (36, SC.int IntKind.i64 (SI.v (xi y 11))), (37, SC.int IntKind.i64 (SI.v (xi y 12))), (38, SC.bool (SB.v (xb y 13))), (39, SC.int IntKind.i64 (SI.v (xi y 14))), (40, SC.bool (SB.v (xb y 15))),
          (41, SC.int IntKind.i64 (SI.v (xi y 16))), (42, SC.int IntKind.i64 (SI.v (xi y 17))), (43, SC.int IntKind.i64 (SI.v (xi y 18))), (44, SC.int IntKind.i64 (SI.v (xi y 19))),
          (45, SC.int IntKind.i64 (SI.v (xi y 20))), (46, SC.bool (SB.v (xb y 21))), (593, SC.int IntKind.i64 (SI.v (line_44 u w lo hi al l a0 a1))),
          (594, SC.int IntKind.i64 (SI.v (line_45 u w lo hi al l a0 a1))), (49, SC.bool (SB.v tr)), (50, SC.wh 1), (51, SC.bool (SB.v op)), (52, SC.bool (SB.v cl)), (53, SC.bool (SB.v en)),
          (54, SC.bool (SB.v mo)), (55, SC.int IntKind.i64 (SI.v la0)), (56, SC.int IntKind.i64 (SI.v la1)), (57, SC.int IntKind.i64 (SI.v la2)), (591, SC.wh 589), (59, SC.int IntKind.i64 (SI.v er))]),
    (589,
      Obj.row false 32 22
        (RowC.lst 592
          [CK.int IntKind.i64, CK.int IntKind.i64, CK.int IntKind.i64, CK.int IntKind.i64, CK.int IntKind.i64, CK.int IntKind.i64, CK.int IntKind.i64, CK.int IntKind.i64, CK.int IntKind.i64,
            CK.int IntKind.i64, CK.int IntKind.i64, CK.int IntKind.i64, CK.int IntKind.i64, CK.bool, CK.int IntKind.i64, CK.bool, CK.int IntKind.i64, CK.int IntKind.i64, CK.int IntKind.i64,
            CK.int IntKind.i64, CK.int IntKind.i64, CK.bool]
          (line_46 x u w lo hi al l a0 a1 O))),
    (1,
      Obj.row false 32 22
        (RowC.lst 60
          [CK.int IntKind.i64, CK.int IntKind.i64, CK.int IntKind.i64, CK.int IntKind.i64, CK.int IntKind.i64, CK.int IntKind.i64, CK.int IntKind.i64, CK.int IntKind.i64, CK.int IntKind.i64,
            CK.int IntKind.i64, CK.int IntKind.i64, CK.int IntKind.i64, CK.int IntKind.i64, CK.bool, CK.int IntKind.i64, CK.bool, CK.int IntKind.i64, CK.int IntKind.i64, CK.int IntKind.i64,
            CK.int IntKind.i64, CK.int IntKind.i64, CK.bool]
          C))]) :=
  Runs.of1 (ps := (line_needs u w lo hi al l a0 a1 O)) (by kernel_rfl) hNeeds
noncomputable def line_out : List Gm → Lss → Option CRes
  | [.v x, .i u, .i w, .i lo, .i hi, .b al, .v l, .v y, .i a0, .i a1, .b tr, .b op, .b cl, .b en, .b mo, .i la0, .i la1, .i la2, .i er], [C, O] => some ⟨SV.tup [],
    [(0,
      Obj.blk 66
        [(3, SC.int IntKind.i64 (SI.v (xi l 0))), (4, SC.int IntKind.i64 (SI.v (xi l 1))), (5, SC.int IntKind.i64 (SI.v (xi l 2))), (6, SC.int IntKind.i64 (SI.v (xi l 3))),
          (7, SC.int IntKind.i64 (SI.v (xi l 4))), (8, SC.int IntKind.i64 (SI.v (xi l 5))), (9, SC.int IntKind.i64 (SI.v (xi l 6))), (10, SC.int IntKind.i64 (SI.v (xi l 7))),
          (11, SC.int IntKind.i64 (SI.v (xi l 8))), (12, SC.int IntKind.i64 (SI.v (xi l 9))), (13, SC.int IntKind.i64 (SI.v (xi l 10))), (14, SC.int IntKind.i64 (SI.v (xi l 11))),
          (15, SC.int IntKind.i64 (SI.v (xi l 12))), (16, SC.bool (SB.v (xb l 13))), (17, SC.int IntKind.i64 (SI.v (xi l 14))), (18, SC.bool (SB.v (xb l 15))), (19, SC.int IntKind.i64 (SI.v (xi l 16))),
          (20, SC.int IntKind.i64 (SI.v (xi l 17))), (21, SC.int IntKind.i64 (SI.v (xi l 18))), (22, SC.int IntKind.i64 (SI.v (xi l 19))), (23, SC.int IntKind.i64 (SI.v (xi l 20))),
          (24, SC.bool (SB.v (xb l 21))), (25, SC.int IntKind.i64 (SI.v (xi y 0))), (26, SC.int IntKind.i64 (SI.v (xi y 1))), (27, SC.int IntKind.i64 (SI.v (xi y 2))),
          (28, SC.int IntKind.i64 (SI.v (xi y 3))), (29, SC.int IntKind.i64 (SI.v (xi y 4))), (30, SC.int IntKind.i64 (SI.v (xi y 5))), (31, SC.int IntKind.i64 (SI.v (xi y 6))),
          (32, SC.int IntKind.i64 (SI.v (xi y 7))), (33, SC.int IntKind.i64 (SI.v (xi y 8))), (34, SC.int IntKind.i64 (SI.v (xi y 9))), (35, SC.int IntKind.i64 (SI.v (xi y 10))),
          (36, SC.int IntKind.i64 (SI.v (xi y 11))), (37, SC.int IntKind.i64 (SI.v (xi y 12))), (38, SC.bool (SB.v (xb y 13))), (39, SC.int IntKind.i64 (SI.v (xi y 14))), (40, SC.bool (SB.v (xb y 15))),
          (41, SC.int IntKind.i64 (SI.v (xi y 16))), (42, SC.int IntKind.i64 (SI.v (xi y 17))), (43, SC.int IntKind.i64 (SI.v (xi y 18))), (44, SC.int IntKind.i64 (SI.v (xi y 19))),
          (45, SC.int IntKind.i64 (SI.v (xi y 20))), (46, SC.bool (SB.v (xb y 21))), (593, SC.int IntKind.i64 (SI.v (u))),
          (594, SC.int IntKind.i64 (SI.v (w))), (49, SC.bool (SB.v tr)), (50, SC.wh 1), (51, SC.bool (SB.v op)), (52, SC.bool (SB.v cl)), (53, SC.bool (SB.v en)),
          (54, SC.bool (SB.v mo)), (55, SC.int IntKind.i64 (SI.v la0)), (56, SC.int IntKind.i64 (SI.v la1)), (57, SC.int IntKind.i64 (SI.v la2)), (591, SC.wh 589), (59, SC.int IntKind.i64 (SI.v er))]),
    (589,
      Obj.row false 32 22
        (RowC.lst 592
          [CK.int IntKind.i64, CK.int IntKind.i64, CK.int IntKind.i64, CK.int IntKind.i64, CK.int IntKind.i64, CK.int IntKind.i64, CK.int IntKind.i64, CK.int IntKind.i64, CK.int IntKind.i64,
            CK.int IntKind.i64, CK.int IntKind.i64, CK.int IntKind.i64, CK.int IntKind.i64, CK.bool, CK.int IntKind.i64, CK.bool, CK.int IntKind.i64, CK.int IntKind.i64, CK.int IntKind.i64,
            CK.int IntKind.i64, CK.int IntKind.i64, CK.bool]
          (line_46 x u w lo hi al l a0 a1 O))),
    (1,
      Obj.row false 32 22
        (RowC.lst 60
          [CK.int IntKind.i64, CK.int IntKind.i64, CK.int IntKind.i64, CK.int IntKind.i64, CK.int IntKind.i64, CK.int IntKind.i64, CK.int IntKind.i64, CK.int IntKind.i64, CK.int IntKind.i64,
            CK.int IntKind.i64, CK.int IntKind.i64, CK.int IntKind.i64, CK.int IntKind.i64, CK.bool, CK.int IntKind.i64, CK.bool, CK.int IntKind.i64, CK.int IntKind.i64, CK.int IntKind.i64,
            CK.int IntKind.i64, CK.int IntKind.i64, CK.bool]
          C))],
    [O.length ≤ 1000000], [], 595⟩
  | _, _ => none
theorem line_turned (x : List GC) (u w lo hi : Int) (al : Bool) (l y : List GC) (a0 a1 : Int) (tr op cl en mo : Bool) (la0 la1 la2 er : Int) (C O : List (List Int)) (hNeeds : ∀ pN ∈ (line_needs u w lo hi al l a0 a1 O), pN) : Runs (runF (sums K_leads) L_cr 48) (line_tpl.args (spread line_sp [.v x, .i u, .i w, .i lo, .i hi, .b al, .v l, .v y, .i a0, .i a1, .b tr, .b op, .b cl, .b en, .b mo, .i la0, .i la1, .i la2, .i er])) (line_tpl.memo (spread line_sp [.v x, .i u, .i w, .i lo, .i hi, .b al, .v l, .v y, .i a0, .i a1, .b tr, .b op, .b cl, .b en, .b mo, .i la0, .i la1, .i la2, .i er]) [C, O]) line_tpl.n (SV.tup [])
    ([(0,
      Obj.blk 66
        [(3, SC.int IntKind.i64 (SI.v (xi l 0))), (4, SC.int IntKind.i64 (SI.v (xi l 1))), (5, SC.int IntKind.i64 (SI.v (xi l 2))), (6, SC.int IntKind.i64 (SI.v (xi l 3))),
          (7, SC.int IntKind.i64 (SI.v (xi l 4))), (8, SC.int IntKind.i64 (SI.v (xi l 5))), (9, SC.int IntKind.i64 (SI.v (xi l 6))), (10, SC.int IntKind.i64 (SI.v (xi l 7))),
          (11, SC.int IntKind.i64 (SI.v (xi l 8))), (12, SC.int IntKind.i64 (SI.v (xi l 9))), (13, SC.int IntKind.i64 (SI.v (xi l 10))), (14, SC.int IntKind.i64 (SI.v (xi l 11))),
          (15, SC.int IntKind.i64 (SI.v (xi l 12))), (16, SC.bool (SB.v (xb l 13))), (17, SC.int IntKind.i64 (SI.v (xi l 14))), (18, SC.bool (SB.v (xb l 15))), (19, SC.int IntKind.i64 (SI.v (xi l 16))),
          (20, SC.int IntKind.i64 (SI.v (xi l 17))), (21, SC.int IntKind.i64 (SI.v (xi l 18))), (22, SC.int IntKind.i64 (SI.v (xi l 19))), (23, SC.int IntKind.i64 (SI.v (xi l 20))),
          (24, SC.bool (SB.v (xb l 21))), (25, SC.int IntKind.i64 (SI.v (xi y 0))), (26, SC.int IntKind.i64 (SI.v (xi y 1))), (27, SC.int IntKind.i64 (SI.v (xi y 2))),
          (28, SC.int IntKind.i64 (SI.v (xi y 3))), (29, SC.int IntKind.i64 (SI.v (xi y 4))), (30, SC.int IntKind.i64 (SI.v (xi y 5))), (31, SC.int IntKind.i64 (SI.v (xi y 6))),
          (32, SC.int IntKind.i64 (SI.v (xi y 7))), (33, SC.int IntKind.i64 (SI.v (xi y 8))), (34, SC.int IntKind.i64 (SI.v (xi y 9))), (35, SC.int IntKind.i64 (SI.v (xi y 10))),
          (36, SC.int IntKind.i64 (SI.v (xi y 11))), (37, SC.int IntKind.i64 (SI.v (xi y 12))), (38, SC.bool (SB.v (xb y 13))), (39, SC.int IntKind.i64 (SI.v (xi y 14))), (40, SC.bool (SB.v (xb y 15))),
          (41, SC.int IntKind.i64 (SI.v (xi y 16))), (42, SC.int IntKind.i64 (SI.v (xi y 17))), (43, SC.int IntKind.i64 (SI.v (xi y 18))), (44, SC.int IntKind.i64 (SI.v (xi y 19))),
          (45, SC.int IntKind.i64 (SI.v (xi y 20))), (46, SC.bool (SB.v (xb y 21))), (593, SC.int IntKind.i64 (SI.v (u))),
          (594, SC.int IntKind.i64 (SI.v (w))), (49, SC.bool (SB.v tr)), (50, SC.wh 1), (51, SC.bool (SB.v op)), (52, SC.bool (SB.v cl)), (53, SC.bool (SB.v en)),
          (54, SC.bool (SB.v mo)), (55, SC.int IntKind.i64 (SI.v la0)), (56, SC.int IntKind.i64 (SI.v la1)), (57, SC.int IntKind.i64 (SI.v la2)), (591, SC.wh 589), (59, SC.int IntKind.i64 (SI.v er))]),
    (589,
      Obj.row false 32 22
        (RowC.lst 592
          [CK.int IntKind.i64, CK.int IntKind.i64, CK.int IntKind.i64, CK.int IntKind.i64, CK.int IntKind.i64, CK.int IntKind.i64, CK.int IntKind.i64, CK.int IntKind.i64, CK.int IntKind.i64,
            CK.int IntKind.i64, CK.int IntKind.i64, CK.int IntKind.i64, CK.int IntKind.i64, CK.bool, CK.int IntKind.i64, CK.bool, CK.int IntKind.i64, CK.int IntKind.i64, CK.int IntKind.i64,
            CK.int IntKind.i64, CK.int IntKind.i64, CK.bool]
          (line_46 x u w lo hi al l a0 a1 O))),
    (1,
      Obj.row false 32 22
        (RowC.lst 60
          [CK.int IntKind.i64, CK.int IntKind.i64, CK.int IntKind.i64, CK.int IntKind.i64, CK.int IntKind.i64, CK.int IntKind.i64, CK.int IntKind.i64, CK.int IntKind.i64, CK.int IntKind.i64,
            CK.int IntKind.i64, CK.int IntKind.i64, CK.int IntKind.i64, CK.int IntKind.i64, CK.bool, CK.int IntKind.i64, CK.bool, CK.int IntKind.i64, CK.int IntKind.i64, CK.int IntKind.i64,
            CK.int IntKind.i64, CK.int IntKind.i64, CK.bool]
          C))]) :=
  (line_runs x u w lo hi al l y a0 a1 tr op cl en mo la0 la1 la2 er C O hNeeds).to (by first | rfl | (simp only [])) ((by simp only [line_44, line_45, Bool.cond_self]))
theorem line_ok : FOk Try.prog 48 (tplG line_sp line_tpl line_out) := by
  refine tplG_ok (runF_ok known_leads 48) fun ps ls r hr hn _ => ?_
  unfold line_out at hr
  split at hr
  · cases hr; exact ⟨_, line_turned _ _ _ _ _ _ _ _ _ _ _ _ _ _ _ _ _ _ _ _ _ (line_weak (by exact hn)), fun _ => rfl⟩
  · cases hr
noncomputable def K_line : List (Nat × Summ) := (48, tplG line_sp line_tpl line_out) :: K_leads
theorem known_line : Known Try.prog (sums K_line) L_cr := known_cons known_leads line_ok
theorem line_46_len (x : List GC) (u w lo hi : Int) (al : Bool) (l : List GC) (a0 a1 : Int) (O : List (List Int)) : O.length ≤ (line_46 x u w lo hi al l a0 a1 O).length ∧ (line_46 x u w lo hi al l a0 a1 O).length ≤ O.length + 1 := by
  unfold line_46
  generalize (al || _ : Bool) = c
  cases c
  · exact ⟨Nat.le_refl _, Nat.le_succ _⟩
  · simp only [cond_true, List.length_append, List.length_cons, List.length_nil]; omega
end Go.Proofs.Ytmbfbhimdkjkoaa
