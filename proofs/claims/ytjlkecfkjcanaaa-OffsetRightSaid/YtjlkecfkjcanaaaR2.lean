/-
  REF01: Over. Conditions: none.
-/
import Derived.Test.YtjlkecfkjcanaaaR1
set_option linter.all false
namespace Go.Proofs.Ytjlkecfkjcanaaa
open Go.SX Go.RowKit
noncomputable def ovF (a b m : Int) (X D : Dg) : Fam Nat Unit where
  k := 20
  E j := [(14, ent 1000000000 (.one (I (62 - Int.ofNat j)))), (13, ent 1000000001 (.one (U (fr 63 (val X / val D) j)))), (12, ent 301 (.one (.wh 280))), (11, ent 273 (.one (.wh 250))), (0, ent 0 (.one (I a))), (1, ent 2 (.one (I b))), (3, ent 6 (.one (I m)))]
  M j := [rowU 280 283 D, rowU 250 253 X]
  out _ := .leaf (.exit 0) [(13, ent 305 (.one (U (fr 63 (val X / val D) 63)))), (12, ent 301 (.one (.wh 280))), (11, ent 273 (.one (.wh 250))), (0, ent 0 (.one (I a))), (1, ent 2 (.one (I b))), (3, ent 6 (.one (I m)))] [rowU 280 283 D, rowU 250 253 X]
  fin _ := ()
  next j _ := j + 1
  J j := j ≤ 63 ∧ rng X ∧ norm X ∧ rng D ∧ norm D ∧ X.length ≤ 100 ∧ D.length ≤ 100 ∧ 0 < val D ∧ val X < 85070591730234615865843651857942052864
  μ j := 63 - j
theorem mulP_law {A B : Dg} (hA : rng A) (hB : rng B) : rng (mulP_0 A B) ∧ norm (mulP_0 A B) ∧ val (mulP_0 A B) = val A * val B ∧ (mulP_0 A B).length ≤ A.length + B.length := by
  refine ⟨cutL_rng (mulO_rng hA hB _ (Nat.le_refl _)), cutL_norm _, ?_, ?_⟩
  · show val (cutL _) = _
    rw [cutL_val, mulO_val _ (Nat.le_refl _), val_all]
  · show (cutL _).length ≤ _
    rw [cutL_len]
    have := cutN_le (mulO A B A.length) (mulO A B A.length).length
    rw [mulO_len] at this
    rw [mulO_len]
    omega
theorem mulQ_law {n : Int} (h : 0 ≤ n ∧ n < 18446744073709551616) : rng (limbL n) ∧ (limbL n).length ≤ 4 ∧ rng (mulQ_0 (limbL n)) ∧ norm (mulQ_0 (limbL n)) ∧ val (mulQ_0 (limbL n)) = n * n ∧ (mulQ_0 (limbL n)).length ≤ 8 := by
  have hl : (limbL n).length ≤ 4 := by rw [limbL, limb_len]; exact (nd_spec h.1 h.2 (j := 0) (by omega)).2
  obtain ⟨x1, x2, x3, x4⟩ := mulP_law (limb_rng n (nd n)) (limb_rng n (nd n))
  have e : val (limb n (nd n)) = n := limbL_val h.1 h.2
  rw [e] at x3
  exact ⟨limb_rng _ _, hl, x1, x2, x3, by have : (limb n (nd n)).length ≤ 4 := hl; exact Nat.le_trans x4 (by omega)⟩
theorem limb_law {n : Int} (h : 0 ≤ n ∧ n < 18446744073709551616) : rng (limbL n) ∧ norm (limbL n) ∧ val (limbL n) = n ∧ (limbL n).length ≤ 4 := by
  obtain ⟨_, h2, _⟩ := mulQ_law h
  refine ⟨limb_rng _ _, fun hl => ?_, limbL_val h.1 h.2, h2⟩
  have hlen : (limbL n).length = nd n := by rw [limbL, limb_len]
  rw [hlen] at hl ⊢
  have h3 := (nd_spec h.1 h.2 (j := nd n - 1) (by omega)).1.2 (by omega)
  show dg (limb n (nd n)) (nd n - 1) ≠ 0
  rw [limb_dg, if_pos (by omega)]
  have h4 : ¬ 0 < n / 65536 ^ nd n := fun h5 => by have := (nd_spec h.1 h.2 (j := nd n) (by omega)).1.1 h5; omega
  have h6 := div_pow n (nd n - 1)
  rw [show nd n - 1 + 1 = nd n by omega] at h6
  have h7 : 0 ≤ n / 65536 ^ (nd n - 1) := by omega
  omega
noncomputable def ov_s0 (j : Nat) : Prop :=
  decide (62 - Int.ofNat j ≥ 0) = true
noncomputable def ov_s1 (j : Nat) : Prop :=
  0 ≤ IntKind.u64.wrap (62 - Int.ofNat j)
noncomputable def ov_s2 (X : Dg) (D : Dg) (j : Nat) : Int :=
  fr 63 (val X / val D) j
noncomputable def ov_s3 (X : Dg) (D : Dg) (j : Nat) : Int :=
  ibits BinOp.or IntKind.u64 (ov_s2 X D j) (ishift BinOp.shl IntKind.u64 1 (IntKind.u64.wrap (62 - Int.ofNat j)))
noncomputable def ov_s4 (X : Dg) (D : Dg) (j : Nat) : Bool :=
  decide (cmpD (mulP_0 (mulQ_0 (limbL (ov_s3 X D j))) D) X ≤ 0)
noncomputable def ov_needs (a : Int) (b : Int) (m : Int) (X : Dg) (D : Dg) (j : Nat) : List Prop :=
  [ov_s0 j →
      ov_s1 j ∧
        0 ≤ ov_s3 X D j ∧
          ov_s3 X D j < 18446744073709551616 ∧
            (∀ (i : Nat), 0 ≤ dg (limbL (ov_s3 X D j)) i ∧ dg (limbL (ov_s3 X D j)) i < 65536) ∧
              List.length (limbL (ov_s3 X D j)) + List.length (limbL (ov_s3 X D j)) ≤ 1000000 ∧
                (∀ (i : Nat), 0 ≤ dg (mulQ_0 (limbL (ov_s3 X D j))) i ∧ dg (mulQ_0 (limbL (ov_s3 X D j))) i < 65536) ∧
                  (∀ (i : Nat), 0 ≤ dg D i ∧ dg D i < 65536) ∧
                    List.length (mulQ_0 (limbL (ov_s3 X D j))) + List.length D ≤ 1000000 ∧ List.length (mulP_0 (mulQ_0 (limbL (ov_s3 X D j))) D) ≤ 1000000 ∧ (ov_s4 X D j = true → ov_s1 j),
    ov_s0 j →
      ((ovF a b m X D).next j 0 ≤ 63 ∧
          (∀ (i : Nat), 0 ≤ dg X i ∧ dg X i < 65536) ∧
            (List.length X ≠ 0 → dg X (List.length X - 1) ≠ 0) ∧
              (∀ (i : Nat), 0 ≤ dg D i ∧ dg D i < 65536) ∧
                (List.length D ≠ 0 → dg D (List.length D - 1) ≠ 0) ∧ List.length X ≤ 100 ∧ List.length D ≤ 100 ∧ 0 < val D ∧ val X < 85070591730234615865843651857942052864) ∧
        (ovF a b m X D).μ ((ovF a b m X D).next j 0) < (ovF a b m X D).μ j ∧
          (ovF a b m X D).fin ((ovF a b m X D).next j 0) = (ovF a b m X D).fin j ∧
            62 - Int.ofNat ((ovF a b m X D).next j 0) = IntKind.i64.wrap (62 - Int.ofNat j - 1) ∧ fr 63 (val X / val D) ((ovF a b m X D).next j 0) = bif ov_s4 X D j then ov_s3 X D j else ov_s2 X D j,
    decide (62 - Int.ofNat j ≥ 0) = false → fr 63 (val X / val D) 63 = ov_s2 X D j]
theorem ov_round (a b m : Int) (X D : Dg) (j : Nat) (hNeeds : ∀ pN ∈ (ov_needs a b m X D j), pN) : RoundOk (roundC (ovF a b m X D) (bodyOf Try.prog (sums K_rSqrt) L_rt 46 0) 304 j) :=
  RoundOk.of (ps := (ov_needs a b m X D j)) (by kernel_rfl) (by kernel_rfl) hNeeds
theorem all3 {p q r : Prop} (hp : p) (hq : q) (hr : r) : ∀ x ∈ [p, q, r], x := by
  intro x hx
  rcases List.mem_cons.1 hx with rfl | hx
  · exact hp
  rcases List.mem_cons.1 hx with rfl | hx
  · exact hq
  rcases List.mem_cons.1 hx with rfl | hx
  · exact hr
  · cases hx
theorem ov_rounds (a b m : Int) (X D : Dg) : RoundsOk (ovF a b m X D) (bodyOf Try.prog (sums K_rSqrt) L_rt 46 0) 304 := by
  intro j hJ
  obtain ⟨h1, hX, nX, hD, nD, lX, lD, d0, x1⟩ : j ≤ 63 ∧ rng X ∧ norm X ∧ rng D ∧ norm D ∧ X.length ≤ 100 ∧ D.length ≤ 100 ∧ 0 < val D ∧ val X < 85070591730234615865843651857942052864 := hJ
  have x0 := (val_len hX).1
  have v0 : 0 ≤ val X / val D := Int.ediv_nonneg x0 (Int.le_of_lt d0)
  have v1 : val X / val D < 2 ^ 63 * 2 ^ 63 := by
    have := Int.ediv_le_self (val D) x0
    have e : (2 : Int) ^ 63 * 2 ^ 63 = 85070591730234615865843651857942052864 := rfl
    omega
  have es : ov_s0 j → j < 63 := fun h => by
    have h : decide (62 - Int.ofNat j ≥ 0) = true := h
    rw [decide_eq_true_eq] at h
    have : (0 : Int) ≤ 62 - (j : Int) := h
    omega
  have ew : j < 63 → IntKind.u64.wrap (62 - Int.ofNat j) = ((63 - 1 - j : Nat) : Int) := fun h => by
    have e : Int.ofNat j = (j : Int) := rfl
    rw [e, wrU (by omega) (by omega)]
    omega
  have e2 : j < 63 → ov_s3 X D j = fr 63 (val X / val D) j + 2 ^ (63 - 1 - j) ∧ 0 ≤ ov_s3 X D j ∧ ov_s3 X D j < 18446744073709551616 := fun h => by
    have := fr_or v0 v1 h (by omega)
    unfold ov_s3 ov_s2
    rw [ew h, this.1]
    exact ⟨rfl, this.2⟩
  refine ov_round a b m X D j ?_
  unfold ov_needs
  refine all3 ?_ ?_ ?_
  · intro h
    have hj := es h
    obtain ⟨e3, b1, b2⟩ := e2 hj
    obtain ⟨q1, q2, q3, q4, q5, q6⟩ := mulQ_law ⟨b1, b2⟩
    obtain ⟨p1, p2, p3, p4⟩ := mulP_law q3 hD
    have e1 : ov_s1 j := by unfold ov_s1; rw [ew hj]; exact Int.natCast_nonneg _
    exact ⟨e1, b1, b2, q1, by omega, q3, hD, by omega, by omega, fun _ => e1⟩
  · intro h
    have hj := es h
    obtain ⟨e3, b1, b2⟩ := e2 hj
    obtain ⟨q1, q2, q3, q4, q5, q6⟩ := mulQ_law ⟨b1, b2⟩
    obtain ⟨p1, p2, p3, p4⟩ := mulP_law q3 hD
    refine ⟨⟨hj, hX, nX, hD, nD, lX, lD, d0, x1⟩, ?_, rfl, ?_, ?_⟩
    · show 63 - (j + 1) < 63 - j; omega
    · have e : Int.ofNat j = (j : Int) := rfl
      have e' : Int.ofNat (j + 1) = (j : Int) + 1 := rfl
      show 62 - Int.ofNat (j + 1) = _
      rw [e, e', wrI (by omega) (by omega)]
      omega
    · show fr 63 (val X / val D) (j + 1) = _
      unfold ov_s4
      rw [cmpD_eq p1 hX p2 nX, p3, q5, cmpI_le, e3]
      have hle : decide ((fr 63 (val X / val D) j + 2 ^ (63 - 1 - j)) * (fr 63 (val X / val D) j + 2 ^ (63 - 1 - j)) * val D ≤ val X) = decide ((fr 63 (val X / val D) j + 2 ^ (63 - 1 - j)) * (fr 63 (val X / val D) j + 2 ^ (63 - 1 - j)) ≤ val X / val D) :=
        decide_eq_decide.2 (Int.le_ediv_iff_mul_le d0).symm
      rw [hle]
      rfl
  · intro h
    rw [decide_eq_false_iff_not] at h
    have h : ¬ (62 - (j : Int) ≥ 0) := h
    have : j = 63 := by omega
    rw [this]; rfl
noncomputable def ovL : LoopS := fun env mem m => match eRow [.int .u64] env mem 11, eRow [.int .u64] env mem 12, eInt env 0, eInt env 1, eInt env 3 with
  | some X, some D, some a, some b, some md => famS (ovF a b md X D) 304 (fun _ _ => some 0) env mem m
  | _, _, _, _, _ => none
noncomputable def L_ov : FuncId → Nat → Option LoopS := addL L_rt 46 8 ovL
theorem known_ovL : Known Try.prog (sums K_rSqrt) L_ov := by
  refine known_addL 0 known_rSqrt (by kernel_rfl) (codeOk_of fun env mem m x h => ?_)
  unfold ovL at h
  have hlen : (loopList Try.prog 46).length = 1 := by kernel_rfl
  split at h
  · exact ⟨_, fam_ok (bodyOf_ok plainN known_rSqrt (by omega)) (ov_rounds _ _ _ _ _), h⟩
  · cases h
theorem ov_parts {a b : Int} (ha : isI a) (hb : isI b) (la : wsize_0 a ≤ 2147483648) (lb : wsize_0 b ≤ 2147483648) : rng (mulP_0 (limbL (wsize_0 a)) (limbL (wsize_0 b))) ∧ norm (mulP_0 (limbL (wsize_0 a)) (limbL (wsize_0 b))) ∧ val (mulP_0 (limbL (wsize_0 a)) (limbL (wsize_0 b))) = wsize_0 a * wsize_0 b ∧ (mulP_0 (limbL (wsize_0 a)) (limbL (wsize_0 b))).length ≤ 8 ∧ 0 ≤ wsize_0 a * wsize_0 b ∧ wsize_0 a * wsize_0 b ≤ 4611686018427387904 := by
  obtain ⟨a1, a2, a3, a4⟩ := limb_law (wsize_rng ha)
  obtain ⟨b1, b2, b3, b4⟩ := limb_law (wsize_rng hb)
  obtain ⟨p1, p2, p3, p4⟩ := mulP_law a1 b1
  rw [a3, b3] at p3
  have := prod_lt 2147483648 2147483648 (x := wsize_0 a) (y := wsize_0 b) ⟨(wsize_rng ha).1, la⟩ ⟨(wsize_rng hb).1, lb⟩ (by omega)
  exact ⟨p1, p2, p3, by omega, this.1, by omega⟩
noncomputable def rOver_tpl : Tpl := ⟨[.one (.int .i64), .one (.int .i64), .one (.int .i64), .one (.int .i64)], [], 0⟩
noncomputable def rOver_s0 (a : Int) (b : Int) (n : Int) : Int :=
  fr 63 (val (mulQ_0 (mulP_0 (limbL (wsize_0 a)) (limbL (wsize_0 b)))) / val (limbL (IntKind.u64.wrap n))) 63
noncomputable def rOver_0 (a : Int) (b : Int) (n : Int) (m : Int) : Int :=
  bif decide (wsize_0 a > 2147483648) || decide (wsize_0 b > 2147483648) || decide (n < 1) || decide (n > 4611686018427387904) || !(m == 0 || m == 1 || m == 2) then 0
  else
    rrounded_0 (decide (wsign_0 a b < 0)) (rOver_s0 a b n) (cmpD (mulP_0 (mulQ_0 (limbL (rOver_s0 a b n))) (limbL (IntKind.u64.wrap n))) (mulQ_0 (mulP_0 (limbL (wsize_0 a)) (limbL (wsize_0 b)))) == 0)
      (cmpD (mulP_0 (limbL 4) (mulQ_0 (mulP_0 (limbL (wsize_0 a)) (limbL (wsize_0 b)))))
        (mulP_0 (mulQ_0 (limbL (IntKind.u64.wrap (IntKind.u64.wrap (2 * rOver_s0 a b n) + 1)))) (limbL (IntKind.u64.wrap n))))
      m
noncomputable def rOver_1 (a : Int) (b : Int) (n : Int) (m : Int) : Bool :=
  bif decide (wsize_0 a > 2147483648) || decide (wsize_0 b > 2147483648) || decide (n < 1) || decide (n > 4611686018427387904) || !(m == 0 || m == 1 || m == 2) then false
  else
    rrounded_1 (decide (wsign_0 a b < 0)) (rOver_s0 a b n) (cmpD (mulP_0 (mulQ_0 (limbL (rOver_s0 a b n))) (limbL (IntKind.u64.wrap n))) (mulQ_0 (mulP_0 (limbL (wsize_0 a)) (limbL (wsize_0 b)))) == 0)
      (cmpD (mulP_0 (limbL 4) (mulQ_0 (mulP_0 (limbL (wsize_0 a)) (limbL (wsize_0 b)))))
        (mulP_0 (mulQ_0 (limbL (IntKind.u64.wrap (IntKind.u64.wrap (2 * rOver_s0 a b n) + 1)))) (limbL (IntKind.u64.wrap n))))
      m
noncomputable def rOver_s1 (a : Int) (b : Int) (n : Int) : Int :=
  IntKind.u64.wrap (IntKind.u64.wrap (2 * rOver_s0 a b n) + 1)
noncomputable def rOver_needs (a : Int) (b : Int) (n : Int) (m : Int) : List Prop :=
  [(decide (wsize_0 a > 2147483648) || decide (wsize_0 b > 2147483648) || decide (n < 1) || decide (n > 4611686018427387904) || !(m == 0 || m == 1 || m == 2)) = false →
      (-9223372036854775808 ≤ a ∧ a < 9223372036854775808) ∧
        (-9223372036854775808 ≤ b ∧ b < 9223372036854775808) ∧
          (∀ (i : Nat), 0 ≤ dg (mulP_0 (limbL (wsize_0 a)) (limbL (wsize_0 b))) i ∧ dg (mulP_0 (limbL (wsize_0 a)) (limbL (wsize_0 b))) i < 65536) ∧
            List.length (mulP_0 (limbL (wsize_0 a)) (limbL (wsize_0 b))) + List.length (mulP_0 (limbL (wsize_0 a)) (limbL (wsize_0 b))) ≤ 1000000 ∧
              0 ≤ IntKind.u64.wrap n ∧
                IntKind.u64.wrap n < 18446744073709551616 ∧
                  (0 ≤ 63 ∧
                      (∀ (i : Nat), 0 ≤ dg (mulQ_0 (mulP_0 (limbL (wsize_0 a)) (limbL (wsize_0 b)))) i ∧ dg (mulQ_0 (mulP_0 (limbL (wsize_0 a)) (limbL (wsize_0 b)))) i < 65536) ∧
                        (List.length (mulQ_0 (mulP_0 (limbL (wsize_0 a)) (limbL (wsize_0 b)))) ≠ 0 →
                            dg (mulQ_0 (mulP_0 (limbL (wsize_0 a)) (limbL (wsize_0 b)))) (List.length (mulQ_0 (mulP_0 (limbL (wsize_0 a)) (limbL (wsize_0 b)))) - 1) ≠ 0) ∧
                          (∀ (i : Nat), 0 ≤ dg (limbL (IntKind.u64.wrap n)) i ∧ dg (limbL (IntKind.u64.wrap n)) i < 65536) ∧
                            (List.length (limbL (IntKind.u64.wrap n)) ≠ 0 → dg (limbL (IntKind.u64.wrap n)) (List.length (limbL (IntKind.u64.wrap n)) - 1) ≠ 0) ∧
                              List.length (mulQ_0 (mulP_0 (limbL (wsize_0 a)) (limbL (wsize_0 b)))) ≤ 100 ∧
                                List.length (limbL (IntKind.u64.wrap n)) ≤ 100 ∧
                                  0 < val (limbL (IntKind.u64.wrap n)) ∧ val (mulQ_0 (mulP_0 (limbL (wsize_0 a)) (limbL (wsize_0 b)))) < 85070591730234615865843651857942052864) ∧
                    Int.ofNat 62 = 62 ∧
                      fr 63 (val (mulQ_0 (mulP_0 (limbL (wsize_0 a)) (limbL (wsize_0 b)))) / val (limbL (IntKind.u64.wrap n))) 0 = 0 ∧
                        0 ≤ rOver_s0 a b n ∧
                          rOver_s0 a b n < 18446744073709551616 ∧
                            0 ≤ rOver_s1 a b n ∧
                              rOver_s1 a b n < 18446744073709551616 ∧
                                Int.ofNat 0 ≤ 4 ∧
                                  Int.ofNat 4 < 18446744073709551616 ∧
                                    (∀ (i : Nat), Int.ofNat 0 ≤ dg (limbL 4) i ∧ dg (limbL 4) i < 65536) ∧
                                      (∀ (i : Nat), 0 ≤ dg (mulQ_0 (mulP_0 (limbL (wsize_0 a)) (limbL (wsize_0 b)))) i ∧ dg (mulQ_0 (mulP_0 (limbL (wsize_0 a)) (limbL (wsize_0 b)))) i < 65536) ∧
                                        1 + List.length (mulQ_0 (mulP_0 (limbL (wsize_0 a)) (limbL (wsize_0 b)))) ≤ 1000000 ∧
                                          (∀ (i : Nat), 0 ≤ dg (limbL (rOver_s1 a b n)) i ∧ dg (limbL (rOver_s1 a b n)) i < 65536) ∧
                                            List.length (limbL (rOver_s1 a b n)) + List.length (limbL (rOver_s1 a b n)) ≤ 1000000 ∧
                                              (∀ (i : Nat), 0 ≤ dg (mulQ_0 (limbL (rOver_s1 a b n))) i ∧ dg (mulQ_0 (limbL (rOver_s1 a b n))) i < 65536) ∧
                                                (∀ (i : Nat), 0 ≤ dg (limbL (IntKind.u64.wrap n)) i ∧ dg (limbL (IntKind.u64.wrap n)) i < 65536) ∧
                                                  List.length (mulQ_0 (limbL (rOver_s1 a b n))) + List.length (limbL (IntKind.u64.wrap n)) ≤ 1000000 ∧
                                                    List.length (mulP_0 (limbL 4) (mulQ_0 (mulP_0 (limbL (wsize_0 a)) (limbL (wsize_0 b))))) ≤ 1000000 ∧
                                                      (∀ (i : Nat), 0 ≤ dg (limbL (rOver_s0 a b n)) i ∧ dg (limbL (rOver_s0 a b n)) i < 65536) ∧
                                                        List.length (limbL (rOver_s0 a b n)) + List.length (limbL (rOver_s0 a b n)) ≤ 1000000 ∧
                                                          (∀ (i : Nat), 0 ≤ dg (mulQ_0 (limbL (rOver_s0 a b n))) i ∧ dg (mulQ_0 (limbL (rOver_s0 a b n))) i < 65536) ∧
                                                            (∀ (i : Nat), 0 ≤ dg (limbL (IntKind.u64.wrap n)) i ∧ dg (limbL (IntKind.u64.wrap n)) i < 65536) ∧
                                                              List.length (mulQ_0 (limbL (rOver_s0 a b n))) + List.length (limbL (IntKind.u64.wrap n)) ≤ 1000000 ∧
                                                                List.length (mulP_0 (mulQ_0 (limbL (rOver_s0 a b n))) (limbL (IntKind.u64.wrap n))) ≤ 1000000]
theorem rOver_weak {a : Int} {b : Int} {n : Int} {m : Int} (hW : ∀ q ∈ ([isI a, isI b, isI n] : List Prop), q) : ∀ q ∈ (rOver_needs a b n m), q := by
  simp only [List.mem_cons, List.not_mem_nil, or_false, forall_eq_or_imp, forall_eq] at hW
  unfold rOver_needs
  simp only [List.forall_mem_cons, List.not_mem_nil, false_implies, implies_true, and_true]
  obtain ⟨ha, hb, hn⟩ := hW
  intro h
  simp only [Bool.or_eq_false_iff, decide_eq_false_iff_not] at h
  obtain ⟨A1, A2, A3, A4, A5, A6⟩ := ov_parts ha hb (by omega) (by omega)
  have ew : IntKind.u64.wrap n = n := wrU (by omega) (by omega)
  obtain ⟨D1, D2, D3, D4⟩ := limb_law (n := n) ⟨by omega, by omega⟩
  rw [ew]
  have hX : mulQ_0 (mulP_0 (limbL (wsize_0 a)) (limbL (wsize_0 b))) = mulP_0 (mulP_0 (limbL (wsize_0 a)) (limbL (wsize_0 b))) (mulP_0 (limbL (wsize_0 a)) (limbL (wsize_0 b))) := rfl
  obtain ⟨X1, X2, X3, X4⟩ := mulP_law A1 A1
  rw [← hX] at X1 X2 X3 X4
  rw [A3] at X3
  have hp := prod_lt 4611686018427387904 4611686018427387904 (x := wsize_0 a * wsize_0 b) (y := wsize_0 a * wsize_0 b) ⟨A5, A6⟩ ⟨A5, A6⟩ (by omega)
  have hx1 : val (mulQ_0 (mulP_0 (limbL (wsize_0 a)) (limbL (wsize_0 b)))) < 85070591730234615865843651857942052864 := by rw [X3]; omega
  have es : rOver_s0 a b n = fr 63 (val (mulQ_0 (mulP_0 (limbL (wsize_0 a)) (limbL (wsize_0 b)))) / n) 63 := by unfold rOver_s0; rw [ew, D3]
  have hv : 0 ≤ val (mulQ_0 (mulP_0 (limbL (wsize_0 a)) (limbL (wsize_0 b)))) / n := Int.ediv_nonneg (by rw [X3]; omega) (by omega)
  have hv1 : val (mulQ_0 (mulP_0 (limbL (wsize_0 a)) (limbL (wsize_0 b)))) / n < 2 ^ 63 * 2 ^ 63 := by
    have := Int.ediv_le_self n (show 0 ≤ val (mulQ_0 (mulP_0 (limbL (wsize_0 a)) (limbL (wsize_0 b)))) by rw [X3]; omega)
    have e : (2 : Int) ^ 63 * 2 ^ 63 = 85070591730234615865843651857942052864 := rfl
    omega
  have hq := fr_rng hv hv1 (j := 63) (by omega)
  rw [← es] at hq
  have e63 : (2 : Int) ^ 63 = 9223372036854775808 := rfl
  have hs : rOver_s1 a b n = 2 * rOver_s0 a b n + 1 := by
    unfold rOver_s1
    rw [wrU (x := 2 * rOver_s0 a b n) (by omega) (by omega), wrU (by omega) (by omega)]
  obtain ⟨q1, q2, q3, q4, q5, q6⟩ := mulQ_law (n := rOver_s1 a b n) ⟨by omega, by omega⟩
  obtain ⟨s1, s2, s3, s4, s5, s6⟩ := mulQ_law (n := rOver_s0 a b n) ⟨by omega, by omega⟩
  obtain ⟨F1, F2, F3, F4⟩ := limb_law (n := 4) ⟨by omega, by omega⟩
  obtain ⟨g1, g2, g3, g4⟩ := mulP_law F1 X1
  obtain ⟨k1, k2, k3, k4⟩ := mulP_law s3 D1
  exact ⟨ha, hb, A1, by omega, by omega, by omega, ⟨by omega, X1, X2, D1, D2, by omega, by omega, by omega, hx1⟩, rfl, rfl, by omega, by omega, by omega, by omega, by decide, by decide, F1, X1, by omega, q1, by omega, q3, D1, by omega, by omega, s1, by omega, s3, D1, by omega, by omega⟩
set_option maxRecDepth 1000000 in
theorem rOver_runs (a b n m : Int) (hNeeds : ∀ pN ∈ (rOver_needs a b n m), pN) : Runs (runF (sums K_rSqrt) L_ov 46) (rOver_tpl.args [.i a, .i b, .i n, .i m]) (rOver_tpl.memo [.i a, .i b, .i n, .i m] []) rOver_tpl.n (SV.tup [(false, [SC.int IntKind.i64 (SI.v (rOver_0 a b n m))]), (false, [SC.bool (SB.v (rOver_1 a b n m))])])
    ([]) :=
  Runs.of (ps := (rOver_needs a b n m)) (by kernel_rfl) (by kernel_rfl) hNeeds
noncomputable def rOver_out : List Pm → Lss → Option CRes
  | [.i a, .i b, .i n, .i m], [] => some ⟨SV.tup [(false, [SC.int IntKind.i64 (SI.v (rOver_0 a b n m))]), (false, [SC.bool (SB.v (rOver_1 a b n m))])],
    [],
    [isI a, isI b, isI n], [], 922⟩
  | _, _ => none
theorem rOver_ok : FOk Try.prog 46 (tplS rOver_tpl rOver_out) := by
  refine tplS_ok (runF_ok known_ovL 46) fun ps ls r hr hn _ => ?_
  unfold rOver_out at hr
  split at hr
  · cases hr; exact ⟨_, rOver_runs _ _ _ _ (rOver_weak (by exact hn)), fun _ => rfl⟩
  · cases hr
noncomputable def K_rOver : List (Nat × Summ) := (46, tplS rOver_tpl rOver_out) :: K_rSqrt
theorem known_rOver : Known Try.prog (sums K_rOver) L_ov := known_cons known_ovL rOver_ok
end Go.Proofs.Ytjlkecfkjcanaaa
