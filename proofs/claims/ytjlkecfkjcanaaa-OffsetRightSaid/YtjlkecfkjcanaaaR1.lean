/-
  REF01: the root of a list of digits; Sqrt. Conditions: none.
-/
import Derived.Test.YtjlkecfkjcanaaaR0
import Derived.Test.YtjlkecfkjcanaaaP0
set_option linter.all false
namespace Go.Proofs.Ytjlkecfkjcanaaa
open Go.SX Go.RowKit
noncomputable def rtF (X : Dg) : Fam Nat Unit where
  k := 20
  E j := [(6, ent 1000000000 (.one (I (62 - Int.ofNat j)))), (5, ent 1000000001 (.one (U (fr 63 (val X) j)))), (0, ent 0 (.one (.wh 0)))]
  M j := [rowU 0 1 X]
  out _ := .leaf (.exit 0) [(5, ent 7 (.one (U (fr 63 (val X) 63)))), (0, ent 0 (.one (.wh 0)))] [rowU 0 1 X]
  fin _ := ()
  next j _ := j + 1
  J j := j ≤ 63 ∧ rng X ∧ norm X ∧ X.length ≤ 1000000 ∧ val X < 85070591730234615865843651857942052864
  μ j := 63 - j
noncomputable def rt_s0 (j : Nat) : Prop :=
  decide (62 - Int.ofNat j ≥ 0) = true
noncomputable def rt_s1 (j : Nat) : Prop :=
  0 ≤ IntKind.u64.wrap (62 - Int.ofNat j)
noncomputable def rt_s2 (X : Dg) (j : Nat) : Int :=
  ibits BinOp.or IntKind.u64 (fr 63 (val X) j) (ishift BinOp.shl IntKind.u64 1 (IntKind.u64.wrap (62 - Int.ofNat j)))
noncomputable def rt_s3 (X : Dg) (j : Nat) : Bool :=
  decide (cmpD (mulQ_0 (limbL (rt_s2 X j))) X ≤ 0)
noncomputable def rt_needs (X : Dg) (j : Nat) : List Prop :=
  [rt_s0 j →
      rt_s1 j ∧
        0 ≤ rt_s2 X j ∧
          rt_s2 X j < 18446744073709551616 ∧
            (∀ (i : Nat), 0 ≤ dg (limbL (rt_s2 X j)) i ∧ dg (limbL (rt_s2 X j)) i < 65536) ∧
              List.length (limbL (rt_s2 X j)) + List.length (limbL (rt_s2 X j)) ≤ 1000000 ∧ List.length (mulQ_0 (limbL (rt_s2 X j))) ≤ 1000000 ∧ (rt_s3 X j = true → rt_s1 j),
    rt_s0 j →
      ((rtF X).next j 0 ≤ 63 ∧
          (∀ (i : Nat), 0 ≤ dg X i ∧ dg X i < 65536) ∧ (List.length X ≠ 0 → dg X (List.length X - 1) ≠ 0) ∧ List.length X ≤ 1000000 ∧ val X < 85070591730234615865843651857942052864) ∧
        (rtF X).μ ((rtF X).next j 0) < (rtF X).μ j ∧
          (rtF X).fin ((rtF X).next j 0) = (rtF X).fin j ∧
            62 - Int.ofNat ((rtF X).next j 0) = IntKind.i64.wrap (62 - Int.ofNat j - 1) ∧ fr 63 (val X) ((rtF X).next j 0) = bif rt_s3 X j then rt_s2 X j else fr 63 (val X) j,
    decide (62 - Int.ofNat j ≥ 0) = false → fr 63 (val X) 63 = fr 63 (val X) j]
theorem rt_round (X : Dg) (j : Nat) (hNeeds : ∀ pN ∈ (rt_needs X j), pN) : RoundOk (roundC (rtF X) (bodyOf Try.prog (sums K_mulQ) L_muq 110 0) 7 j) :=
  RoundOk.of (ps := (rt_needs X j)) (by kernel_rfl) (by kernel_rfl) hNeeds
theorem sqD {n : Int} (h : 0 ≤ n ∧ n < 18446744073709551616) {X : Dg} (hX : rng X) (nX : norm X) : cmpD (mulQ_0 (limbL n)) X = cmpI (n * n) (val X) ∧ rng (limbL n) ∧ (limbL n).length ≤ 4 ∧ (mulQ_0 (limbL n)).length ≤ 8 := by
  obtain ⟨x1, x2, x3⟩ := prodL_eq h h
  have h0 := cmpD_eq x1 hX x2 nX
  rw [x3] at h0
  have hl : (limbL n).length ≤ 4 := by rw [limbL, limb_len]; exact (nd_spec h.1 h.2 (j := 0) (by omega)).2
  refine ⟨h0, limb_rng _ _, hl, ?_⟩
  show (cutL _).length ≤ 8
  rw [cutL_len]
  have := cutN_le (mulO (limbL n) (limbL n) (limbL n).length) (mulO (limbL n) (limbL n) (limbL n).length).length
  rw [mulO_len] at this
  rw [mulO_len]
  omega
theorem rt_rounds (X : Dg) : RoundsOk (rtF X) (bodyOf Try.prog (sums K_mulQ) L_muq 110 0) 7 := by
  intro j hJ
  obtain ⟨h1, hX, nX, h3, h4⟩ : j ≤ 63 ∧ rng X ∧ norm X ∧ X.length ≤ 1000000 ∧ val X < 85070591730234615865843651857942052864 := hJ
  have v0 := (val_len hX).1
  have v1 : val X < 2 ^ 63 * 2 ^ 63 := h4
  have es : rt_s0 j → j < 63 := fun h => by
    have h : decide (62 - Int.ofNat j ≥ 0) = true := h
    rw [decide_eq_true_eq] at h
    have : (0 : Int) ≤ 62 - (j : Int) := h
    omega
  have ew : j < 63 → IntKind.u64.wrap (62 - Int.ofNat j) = ((63 - 1 - j : Nat) : Int) := fun h => by
    have e : Int.ofNat j = (j : Int) := rfl
    rw [e, wrU (by omega) (by omega)]
    omega
  have e2 : j < 63 → rt_s2 X j = fr 63 (val X) j + 2 ^ (63 - 1 - j) ∧ 0 ≤ rt_s2 X j ∧ rt_s2 X j < 18446744073709551616 := fun h => by
    have := fr_or v0 v1 h (by omega)
    unfold rt_s2
    rw [ew h, this.1]
    exact ⟨rfl, this.2⟩
  refine rt_round X j fun q hq => ?_
  unfold rt_needs at hq
  simp only [List.mem_cons, List.not_mem_nil, or_false] at hq
  rcases hq with rfl | rfl | rfl
  · intro h
    have hj := es h
    obtain ⟨e3, b1, b2⟩ := e2 hj
    obtain ⟨_, d2, d3, d4⟩ := sqD ⟨b1, b2⟩ hX nX
    have e1 : rt_s1 j := by unfold rt_s1; rw [ew hj]; exact Int.natCast_nonneg _
    exact ⟨e1, b1, b2, d2, by omega, by omega, fun _ => e1⟩
  · intro h
    have hj := es h
    obtain ⟨e3, b1, b2⟩ := e2 hj
    obtain ⟨d1, _, _, _⟩ := sqD ⟨b1, b2⟩ hX nX
    refine ⟨⟨hj, hX, nX, h3, h4⟩, ?_, trivial, ?_, ?_⟩
    · show 63 - (j + 1) < 63 - j; omega
    · have e : Int.ofNat j = (j : Int) := rfl
      have e' : Int.ofNat (j + 1) = (j : Int) + 1 := rfl
      show 62 - Int.ofNat (j + 1) = _
      rw [e, e', wrI (by omega) (by omega)]
      omega
    · show fr 63 (val X) (j + 1) = _
      unfold rt_s3
      rw [d1, cmpI_le, e3]
      rfl
  · intro h
    have h : decide (62 - Int.ofNat j ≥ 0) = false := h
    rw [decide_eq_false_iff_not] at h
    have h : ¬ (62 - (j : Int) ≥ 0) := h
    have : j = 63 := by omega
    rw [this]
noncomputable def rtL : LoopS := fun env mem m => match eRow [.int .u64] env mem 0 with
  | some X => famS (rtF X) 7 (fun _ _ => some 0) env mem m
  | none => none
noncomputable def L_rt : FuncId → Nat → Option LoopS := addL L_muq 110 3 rtL
theorem known_rtL : Known Try.prog (sums K_mulQ) L_rt := by
  refine known_addL 0 known_mulQ (by kernel_rfl) (codeOk_of fun env mem m x h => ?_)
  unfold rtL at h
  have hlen : (loopList Try.prog 110).length = 1 := by kernel_rfl
  split at h
  · exact ⟨_, fam_ok (bodyOf_ok plainN known_mulQ (by omega)) (rt_rounds _), h⟩
  · cases h
noncomputable def rroot_tpl : Tpl := ⟨[.one (.wh 0)], [(0, .row false 84 1 1 [.int .u64])], 2⟩
noncomputable def rroot_0 (X : List (List Int)) : Bool :=
  cmpD (mulP_0 (limbL (fr 63 (val X) 63)) (limbL (fr 63 (val X) 63))) X == 0
noncomputable def rroot_s0 (X : List (List Int)) : Int :=
  cmpD X (mulP_0 (limbL (fr 63 (val X) 63)) (limbL (IntKind.u64.wrap (fr 63 (val X) 63 + 1))))
noncomputable def rroot_1 (X : List (List Int)) : Int :=
  bif decide (rroot_s0 X > 0) then 1 else -1
noncomputable def rroot_s1 (X : List (List Int)) : Int :=
  IntKind.u64.wrap (fr 63 (val X) 63 + 1)
noncomputable def rroot_needs (X : List (List Int)) : List Prop :=
  [0 ≤ 63 ∧ (∀ (i : Nat), 0 ≤ dg X i ∧ dg X i < 65536) ∧ (X.length ≠ 0 → dg X (X.length - 1) ≠ 0) ∧ X.length ≤ 1000000 ∧ val X < 85070591730234615865843651857942052864, Int.ofNat 62 = 62,
    fr 63 (val X) 0 = 0, 0 ≤ fr 63 (val X) 63, fr 63 (val X) 63 < 18446744073709551616, 0 ≤ rroot_s1 X, rroot_s1 X < 18446744073709551616,
    ∀ (i : Nat), 0 ≤ dg (limbL (fr 63 (val X) 63)) i ∧ dg (limbL (fr 63 (val X) 63)) i < 65536, ∀ (i : Nat), 0 ≤ dg (limbL (rroot_s1 X)) i ∧ dg (limbL (rroot_s1 X)) i < 65536,
    List.length (limbL (fr 63 (val X) 63)) + List.length (limbL (rroot_s1 X)) ≤ 1000000, X.length ≤ 1000000, 0 ≤ fr 63 (val X) 63, fr 63 (val X) 63 < 18446744073709551616, 0 ≤ fr 63 (val X) 63,
    fr 63 (val X) 63 < 18446744073709551616, ∀ (i : Nat), 0 ≤ dg (limbL (fr 63 (val X) 63)) i ∧ dg (limbL (fr 63 (val X) 63)) i < 65536,
    ∀ (i : Nat), 0 ≤ dg (limbL (fr 63 (val X) 63)) i ∧ dg (limbL (fr 63 (val X) 63)) i < 65536, List.length (limbL (fr 63 (val X) 63)) + List.length (limbL (fr 63 (val X) 63)) ≤ 1000000,
    List.length (mulP_0 (limbL (fr 63 (val X) 63)) (limbL (fr 63 (val X) 63))) ≤ 1000000]
theorem rroot_weak {X : List (List Int)} (hW : ∀ q ∈ ([rng X, norm X, X.length ≤ 1000000, val X < 85070591730234615865843651857942052864] : List Prop), q) : ∀ q ∈ (rroot_needs X), q := by
  simp only [List.mem_cons, List.not_mem_nil, or_false, forall_eq_or_imp, forall_eq] at hW
  unfold rroot_needs
  simp only [List.forall_mem_cons, List.not_mem_nil, false_implies, implies_true, and_true]
  obtain ⟨hX, nX, h3, h4⟩ := hW
  have v0 := (val_len hX).1
  have v1 : val X < 2 ^ 63 * 2 ^ 63 := h4
  obtain ⟨r0, r1⟩ := fr_rng v0 v1 (j := 63) (by omega)
  have e63 : (2 : Int) ^ 63 = 9223372036854775808 := rfl
  rw [e63] at r1
  have e1 : rroot_s1 X = fr 63 (val X) 63 + 1 := wrU (by omega) (by omega)
  have l0 : ∀ n : Int, 0 ≤ n → n < 18446744073709551616 → (limbL n).length ≤ 4 := fun n a b => by rw [limbL, limb_len]; exact (nd_spec a b (j := 0) (by omega)).2
  have l1 := l0 (fr 63 (val X) 63) r0 (by omega)
  have l2 := l0 (rroot_s1 X) (by omega) (by omega)
  have l3 : (mulP_0 (limbL (fr 63 (val X) 63)) (limbL (fr 63 (val X) 63))).length ≤ 8 := (sqD ⟨r0, by omega⟩ hX nX).2.2.2
  exact ⟨⟨by omega, hX, nX, h3, h4⟩, rfl, rfl, r0, by omega, by omega, by omega, limb_rng _ _, limb_rng _ _, by omega, h3, r0, by omega, r0, by omega, limb_rng _ _, limb_rng _ _, by omega, by omega⟩
set_option maxRecDepth 1000000 in
theorem rroot_runs (X : List (List Int)) (hNeeds : ∀ pN ∈ (rroot_needs X), pN) : Runs (runF (sums K_mulQ) L_rt 110) (rroot_tpl.args []) (rroot_tpl.memo [] [X]) rroot_tpl.n (SV.tup [(false, [SC.int IntKind.u64 (SI.v (fr 63 (val X) 63))]), (false, [SC.bool (SB.v (rroot_0 X))]), (false, [SC.int IntKind.i64 (SI.v (rroot_1 X))])])
    ([(0, Obj.row false 84 1 (RowC.lst 1 [CK.int IntKind.u64] X))]) :=
  Runs.of (ps := (rroot_needs X)) (by kernel_rfl) (by kernel_rfl) hNeeds
noncomputable def rroot_out : List Pm → Lss → Option CRes
  | [], [X] => some ⟨SV.tup [(false, [SC.int IntKind.u64 (SI.v (fr 63 (val X) 63))]), (false, [SC.bool (SB.v (rroot_0 X))]), (false, [SC.int IntKind.i64 (SI.v (rroot_1 X))])],
    [(0, Obj.row false 84 1 (RowC.lst 1 [CK.int IntKind.u64] X))],
    [rng X, norm X, X.length ≤ 1000000, val X < 85070591730234615865843651857942052864], [], 360⟩
  | _, _ => none
theorem rroot_ok : FOk Try.prog 110 (tplS rroot_tpl rroot_out) := by
  refine tplS_ok (runF_ok known_rtL 110) fun ps ls r hr hn _ => ?_
  unfold rroot_out at hr
  split at hr
  · cases hr; exact ⟨_, rroot_runs _ (rroot_weak (by exact hn)), fun _ => rfl⟩
  · cases hr
noncomputable def K_rroot : List (Nat × Summ) := (110, tplS rroot_tpl rroot_out) :: K_mulQ
theorem known_rroot : Known Try.prog (sums K_rroot) L_rt := known_cons known_rtL rroot_ok
noncomputable def rrounded_tpl : Tpl := ⟨[.one (.bool), .one (.int .u64), .one (.bool), .one (.int .i64), .one (.int .i64)], [], 0⟩
noncomputable def rrounded_s0 (neg : Bool) (q : Int) (exact : Bool) (half : Int) (mode : Int) : Int :=
  bif bif mode == 0 then neg && !exact else bif mode == 1 then !neg && !exact else neg && decide (half > 0) || !neg && decide (half ≥ 0) then IntKind.u64.wrap (q + 1) else q
noncomputable def rrounded_0 (neg : Bool) (q : Int) (exact : Bool) (half : Int) (mode : Int) : Int :=
  bif decide (q > 9223372036854775808) then 0
  else
    bif neg then
      bif decide (rrounded_s0 neg q exact half mode > 9223372036854775808) then 0
      else bif rrounded_s0 neg q exact half mode == 0 then 0 else IntKind.i64.wrap (IntKind.i64.wrap (0 - IntKind.i64.wrap (IntKind.u64.wrap (rrounded_s0 neg q exact half mode - 1))) - 1)
    else bif decide (rrounded_s0 neg q exact half mode > 9223372036854775807) then 0 else IntKind.i64.wrap (rrounded_s0 neg q exact half mode)
noncomputable def rrounded_1 (neg : Bool) (q : Int) (exact : Bool) (half : Int) (mode : Int) : Bool :=
  bif decide (q > 9223372036854775808) then false
  else bif neg then !decide (rrounded_s0 neg q exact half mode > 9223372036854775808) else !decide (rrounded_s0 neg q exact half mode > 9223372036854775807)
set_option maxRecDepth 1000000 in
theorem rrounded_runs (neg : Bool) (q : Int) (exact : Bool) (half mode : Int) : Runs (runF (sums K_rroot) L_rt 84) (rrounded_tpl.args [.b neg, .i q, .b exact, .i half, .i mode]) (rrounded_tpl.memo [.b neg, .i q, .b exact, .i half, .i mode] []) rrounded_tpl.n (SV.tup [(false, [SC.int IntKind.i64 (SI.v (rrounded_0 neg q exact half mode))]), (false, [SC.bool (SB.v (rrounded_1 neg q exact half mode))])])
    ([]) :=
  Runs.of (ps := []) (by kernel_rfl) (by kernel_rfl) (by simp)
noncomputable def rrounded_out : List Pm → Lss → Option CRes
  | [.b neg, .i q, .b exact, .i half, .i mode], [] => some ⟨SV.tup [(false, [SC.int IntKind.i64 (SI.v (rrounded_0 neg q exact half mode))]), (false, [SC.bool (SB.v (rrounded_1 neg q exact half mode))])],
    [],
    [], [], 74⟩
  | _, _ => none
theorem rrounded_ok : FOk Try.prog 84 (tplS rrounded_tpl rrounded_out) := by
  refine tplS_ok (runF_ok known_rroot 84) fun ps ls r hr hn _ => ?_
  unfold rrounded_out at hr
  split at hr
  · cases hr; exact ⟨_, rrounded_runs _ _ _ _ _, fun _ => rfl⟩
  · cases hr
noncomputable def K_rrounded : List (Nat × Summ) := (84, tplS rrounded_tpl rrounded_out) :: K_rroot
theorem known_rrounded : Known Try.prog (sums K_rrounded) L_rt := known_cons known_rroot rrounded_ok
noncomputable def rRoot_tpl : Tpl := ⟨[.one (.int .i64), .one (.int .i64), .one (.int .i64)], [], 0⟩
noncomputable def rRoot_0 (a : Int) (b : Int) (mode : Int) : Int :=
  bif decide (a < 0) || decide (b < 0) || !(mode == 0 || mode == 1 || mode == 2) then 0
  else
    rrounded_0 false (fr 63 (val (mulP_0 (limbL (wsize_0 a)) (limbL (wsize_0 b)))) 63) (rroot_0 (mulP_0 (limbL (wsize_0 a)) (limbL (wsize_0 b))))
      (rroot_1 (mulP_0 (limbL (wsize_0 a)) (limbL (wsize_0 b)))) mode
noncomputable def rRoot_1 (a : Int) (b : Int) (mode : Int) : Bool :=
  bif decide (a < 0) || decide (b < 0) || !(mode == 0 || mode == 1 || mode == 2) then false
  else
    rrounded_1 false (fr 63 (val (mulP_0 (limbL (wsize_0 a)) (limbL (wsize_0 b)))) 63) (rroot_0 (mulP_0 (limbL (wsize_0 a)) (limbL (wsize_0 b))))
      (rroot_1 (mulP_0 (limbL (wsize_0 a)) (limbL (wsize_0 b)))) mode
noncomputable def rRoot_needs (a : Int) (b : Int) (mode : Int) : List Prop :=
  [(decide (a < 0) || decide (b < 0) || !(mode == 0 || mode == 1 || mode == 2)) = false →
      (-9223372036854775808 ≤ a ∧ a < 9223372036854775808) ∧
        (-9223372036854775808 ≤ b ∧ b < 9223372036854775808) ∧
          (∀ (i : Nat), 0 ≤ dg (mulP_0 (limbL (wsize_0 a)) (limbL (wsize_0 b))) i ∧ dg (mulP_0 (limbL (wsize_0 a)) (limbL (wsize_0 b))) i < 65536) ∧
            (List.length (mulP_0 (limbL (wsize_0 a)) (limbL (wsize_0 b))) ≠ 0 →
                dg (mulP_0 (limbL (wsize_0 a)) (limbL (wsize_0 b))) (List.length (mulP_0 (limbL (wsize_0 a)) (limbL (wsize_0 b))) - 1) ≠ 0) ∧
              List.length (mulP_0 (limbL (wsize_0 a)) (limbL (wsize_0 b))) ≤ 1000000 ∧ val (mulP_0 (limbL (wsize_0 a)) (limbL (wsize_0 b))) < 85070591730234615865843651857942052864]
theorem rRoot_weak {a : Int} {b : Int} {mode : Int} (hW : ∀ q ∈ ([isI a, isI b] : List Prop), q) : ∀ q ∈ (rRoot_needs a b mode), q := by
  simp only [List.mem_cons, List.not_mem_nil, or_false, forall_eq_or_imp, forall_eq] at hW
  unfold rRoot_needs
  simp only [List.forall_mem_cons, List.not_mem_nil, false_implies, implies_true, and_true]
  obtain ⟨ha, hb⟩ := hW
  intro h
  simp only [Bool.or_eq_false_iff, decide_eq_false_iff_not] at h
  obtain ⟨⟨a0, b0⟩, _⟩ := h
  have a1 := wsize_rng ha
  have b1 := wsize_rng hb
  obtain ⟨x1, x2, x3⟩ := prodL_eq a1 b1
  have la : (limbL (wsize_0 a)).length ≤ 4 := by rw [limbL, limb_len]; exact (nd_spec a1.1 a1.2 (j := 0) (by omega)).2
  have lb : (limbL (wsize_0 b)).length ≤ 4 := by rw [limbL, limb_len]; exact (nd_spec b1.1 b1.2 (j := 0) (by omega)).2
  refine ⟨ha, hb, x1, x2, ?_, ?_⟩
  · show (cutL _).length ≤ _
    rw [cutL_len]
    have := cutN_le (mulO (limbL (wsize_0 a)) (limbL (wsize_0 b)) (limbL (wsize_0 a)).length) (mulO (limbL (wsize_0 a)) (limbL (wsize_0 b)) (limbL (wsize_0 a)).length).length
    rw [mulO_len] at this
    rw [mulO_len]
    omega
  · have e : val (mulP_0 (limbL (wsize_0 a)) (limbL (wsize_0 b))) = a * b := by
      show val (prodL _ _) = _
      rw [x3, wsize_eq a ha, wsize_eq b hb, if_neg a0, if_neg b0]
    rw [e]
    obtain ⟨_, h2⟩ := prod_lt 9223372036854775807 9223372036854775807 (x := a) (y := b) ⟨by omega, by omega⟩ ⟨by omega, by omega⟩ (by omega)
    omega
set_option maxRecDepth 1000000 in
theorem rRoot_runs (a b mode : Int) (hNeeds : ∀ pN ∈ (rRoot_needs a b mode), pN) : Runs (runF (sums K_rrounded) L_rt 106) (rRoot_tpl.args [.i a, .i b, .i mode]) (rRoot_tpl.memo [.i a, .i b, .i mode] []) rRoot_tpl.n (SV.tup [(false, [SC.int IntKind.i64 (SI.v (rRoot_0 a b mode))]), (false, [SC.bool (SB.v (rRoot_1 a b mode))])])
    ([]) :=
  Runs.of (ps := (rRoot_needs a b mode)) (by kernel_rfl) (by kernel_rfl) hNeeds
noncomputable def rRoot_out : List Pm → Lss → Option CRes
  | [.i a, .i b, .i mode], [] => some ⟨SV.tup [(false, [SC.int IntKind.i64 (SI.v (rRoot_0 a b mode))]), (false, [SC.bool (SB.v (rRoot_1 a b mode))])],
    [],
    [isI a, isI b], [], 625⟩
  | _, _ => none
theorem rRoot_ok : FOk Try.prog 106 (tplS rRoot_tpl rRoot_out) := by
  refine tplS_ok (runF_ok known_rrounded 106) fun ps ls r hr hn _ => ?_
  unfold rRoot_out at hr
  split at hr
  · cases hr; exact ⟨_, rRoot_runs _ _ _ (rRoot_weak (by exact hn)), fun _ => rfl⟩
  · cases hr
noncomputable def K_rRoot : List (Nat × Summ) := (106, tplS rRoot_tpl rRoot_out) :: K_rrounded
theorem known_rRoot : Known Try.prog (sums K_rRoot) L_rt := known_cons known_rrounded rRoot_ok
noncomputable def rSqrt_tpl : Tpl := ⟨[.one (.int .i64), .one (.int .i64)], [], 0⟩
noncomputable def rSqrt_needs (a : Int) : List Prop :=
  [-9223372036854775808 ≤ a ∧ a < 9223372036854775808, -9223372036854775808 ≤ 1 ∧ Int.ofNat 1 < 9223372036854775808]
theorem rSqrt_weak {a : Int} (hW : ∀ q ∈ ([isI a] : List Prop), q) : ∀ q ∈ (rSqrt_needs a), q := by
  simp only [List.mem_cons, List.not_mem_nil, or_false, forall_eq_or_imp, forall_eq] at hW
  unfold rSqrt_needs
  simp only [List.forall_mem_cons, List.not_mem_nil, false_implies, implies_true, and_true]
  exact ⟨hW, by decide⟩
set_option maxRecDepth 1000000 in
theorem rSqrt_runs (a mode : Int) (hNeeds : ∀ pN ∈ (rSqrt_needs a), pN) : Runs (runF (sums K_rRoot) L_rt 96) (rSqrt_tpl.args [.i a, .i mode]) (rSqrt_tpl.memo [.i a, .i mode] []) rSqrt_tpl.n (SV.tup [(false, [SC.int IntKind.i64 (SI.v (rRoot_0 a 1 mode))]), (false, [SC.bool (SB.v (rRoot_1 a 1 mode))])])
    ([]) :=
  Runs.of (ps := (rSqrt_needs a)) (by kernel_rfl) (by kernel_rfl) hNeeds
noncomputable def rSqrt_out : List Pm → Lss → Option CRes
  | [.i a, .i mode], [] => some ⟨SV.tup [(false, [SC.int IntKind.i64 (SI.v (rRoot_0 a 1 mode))]), (false, [SC.bool (SB.v (rRoot_1 a 1 mode))])],
    [],
    [isI a], [], 634⟩
  | _, _ => none
theorem rSqrt_ok : FOk Try.prog 96 (tplS rSqrt_tpl rSqrt_out) := by
  refine tplS_ok (runF_ok known_rRoot 96) fun ps ls r hr hn _ => ?_
  unfold rSqrt_out at hr
  split at hr
  · cases hr; exact ⟨_, rSqrt_runs _ _ (rSqrt_weak (by exact hn)), fun _ => rfl⟩
  · cases hr
noncomputable def K_rSqrt : List (Nat × Summ) := (96, tplS rSqrt_tpl rSqrt_out) :: K_rRoot
theorem known_rSqrt : Known Try.prog (sums K_rSqrt) L_rt := known_cons known_rRoot rSqrt_ok
end Go.Proofs.Ytjlkecfkjcanaaa
