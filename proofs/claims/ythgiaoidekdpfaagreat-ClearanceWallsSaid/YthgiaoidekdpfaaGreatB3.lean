/-
  WIDE: quotients, roots. Conditions: none.
-/
import Derived.Test.YthgiaoidekdpfaaGreatB2
import Derived.Test.YthgiaoidekdpfaaGreatN2
import Derived.Test.YthgiaoidekdpfaaGreatP0
set_option linter.all false
namespace Go.Proofs.YthgiaoidekdpfaaGreat
open Go.SX Go.RowKit
abbrev u64 (x : Int) : Prop := 0 ≤ x ∧ x < 18446744073709551616
/-- The next bit, from the highest one on; 0 behind the last one. -/
noncomputable def bitO (j : Nat) : Int := bif decide (j < 64) then 2 ^ (63 - j) else 0
noncomputable def flF (a b : Int) : Fam Nat Unit where
  k := 20
  E j := [(4, ent 1000000000 (.one (U (bitO j)))), (3, ent 1000000001 (.one (U (fr 64 (a * 18446744073709551616 + b) j)))), (1, ent 3 (.one (.ptr 0 0)))]
  M j := [(0, .blk 127 [(1, U a), (2, U b)])]
  out _ := .leaf (.exit 0) [(3, ent 8 (.one (U (fr 64 (a * 18446744073709551616 + b) 64))))] []
  fin _ := ()
  next j _ := j + 1
  J j := j ≤ 64 ∧ u64 a ∧ u64 b
  μ j := 64 - j
theorem bitO_lt {j : Nat} (h : j < 64) : bitO j = 2 ^ (64 - 1 - j) := by unfold bitO; rw [decide_eq_true h, cond_true]
theorem bitO_next {j : Nat} (h : j < 64) : ishift .shr .u64 (bitO j) 1 = bitO (j + 1) := by
  have hp := two_pos (63 - j)
  have e : (2 : Int) ^ min (1 : Int).toNat IntKind.u64.bits = 2 := by decide
  have e2 : ishift .shr .u64 (bitO j) 1 = bitO j / 2 := by
    unfold ishift
    simp only [e]
    exact Int.fdiv_eq_ediv_of_nonneg _ (by omega)
  rw [e2]
  unfold bitO
  rw [decide_eq_true h, cond_true]
  by_cases h1 : j + 1 < 64
  · rw [decide_eq_true h1, cond_true, show 63 - j = (63 - (j + 1)) + 1 by omega, two_succ]
    omega
  · rw [decide_eq_false h1, cond_false, show 63 - j = 0 by omega]
    rfl
theorem big_lt : (2 : Int) ^ 64 * 2 ^ 64 = 340282366920938463463374607431768211456 := rfl
noncomputable def fl_s0 (a : Int) (b : Int) (j : Nat) : Int :=
  fr 64 (a * 18446744073709551616 + b) j
noncomputable def fl_s1 (a : Int) (b : Int) (j : Nat) : Int :=
  wcomp_0 (mul64_0 (ibits BinOp.or IntKind.u64 (fl_s0 a b j) (bitO j)) (ibits BinOp.or IntKind.u64 (fl_s0 a b j) (bitO j)))
   (mul64_1 (ibits BinOp.or IntKind.u64 (fl_s0 a b j) (bitO j)) (ibits BinOp.or IntKind.u64 (fl_s0 a b j) (bitO j))) a b
noncomputable def fl_needs (a : Int) (b : Int) (j : Nat) : List Prop :=
  [decide (bitO j > 0) = true →
     ((flF a b).next j 0 ≤ 64 ∧ (0 ≤ a ∧ a < 18446744073709551616) ∧ 0 ≤ b ∧ b < 18446744073709551616) ∧
     (flF a b).μ ((flF a b).next j 0) < (flF a b).μ j ∧
     (flF a b).fin ((flF a b).next j 0) = (flF a b).fin j ∧
     bitO ((flF a b).next j 0) = ishift BinOp.shr IntKind.u64 (bitO j) 1 ∧
     fr 64 (a * 18446744073709551616 + b) ((flF a b).next j 0) = bif decide (fl_s1 a b j ≤ 0) then ibits BinOp.or IntKind.u64 (fl_s0 a b j) (bitO j) else fl_s0 a b j,
    decide (bitO j > 0) = false → fr 64 (a * 18446744073709551616 + b) 64 = fl_s0 a b j]
theorem fl_round (a b : Int) (j : Nat) (hNeeds : ∀ pN ∈ (fl_needs a b j), pN) : RoundOk (roundC (flF a b) (bodyOf Tryz.prog (sums K_div64) L_d2 178 0) 7 j) :=
  RoundOk.of (ps := (fl_needs a b j)) (by kernel_rfl) (by kernel_rfl) hNeeds
theorem fl_rounds (a b : Int) : RoundsOk (flF a b) (bodyOf Tryz.prog (sums K_div64) L_d2 178 0) 7 := by
  intro j hJ
  obtain ⟨h1, ha, hb⟩ : j ≤ 64 ∧ u64 a ∧ u64 b := hJ
  have hx0 : 0 ≤ a * 18446744073709551616 + b := by omega
  have hx1 : a * 18446744073709551616 + b < 2 ^ 64 * 2 ^ 64 := by rw [big_lt]; omega
  have ex1 : (a * 18446744073709551616 + b) / 18446744073709551616 = a := by omega
  have ex2 : (a * 18446744073709551616 + b) % 18446744073709551616 = b := by omega
  refine fl_round a b j ?_
  unfold fl_needs
  refine all2 ?_ ?_
  · intro h
    have hj : j < 64 := by
      rcases Nat.lt_or_ge j 64 with g | g
      · exact g
      · unfold bitO at h
        rw [decide_eq_false (show ¬ j < 64 by omega)] at h
        simp at h
    obtain ⟨o1, o2, o3⟩ := fr_or hx0 hx1 hj (by omega)
    rw [shl_one (by omega)] at o1
    refine ⟨⟨hj, ha, hb⟩, ?_, rfl, (bitO_next hj).symm, ?_⟩
    · show 64 - (j + 1) < 64 - j; omega
    · unfold fl_s1 fl_s0
      rw [bitO_lt hj, o1, mul64_hi _ _ ⟨o2, o3⟩ ⟨o2, o3⟩, mul64_lo]
      have hc := wcomp_eq ((fr 64 (a * 18446744073709551616 + b) j + 2 ^ (64 - 1 - j)) * (fr 64 (a * 18446744073709551616 + b) j + 2 ^ (64 - 1 - j))) (a * 18446744073709551616 + b) (Int.mul_nonneg o2 o2) hx0
      rw [ex1, ex2] at hc
      rw [hc, cmpI_le]
      rfl
  · intro h
    have hj : j = 64 := by
      rcases Nat.lt_or_ge j 64 with g | g
      · exfalso
        rw [bitO_lt g] at h
        have := two_pos (64 - 1 - j)
        rw [decide_eq_false_iff_not] at h
        omega
      · omega
    rw [hj]; rfl
noncomputable def eBlk2 (env : Env) (mem : Mem) (t : Nat) : Option (Int × Int) := match SX.look env t with
  | some ⟨_, _, _, .one (.ptr id 0)⟩ => (match mInts mem id with
    | some [x, y] => some (x, y)
    | _ => none)
  | _ => none
noncomputable def flL : LoopS := fun env mem m => match eBlk2 env mem 1 with
  | some (a, b) => famS (flF a b) 7 (fun _ _ => some 0) env mem m
  | none => none
noncomputable def L_fl : FuncId → Nat → Option LoopS := addL L_d2 178 3 flL
theorem known_flL : Known Tryz.prog (sums K_div64) L_fl := by
  refine known_addL 0 known_div64 (by kernel_rfl) (codeOk_of fun env mem m x h => ?_)
  unfold flL at h
  have hlen : (loopList Tryz.prog 178).length = 1 := by kernel_rfl
  split at h
  · exact ⟨_, fam_ok (bodyOf_ok plainN known_div64 (by omega)) (fl_rounds _ _), h⟩
  · cases h
noncomputable def floorRoot_tpl : Tpl := ⟨[.agg [.int .u64, .int .u64]], [], 0⟩
noncomputable def floorRoot_0 (a : Int) (b : Int) : Int :=
  fr 64 (a * 18446744073709551616 + b) 64
noncomputable def floorRoot_needs (a : Int) (b : Int) : List Prop :=
  [0 ≤ 64 ∧ (0 ≤ a ∧ a < 18446744073709551616) ∧ 0 ≤ b ∧ b < 18446744073709551616, Int.ofNat 9223372036854775808 = 9223372036854775808, fr 64 (a * 18446744073709551616 + b) 0 = 0]
theorem floorRoot_weak {a : Int} {b : Int} (hW : ∀ q ∈ ([u64 a, u64 b] : List Prop), q) : ∀ q ∈ (floorRoot_needs a b), q := by
  simp only [List.mem_cons, List.not_mem_nil, or_false, forall_eq_or_imp, forall_eq] at hW
  unfold floorRoot_needs
  simp only [List.forall_mem_cons, List.not_mem_nil, false_implies, implies_true, and_true]
  exact ⟨⟨by omega, hW.1, hW.2⟩, rfl, rfl⟩
set_option maxRecDepth 1000000 in
theorem floorRoot_runs (a b : Int) (hNeeds : ∀ pN ∈ (floorRoot_needs a b), pN) : Runs (runF (sums K_div64) L_fl 178) (floorRoot_tpl.args [.i a, .i b]) (floorRoot_tpl.memo [.i a, .i b] []) floorRoot_tpl.n (SV.one (SC.int IntKind.u64 (SI.v (floorRoot_0 a b))))
    ([]) :=
  Runs.of1 (ps := (floorRoot_needs a b)) (by kernel_rfl) hNeeds
noncomputable def floorRoot_out : List Pm → Lss → Option CRes
  | [.i a, .i b], [] => some ⟨SV.one (SC.int IntKind.u64 (SI.v (floorRoot_0 a b))),
    [],
    [u64 a, u64 b], [], 29⟩
  | _, _ => none
theorem floorRoot_ok : FOk Tryz.prog 178 (tplS floorRoot_tpl floorRoot_out) := by
  refine tplS_ok (runF_ok known_flL 178) fun ps ls r hr hn _ => ?_
  unfold floorRoot_out at hr
  split at hr
  · cases hr; exact ⟨_, floorRoot_runs _ _ (floorRoot_weak (by exact hn)), fun _ => rfl⟩
  · cases hr
noncomputable def K_floorRoot : List (Nat × Summ) := (178, tplS floorRoot_tpl floorRoot_out) :: K_div64
theorem known_floorRoot : Known Tryz.prog (sums K_floorRoot) L_fl := known_cons known_flL floorRoot_ok
theorem fl_law {a b : Int} (ha : u64 a) (hb : u64 b) : 0 ≤ floorRoot_0 a b ∧ floorRoot_0 a b * floorRoot_0 a b ≤ a * 18446744073709551616 + b ∧ a * 18446744073709551616 + b < (floorRoot_0 a b + 1) * (floorRoot_0 a b + 1) ∧ floorRoot_0 a b < 18446744073709551616 := by
  obtain ⟨x, y, z, w⟩ := fr_all (T := 64) (x := a * 18446744073709551616 + b) (by omega) (by rw [big_lt]; omega)
  have e : (2 : Int) ^ 64 = 18446744073709551616 := rfl
  exact ⟨x, y, z, by show fr 64 _ 64 < _; omega⟩
theorem u64_mod (x : Int) : u64 (x % 18446744073709551616) := by omega
theorem m1_u64 (x y : Int) : u64 (mul64_1 x y) := by rw [mul64_lo]; exact u64_mod _
theorem m0_u64 {x y : Int} (hx : u64 x) (hy : u64 y) : u64 (mul64_0 x y) := by
  rw [mul64_hi _ _ hx hy]
  obtain ⟨h1, h2⟩ := prod_lt 18446744073709551615 18446744073709551615 (x := x) (y := y) ⟨hx.1, by omega⟩ ⟨hy.1, by omega⟩ (by omega)
  omega
theorem wu_u64 (x : Int) : u64 (IntKind.u64.wrap x) := by rw [wrU_mod]; exact u64_mod _
theorem s64b_rng (x y z : Int) : 0 ≤ sub64b x y z ∧ sub64b x y z ≤ 1 := by unfold sub64b; split <;> decide
noncomputable def wroot_tpl : Tpl := ⟨[.agg [.int .u64, .int .u64], .one (.int .i64)], [], 0⟩
noncomputable def wroot_s0 (a : Int) (b : Int) : Int :=
  sub64v a (mul64_0 (floorRoot_0 a b) (floorRoot_0 a b)) (sub64b b (mul64_1 (floorRoot_0 a b) (floorRoot_0 a b)) 0)
noncomputable def wroot_s1 (a : Int) (b : Int) (m : Int) : Int :=
  bif
   m == 1 && (decide (wroot_s0 a b > 0) || decide (sub64v b (mul64_1 (floorRoot_0 a b) (floorRoot_0 a b)) 0 > 0)) ||
   m == 2 && (decide (wroot_s0 a b > 0) || decide (sub64v b (mul64_1 (floorRoot_0 a b) (floorRoot_0 a b)) 0 > floorRoot_0 a b)) then
   IntKind.u64.wrap (floorRoot_0 a b + 1)
  else floorRoot_0 a b
noncomputable def wroot_0 (a : Int) (b : Int) (m : Int) : Int :=
  bif decide (wroot_s1 a b m < 9223372036854775808) then IntKind.i64.wrap (wroot_s1 a b m) else 0
noncomputable def wroot_1 (a : Int) (b : Int) (m : Int) : Bool :=
  decide (wroot_s1 a b m < 9223372036854775808)
noncomputable def wroot_needs (a : Int) (b : Int) : List Prop :=
  [0 ≤ a ∧ a < 18446744073709551616, 0 ≤ b ∧ b < 18446744073709551616, 0 ≤ b, 0 ≤ mul64_1 (floorRoot_0 a b) (floorRoot_0 a b), Int.ofNat 0 ≤ 0 ∧ Int.ofNat 0 ≤ 1, 0 ≤ a,
   0 ≤ mul64_0 (floorRoot_0 a b) (floorRoot_0 a b), 0 ≤ sub64b b (mul64_1 (floorRoot_0 a b) (floorRoot_0 a b)) 0 ∧ sub64b b (mul64_1 (floorRoot_0 a b) (floorRoot_0 a b)) 0 ≤ 1]
theorem wroot_weak {a : Int} {b : Int} (hW : ∀ q ∈ ([u64 a, u64 b] : List Prop), q) : ∀ q ∈ (wroot_needs a b), q := by
  simp only [List.mem_cons, List.not_mem_nil, or_false, forall_eq_or_imp, forall_eq] at hW
  unfold wroot_needs
  simp only [List.forall_mem_cons, List.not_mem_nil, false_implies, implies_true, and_true]
  obtain ⟨ha, hb⟩ := hW
  have hf := fl_law ha hb
  have m1 := m1_u64 (floorRoot_0 a b) (floorRoot_0 a b)
  have m0 := m0_u64 (x := floorRoot_0 a b) (y := floorRoot_0 a b) ⟨hf.1, hf.2.2.2⟩ ⟨hf.1, hf.2.2.2⟩
  exact ⟨ha, hb, hb.1, m1.1, by decide, ha.1, m0.1, s64b_rng _ _ _⟩
set_option maxRecDepth 1000000 in
theorem wroot_runs (a b m : Int) (hNeeds : ∀ pN ∈ (wroot_needs a b), pN) : Runs (runF (sums K_floorRoot) L_fl 191) (wroot_tpl.args [.i a, .i b, .i m]) (wroot_tpl.memo [.i a, .i b, .i m] []) wroot_tpl.n (SV.tup [(false, [SC.int IntKind.i64 (SI.v (wroot_0 a b m))]), (false, [SC.bool (SB.v (wroot_1 a b m))])])
    ([]) :=
  Runs.of1 (ps := (wroot_needs a b)) (by kernel_rfl) hNeeds
noncomputable def wroot_out : List Pm → Lss → Option CRes
  | [.i a, .i b, .i m], [] => some ⟨SV.tup [(false, [SC.int IntKind.i64 (SI.v (wroot_0 a b m))]), (false, [SC.bool (SB.v (wroot_1 a b m))])],
    [],
    [u64 a, u64 b], [], 169⟩
  | _, _ => none
theorem wroot_ok : FOk Tryz.prog 191 (tplS wroot_tpl wroot_out) := by
  refine tplS_ok (runF_ok known_floorRoot 191) fun ps ls r hr hn _ => ?_
  unfold wroot_out at hr
  split at hr
  · cases hr; exact ⟨_, wroot_runs _ _ _ (wroot_weak (by exact hn)), fun _ => rfl⟩
  · cases hr
noncomputable def K_wroot : List (Nat × Summ) := (191, tplS wroot_tpl wroot_out) :: K_floorRoot
theorem known_wroot : Known Tryz.prog (sums K_wroot) L_fl := known_cons known_floorRoot wroot_ok
noncomputable def wSqrt_tpl : Tpl := ⟨[.one (.int .i64), .one (.int .i64)], [], 0⟩
noncomputable def wSqrt_0 (n : Int) (m : Int) : Int :=
  bif decide (n < 0) || !(m == 0 || m == 1 || m == 2) then 0 else wroot_0 0 (IntKind.u64.wrap n) m
noncomputable def wSqrt_1 (n : Int) (m : Int) : Bool :=
  bif decide (n < 0) || !(m == 0 || m == 1 || m == 2) then false else wroot_1 0 (IntKind.u64.wrap n) m
noncomputable def wSqrt_needs (n : Int) (m : Int) : List Prop :=
  [(decide (n < 0) || !(m == 0 || m == 1 || m == 2)) = false → (Int.ofNat 0 ≤ 0 ∧ Int.ofNat 0 < 18446744073709551616) ∧ 0 ≤ IntKind.u64.wrap n ∧ IntKind.u64.wrap n < 18446744073709551616]
theorem wSqrt_weak {n : Int} {m : Int} (hW : ∀ q ∈ ([isI n] : List Prop), q) : ∀ q ∈ (wSqrt_needs n m), q := by
  simp only [List.mem_cons, List.not_mem_nil, or_false, forall_eq_or_imp, forall_eq] at hW
  unfold wSqrt_needs
  simp only [List.forall_mem_cons, List.not_mem_nil, false_implies, implies_true, and_true]
  intro _
  have := wu_u64 n
  exact ⟨by decide, this.1, this.2⟩
set_option maxRecDepth 1000000 in
theorem wSqrt_runs (n m : Int) (hNeeds : ∀ pN ∈ (wSqrt_needs n m), pN) : Runs (runF (sums K_wroot) L_fl 184) (wSqrt_tpl.args [.i n, .i m]) (wSqrt_tpl.memo [.i n, .i m] []) wSqrt_tpl.n (SV.tup [(false, [SC.int IntKind.i64 (SI.v (wSqrt_0 n m))]), (false, [SC.bool (SB.v (wSqrt_1 n m))])])
    ([]) :=
  Runs.of1 (ps := (wSqrt_needs n m)) (by kernel_rfl) hNeeds
noncomputable def wSqrt_out : List Pm → Lss → Option CRes
  | [.i n, .i m], [] => some ⟨SV.tup [(false, [SC.int IntKind.i64 (SI.v (wSqrt_0 n m))]), (false, [SC.bool (SB.v (wSqrt_1 n m))])],
    [],
    [isI n], [], 201⟩
  | _, _ => none
theorem wSqrt_ok : FOk Tryz.prog 184 (tplS wSqrt_tpl wSqrt_out) := by
  refine tplS_ok (runF_ok known_wroot 184) fun ps ls r hr hn _ => ?_
  unfold wSqrt_out at hr
  split at hr
  · cases hr; exact ⟨_, wSqrt_runs _ _ (wSqrt_weak (by exact hn)), fun _ => rfl⟩
  · cases hr
noncomputable def K_wSqrt : List (Nat × Summ) := (184, tplS wSqrt_tpl wSqrt_out) :: K_wroot
theorem known_wSqrt : Known Tryz.prog (sums K_wSqrt) L_fl := known_cons known_wroot wSqrt_ok
noncomputable def quot_tpl : Tpl := ⟨[.agg [.int .u64, .int .u64], .one (.int .u64)], [], 0⟩
noncomputable def quot_0 (a : Int) (b : Int) (c : Int) : Bool :=
  decide (div64_1 (div64_1 0 a c) b c > 0)
noncomputable def quot_needs (a : Int) (b : Int) (c : Int) : List Prop :=
  [Int.ofNat 0 ≤ 0, 0 < c, 0 ≤ a, a < 18446744073709551616, c < 18446744073709551616, 0 ≤ div64_1 0 a c, div64_1 0 a c < c, 0 ≤ b, b < 18446744073709551616, c < 18446744073709551616]
theorem quot_weak {a : Int} {b : Int} {c : Int} (hW : ∀ q ∈ ([u64 a, u64 b, 0 < c, c < 18446744073709551616] : List Prop), q) : ∀ q ∈ (quot_needs a b c), q := by
  simp only [List.mem_cons, List.not_mem_nil, or_false, forall_eq_or_imp, forall_eq] at hW
  unfold quot_needs
  simp only [List.forall_mem_cons, List.not_mem_nil, false_implies, implies_true, and_true]
  obtain ⟨ha, hb, hc, hc'⟩ := hW
  have hd := (div64_law (a := 0) (b := a) (c := c) (by omega) hc ha.1 ha.2 hc').2
  have m3 := Int.emod_nonneg (0 * 18446744073709551616 + a) (show c ≠ 0 by omega)
  have m4 := Int.emod_lt_of_pos (0 * 18446744073709551616 + a) hc
  rw [← hd] at m3 m4
  exact ⟨by decide, hc, ha.1, ha.2, hc', m3, m4, hb.1, hb.2, hc'⟩
set_option maxRecDepth 1000000 in
theorem quot_runs (a b c : Int) (hNeeds : ∀ pN ∈ (quot_needs a b c), pN) : Runs (runF (sums K_wSqrt) L_fl 177) (quot_tpl.args [.i a, .i b, .i c]) (quot_tpl.memo [.i a, .i b, .i c] []) quot_tpl.n (SV.tup [(true, [SC.int IntKind.u64 (SI.v (div64_0 0 a c)), SC.int IntKind.u64 (SI.v (div64_0 (div64_1 0 a c) b c))]), (false, [SC.bool (SB.v (quot_0 a b c))])])
    ([]) :=
  Runs.of1 (ps := (quot_needs a b c)) (by kernel_rfl) hNeeds
noncomputable def quot_out : List Pm → Lss → Option CRes
  | [.i a, .i b, .i c], [] => some ⟨SV.tup [(true, [SC.int IntKind.u64 (SI.v (div64_0 0 a c)), SC.int IntKind.u64 (SI.v (div64_0 (div64_1 0 a c) b c))]), (false, [SC.bool (SB.v (quot_0 a b c))])],
    [],
    [u64 a, u64 b, 0 < c, c < 18446744073709551616], [], 389⟩
  | _, _ => none
theorem quot_ok : FOk Tryz.prog 177 (tplS quot_tpl quot_out) := by
  refine tplS_ok (runF_ok known_wSqrt 177) fun ps ls r hr hn _ => ?_
  unfold quot_out at hr
  split at hr
  · cases hr; exact ⟨_, quot_runs _ _ _ (quot_weak (by exact hn)), fun _ => rfl⟩
  · cases hr
noncomputable def K_quot : List (Nat × Summ) := (177, tplS quot_tpl quot_out) :: K_wSqrt
theorem known_quot : Known Tryz.prog (sums K_quot) L_fl := known_cons known_wSqrt quot_ok
noncomputable def grows_tpl : Tpl := ⟨[.one (.int .i64), .one (.int .i64), .one (.bool), .one (.bool)], [], 0⟩
noncomputable def grows_0 (m : Int) (n : Int) (p : Bool) (q : Bool) : Bool :=
  bif m == 0 then p && q else bif m == 1 then p && !q else decide (n > 0) || n == 0 && !q
set_option maxRecDepth 1000000 in
theorem grows_runs (m n : Int) (p q : Bool) : Runs (runF (sums K_quot) L_fl 179) (grows_tpl.args [.i m, .i n, .b p, .b q]) (grows_tpl.memo [.i m, .i n, .b p, .b q] []) grows_tpl.n (SV.one (SC.bool (SB.v (grows_0 m n p q))))
    ([]) :=
  Runs.of1 (ps := []) (by kernel_rfl) (by simp)
noncomputable def grows_out : List Pm → Lss → Option CRes
  | [.i m, .i n, .b p, .b q], [] => some ⟨SV.one (SC.bool (SB.v (grows_0 m n p q))),
    [],
    [], [], 28⟩
  | _, _ => none
theorem grows_ok : FOk Tryz.prog 179 (tplS grows_tpl grows_out) := by
  refine tplS_ok (runF_ok known_quot 179) fun ps ls r hr hn _ => ?_
  unfold grows_out at hr
  split at hr
  · cases hr; exact ⟨_, grows_runs _ _ _ _, fun _ => rfl⟩
  · cases hr
noncomputable def K_grows : List (Nat × Summ) := (179, tplS grows_tpl grows_out) :: K_quot
theorem known_grows : Known Tryz.prog (sums K_grows) L_fl := known_cons known_quot grows_ok
noncomputable def signed_tpl : Tpl := ⟨[.one (.int .u64), .one (.bool)], [], 0⟩
noncomputable def signed_0 (n : Int) (p : Bool) : Int :=
  bif p && decide (n ≤ 9223372036854775808) then IntKind.i64.wrap (IntKind.u64.wrap (0 - n)) else bif !p && decide (n < 9223372036854775808) then IntKind.i64.wrap n else 0
noncomputable def signed_1 (n : Int) (p : Bool) : Bool :=
  p && decide (n ≤ 9223372036854775808) || !p && decide (n < 9223372036854775808)
set_option maxRecDepth 1000000 in
theorem signed_runs (n : Int) (p : Bool) : Runs (runF (sums K_grows) L_fl 180) (signed_tpl.args [.i n, .b p]) (signed_tpl.memo [.i n, .b p] []) signed_tpl.n (SV.tup [(false, [SC.int IntKind.i64 (SI.v (signed_0 n p))]), (false, [SC.bool (SB.v (signed_1 n p))])])
    ([]) :=
  Runs.of1 (ps := []) (by kernel_rfl) (by simp)
noncomputable def signed_out : List Pm → Lss → Option CRes
  | [.i n, .b p], [] => some ⟨SV.tup [(false, [SC.int IntKind.i64 (SI.v (signed_0 n p))]), (false, [SC.bool (SB.v (signed_1 n p))])],
    [],
    [], [], 26⟩
  | _, _ => none
theorem signed_ok : FOk Tryz.prog 180 (tplS signed_tpl signed_out) := by
  refine tplS_ok (runF_ok known_grows 180) fun ps ls r hr hn _ => ?_
  unfold signed_out at hr
  split at hr
  · cases hr; exact ⟨_, signed_runs _ _, fun _ => rfl⟩
  · cases hr
noncomputable def K_signed : List (Nat × Summ) := (180, tplS signed_tpl signed_out) :: K_grows
theorem known_signed : Known Tryz.prog (sums K_signed) L_fl := known_cons known_grows signed_ok
/-- The quotient of two halves by one. -/
theorem quot_law {a b c : Int} (ha : u64 a) (hb : u64 b) (hc : 0 < c) (hc' : c < 18446744073709551616) :
    u64 (div64_0 0 a c) ∧ u64 (div64_0 (div64_1 0 a c) b c) ∧ div64_0 0 a c * 18446744073709551616 + div64_0 (div64_1 0 a c) b c = (a * 18446744073709551616 + b) / c ∧ quot_0 a b c = decide (0 < (a * 18446744073709551616 + b) % c) := by
  obtain ⟨e0, e1⟩ := div64_law (a := 0) (b := a) (c := c) (by omega) hc ha.1 ha.2 hc'
  have m3 := Int.emod_nonneg (0 * 18446744073709551616 + a) (show c ≠ 0 by omega)
  have m4 := Int.emod_lt_of_pos (0 * 18446744073709551616 + a) hc
  have dm := Int.mul_ediv_add_emod (0 * 18446744073709551616 + a) c
  have q0 := Int.ediv_nonneg (show 0 ≤ 0 * 18446744073709551616 + a by omega) (show 0 ≤ c by omega)
  have q1 := Int.ediv_le_self c (show 0 ≤ 0 * 18446744073709551616 + a by omega)
  rw [← e1] at m3 m4 dm
  rw [← e0] at dm q0 q1
  obtain ⟨f0, f1⟩ := div64_law (a := div64_1 0 a c) (b := b) (c := c) m3 m4 hb.1 hb.2 hc'
  have hr : 0 ≤ (div64_1 0 a c * 18446744073709551616 + b) / c ∧ (div64_1 0 a c * 18446744073709551616 + b) / c < 18446744073709551616 := by
    refine ⟨Int.ediv_nonneg (by omega) (by omega), Int.ediv_lt_of_lt_mul hc ?_⟩
    have := Int.mul_le_mul_of_nonneg_right (show div64_1 0 a c + 1 ≤ c by omega) (show (0 : Int) ≤ 18446744073709551616 by omega)
    have e : 18446744073709551616 * c = c * 18446744073709551616 := Int.mul_comm _ _
    rw [e]
    omega
  have ex : a * 18446744073709551616 + b = (div64_1 0 a c * 18446744073709551616 + b) + c * (div64_0 0 a c * 18446744073709551616) := by
    have e : c * (div64_0 0 a c * 18446744073709551616) = c * div64_0 0 a c * 18446744073709551616 := by rw [Int.mul_assoc]
    rw [e]
    omega
  refine ⟨⟨q0, by omega⟩, by rw [f0]; exact hr, ?_, ?_⟩
  · rw [ex, Int.add_mul_ediv_left _ _ (show c ≠ 0 by omega), f0]
    omega
  · unfold quot_0
    rw [f1, ex, Int.add_mul_emod_self_left]
noncomputable def wOver_tpl : Tpl := ⟨[.one (.int .i64), .one (.int .i64), .one (.int .i64), .one (.int .i64)], [], 0⟩
noncomputable def wOver_s0 (a : Int) (b : Int) : Int :=
  IntKind.u64.wrap (2 * IntKind.u64.wrap (wsize_0 a * wsize_0 b))
noncomputable def wOver_s1 (a : Int) (b : Int) (n : Int) : Int :=
  div64_0 (div64_1 0 (mul64_0 (wOver_s0 a b) (wOver_s0 a b)) (IntKind.u64.wrap n)) (mul64_1 (wOver_s0 a b) (wOver_s0 a b)) (IntKind.u64.wrap n)
noncomputable def wOver_s2 (a : Int) (b : Int) (n : Int) : Int :=
  floorRoot_0 (div64_0 0 (mul64_0 (wOver_s0 a b) (wOver_s0 a b)) (IntKind.u64.wrap n)) (wOver_s1 a b n)
noncomputable def wOver_s3 (a : Int) (b : Int) (n : Int) : Bool :=
  (wOver_s2 a b n).tmod 2 == 1
noncomputable def wOver_s4 (a : Int) (b : Int) (n : Int) : Bool :=
  quot_0 (mul64_0 (wOver_s0 a b) (wOver_s0 a b)) (mul64_1 (wOver_s0 a b) (wOver_s0 a b)) (IntKind.u64.wrap n) ||
   !(mul64_0 (wOver_s2 a b n) (wOver_s2 a b n) == div64_0 0 (mul64_0 (wOver_s0 a b) (wOver_s0 a b)) (IntKind.u64.wrap n) && mul64_1 (wOver_s2 a b n) (wOver_s2 a b n) == wOver_s1 a b n)
noncomputable def wOver_s5 (a : Int) (b : Int) : Bool :=
  decide (wsign_0 a b < 0)
noncomputable def wOver_0 (a : Int) (b : Int) (n : Int) (m : Int) : Int :=
  bif decide (wsize_0 a > 2147483648) || decide (wsize_0 b > 2147483648) || decide (n < 1) || decide (n > 4611686018427387904) || !(m == 0 || m == 1 || m == 2) then 0
  else
   signed_0
   (bif grows_0 m (bif wOver_s3 a b n then bif wOver_s4 a b n then 1 else 0 else -1) (wOver_s4 a b n || wOver_s3 a b n) (wOver_s5 a b) then
   IntKind.u64.wrap (IntKind.u64.wrap ((wOver_s2 a b n).tdiv 2) + 1)
   else IntKind.u64.wrap ((wOver_s2 a b n).tdiv 2))
   (wOver_s5 a b)
noncomputable def wOver_1 (a : Int) (b : Int) (n : Int) (m : Int) : Bool :=
  bif decide (wsize_0 a > 2147483648) || decide (wsize_0 b > 2147483648) || decide (n < 1) || decide (n > 4611686018427387904) || !(m == 0 || m == 1 || m == 2) then false
  else
   signed_1
   (bif grows_0 m (bif wOver_s3 a b n then bif wOver_s4 a b n then 1 else 0 else -1) (wOver_s4 a b n || wOver_s3 a b n) (wOver_s5 a b) then
   IntKind.u64.wrap (IntKind.u64.wrap ((wOver_s2 a b n).tdiv 2) + 1)
   else IntKind.u64.wrap ((wOver_s2 a b n).tdiv 2))
   (wOver_s5 a b)
noncomputable def wOver_needs (a : Int) (b : Int) (n : Int) (m : Int) : List Prop :=
  [(decide (wsize_0 a > 2147483648) || decide (wsize_0 b > 2147483648) || decide (n < 1) || decide (n > 4611686018427387904) || !(m == 0 || m == 1 || m == 2)) = false →
   (0 ≤ mul64_0 (wOver_s0 a b) (wOver_s0 a b) ∧ mul64_0 (wOver_s0 a b) (wOver_s0 a b) < 18446744073709551616) ∧
   (0 ≤ mul64_1 (wOver_s0 a b) (wOver_s0 a b) ∧ mul64_1 (wOver_s0 a b) (wOver_s0 a b) < 18446744073709551616) ∧
   0 < IntKind.u64.wrap n ∧
   IntKind.u64.wrap n < 18446744073709551616 ∧
   (0 ≤ div64_0 0 (mul64_0 (wOver_s0 a b) (wOver_s0 a b)) (IntKind.u64.wrap n) ∧ div64_0 0 (mul64_0 (wOver_s0 a b) (wOver_s0 a b)) (IntKind.u64.wrap n) < 18446744073709551616) ∧
   0 ≤ wOver_s1 a b n ∧ wOver_s1 a b n < 18446744073709551616]
theorem wOver_weak {a : Int} {b : Int} {n : Int} {m : Int} (hW : ∀ q ∈ ([isI a, isI b, isI n] : List Prop), q) : ∀ q ∈ (wOver_needs a b n m), q := by
  simp only [List.mem_cons, List.not_mem_nil, or_false, forall_eq_or_imp, forall_eq] at hW
  unfold wOver_needs
  simp only [List.forall_mem_cons, List.not_mem_nil, false_implies, implies_true, and_true]
  obtain ⟨ha, hb, hn⟩ := hW
  intro h
  simp only [Bool.or_eq_false_iff, decide_eq_false_iff_not] at h
  have s0 : u64 (wOver_s0 a b) := wu_u64 _
  have h0 := m0_u64 s0 s0
  have h1 := m1_u64 (wOver_s0 a b) (wOver_s0 a b)
  have ew : IntKind.u64.wrap n = n := wrU (by omega) (by omega)
  have hq := quot_law h0 h1 (c := n) (by omega) (by omega)
  rw [ew]
  unfold wOver_s1
  rw [ew]
  exact ⟨h0, h1, by omega, by omega, hq.1, hq.2.1.1, hq.2.1.2⟩
set_option maxRecDepth 1000000 in
theorem wOver_runs (a b n m : Int) (hNeeds : ∀ pN ∈ (wOver_needs a b n m), pN) : Runs (runF (sums K_signed) L_fl 159) (wOver_tpl.args [.i a, .i b, .i n, .i m]) (wOver_tpl.memo [.i a, .i b, .i n, .i m] []) wOver_tpl.n (SV.tup [(false, [SC.int IntKind.i64 (SI.v (wOver_0 a b n m))]), (false, [SC.bool (SB.v (wOver_1 a b n m))])])
    ([]) :=
  Runs.of1 (ps := (wOver_needs a b n m)) (by kernel_rfl) hNeeds
noncomputable def wOver_out : List Pm → Lss → Option CRes
  | [.i a, .i b, .i n, .i m], [] => some ⟨SV.tup [(false, [SC.int IntKind.i64 (SI.v (wOver_0 a b n m))]), (false, [SC.bool (SB.v (wOver_1 a b n m))])],
    [],
    [isI a, isI b, isI n], [], 785⟩
  | _, _ => none
theorem wOver_ok : FOk Tryz.prog 159 (tplS wOver_tpl wOver_out) := by
  refine tplS_ok (runF_ok known_signed 159) fun ps ls r hr hn _ => ?_
  unfold wOver_out at hr
  split at hr
  · cases hr; exact ⟨_, wOver_runs _ _ _ _ (wOver_weak (by exact hn)), fun _ => rfl⟩
  · cases hr
noncomputable def K_wOver : List (Nat × Summ) := (159, tplS wOver_tpl wOver_out) :: K_signed
theorem known_wOver : Known Tryz.prog (sums K_wOver) L_fl := known_cons known_signed wOver_ok
end Go.Proofs.YthgiaoidekdpfaaGreat
