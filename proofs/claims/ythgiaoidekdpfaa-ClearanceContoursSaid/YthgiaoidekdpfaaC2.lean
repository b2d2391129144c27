/-
  REF01: the product of two lists of digits; Cmp. Conditions: none.
-/
import Derived.Test.YthgiaoidekdpfaaC1
set_option linter.all false
namespace Go.Proofs.Ythgiaoidekdpfaa
open Go.SX Go.RowKit
noncomputable def inF (A B O : Dg) (i : Nat) : Fam Nat Unit where
  k := 20
  E k := [(8, ent 1000000000 (.one (I (Int.ofNat k)))), (7, ent 1000000001 (.one (U (inn (dg A i) B O i k).2))), (6, ent 1000000002 (.one (I (Int.ofNat i)))), (5, ent 1000000003 (.one (.wh 42))), (0, ent 0 (.one (.wh 0))), (1, ent 2 (.one (.wh 1)))]
  M k := rowU 42 1000000004 (inn (dg A i) B O i k).1 :: cmpM A B
  out _ := .leaf (.exit 2) [(7, ent 45 (.one (U (inn (dg A i) B O i B.length).2))), (6, ent 46 (.one (I (Int.ofNat i)))), (5, ent 47 (.one (.wh 42))), (0, ent 0 (.one (.wh 0))), (1, ent 2 (.one (.wh 1)))] (rowU 42 48 (inn (dg A i) B O i B.length).1 :: cmpM A B)
  fin _ := ()
  next k _ := k + 1
  J k := k ≤ B.length ∧ i < A.length ∧ rng A ∧ rng B ∧ rng O ∧ O.length = A.length + B.length ∧ A.length + B.length ≤ 1000000
  μ k := B.length - k
noncomputable def inr_s0 (B : Dg) (k : Nat) : Prop :=
  decide (Int.ofNat k < Int.ofNat (List.length B)) = true
noncomputable def inr_s1 (A : Dg) (B : Dg) (O : Dg) (i : Nat) (k : Nat) : Prop :=
  (IntKind.i64.wrap (Int.ofNat i + Int.ofNat k)).toNat < List.length (inn (dg A i) B O i k).fst
noncomputable def inr_s2 (A : Dg) (B : Dg) (O : Dg) (i : Nat) (k : Nat) : List Int :=
  List.getD (inn (dg A i) B O i k).fst (IntKind.i64.wrap (Int.ofNat i + Int.ofNat k)).toNat []
noncomputable def inr_s3 (A : Dg) (B : Dg) (O : Dg) (i : Nat) (k : Nat) : Int :=
  IntKind.u64.wrap
   (IntKind.u64.wrap ((inr_s2 A B O i k).getD 0 0 + IntKind.u64.wrap ((List.getD A (Int.ofNat i).toNat []).getD 0 0 * (List.getD B (Int.ofNat k).toNat []).getD 0 0)) + (inn (dg A i) B O i k).snd)
noncomputable def inr_needs (A : Dg) (B : Dg) (O : Dg) (i : Nat) (k : Nat) : List Prop :=
  [inr_s0 B k →
     0 ≤ IntKind.i64.wrap (Int.ofNat i + Int.ofNat k) ∧
     inr_s1 A B O i k ∧
     inr_s1 A B O i k ∧
     0 ≤ Int.ofNat i ∧
     (Int.ofNat i).toNat < List.length A ∧
     (Int.ofNat i).toNat < List.length A ∧
     0 ≤ Int.ofNat k ∧ (Int.ofNat k).toNat < List.length B ∧ (Int.ofNat k).toNat < List.length B ∧ 0 ≤ IntKind.i64.wrap (Int.ofNat i + Int.ofNat k) ∧ inr_s1 A B O i k ∧ inr_s1 A B O i k,
    inr_s0 B k →
     ((inF A B O i).next k 0 ≤ List.length B ∧
     i < List.length A ∧
     (∀ (i : Nat), 0 ≤ dg A i ∧ dg A i < 65536) ∧
     (∀ (i : Nat), 0 ≤ dg B i ∧ dg B i < 65536) ∧ (∀ (i : Nat), 0 ≤ dg O i ∧ dg O i < 65536) ∧ List.length O = List.length A + List.length B ∧ List.length A + List.length B ≤ 1000000) ∧
     (inF A B O i).μ ((inF A B O i).next k 0) < (inF A B O i).μ k ∧
     (inF A B O i).fin ((inF A B O i).next k 0) = (inF A B O i).fin k ∧
     Int.ofNat ((inF A B O i).next k 0) = IntKind.i64.wrap (Int.ofNat k + 1) ∧
     (inn (dg A i) B O i ((inF A B O i).next k 0)).snd = ishift BinOp.shr IntKind.u64 (inr_s3 A B O i k) 16 ∧
     Int.ofNat i = Int.ofNat i ∧
     (inn (dg A i) B O i ((inF A B O i).next k 0)).fst =
     List.set (inn (dg A i) B O i k).fst (IntKind.i64.wrap (Int.ofNat i + Int.ofNat k)).toNat (overF 1 0 0 [ibits BinOp.and IntKind.u64 (inr_s3 A B O i k) 65535] (inr_s2 A B O i k)),
    decide (Int.ofNat k < Int.ofNat (List.length B)) = false →
     (inn (dg A i) B O i (List.length B)).snd = (inn (dg A i) B O i k).snd ∧ Int.ofNat i = Int.ofNat i ∧ (inn (dg A i) B O i (List.length B)).fst = (inn (dg A i) B O i k).fst]
theorem inr_round (A B O : Dg) (i k : Nat) (hNeeds : ∀ pN ∈ (inr_needs A B O i k), pN) : RoundOk (roundC (inF A B O i) (bodyOf Try.prog (sums K_cmpP) L_cmp 101 1) 41 k) :=
  RoundOk.of (ps := (inr_needs A B O i k)) (by kernel_rfl) (by kernel_rfl) hNeeds
theorem inr_rounds (A B O : Dg) (i : Nat) : RoundsOk (inF A B O i) (bodyOf Try.prog (sums K_cmpP) L_cmp 101 1) 41 := by
  intro k hJ
  have hJ' := hJ
  obtain ⟨h1, h2, hA, hB, hO, h3, h4⟩ : k ≤ B.length ∧ i < A.length ∧ rng A ∧ rng B ∧ rng O ∧ O.length = A.length + B.length ∧ A.length + B.length ≤ 1000000 := hJ
  have hl : List.length (inn (dg A i) B O i k).fst = A.length + B.length := by rw [inn_len, h3]
  refine inr_round A B O i k fun q hq => ?_
  unfold inr_needs at hq
  simp only [List.mem_cons, List.not_mem_nil, or_false] at hq
  have ew : IntKind.i64.wrap (Int.ofNat i + Int.ofNat k) = Int.ofNat (i + k) := by rw [wrI (by simp; omega) (by simp; omega)]; simp
  have ew2 : (IntKind.i64.wrap (Int.ofNat i + Int.ofNat k)).toNat = i + k := by rw [ew]; rfl
  have es : inr_s0 B k → k < B.length := fun h => by simpa [inr_s0] using h
  have e2 : inr_s2 A B O i k = (inn (dg A i) B O i k).1.getD (i + k) [] := by unfold inr_s2; rw [ew2]
  rcases hq with rfl | rfl | rfl
  · intro h
    have hk := es h
    have e1 : inr_s1 A B O i k := by unfold inr_s1; rw [ew2, hl]; omega
    have e0 : 0 ≤ IntKind.i64.wrap (Int.ofNat i + Int.ofNat k) := by rw [ew]; exact Int.natCast_nonneg _
    exact ⟨e0, e1, e1, by simp, h2, h2, by simp, hk, hk, e0, e1, e1⟩
  · intro h
    have hk := es h
    obtain ⟨hr, hc⟩ := inn_rng (i := i) (hA i) hB hO k (by omega)
    obtain ⟨d1, d2⟩ := hr (i + k)
    obtain ⟨p1, p2⟩ := dig_prod (hA i) (hB k)
    have e3 : inr_s3 A B O i k = dg (inn (dg A i) B O i k).1 (i + k) + dg A i * dg B k + (inn (dg A i) B O i k).2 := by
      unfold inr_s3
      rw [e2]
      show IntKind.u64.wrap (IntKind.u64.wrap (dg (inn (dg A i) B O i k).1 (i + k) + IntKind.u64.wrap (dg A i * dg B k)) + _) = _
      rw [wrU p1 (by omega), wrU (x := _ + dg A i * dg B k) (by omega) (by omega), wrU (by omega) (by omega)]
    have e4 : 0 ≤ dg (inn (dg A i) B O i k).1 (i + k) + dg A i * dg B k + (inn (dg A i) B O i k).2 := by omega
    refine ⟨⟨hk, h2, hA, hB, hO, h3, h4⟩, ?_, trivial, ?_, ?_, trivial, ?_⟩
    · show B.length - (k + 1) < B.length - k; omega
    · rw [wrI (by simp; omega) (by simp; omega)]; rfl
    · rw [e3, shr16 _ e4]; rfl
    · rw [e3, and16 _ e4 (by omega), ew2]; rfl
  · intro h
    have hk : k = B.length := by simp at h; omega
    subst hk
    exact ⟨rfl, trivial, rfl⟩
noncomputable def inrL : LoopS := fun env mem m => match eRow [.int .u64] env mem 0, eRow [.int .u64] env mem 1, eRow [.int .u64] env mem 5, eInt env 6 with
  | some A, some B, some O, some i => famS (inF A B O i.toNat) 41 (fun _ _ => some 0) env mem m
  | _, _, _, _ => none
noncomputable def L_inr : FuncId → Nat → Option LoopS := addL L_cmp 101 7 inrL
theorem known_inrL : Known Try.prog (sums K_cmpP) L_inr := by
  refine known_addL 1 known_cmpP (by kernel_rfl) (codeOk_of fun env mem m x h => ?_)
  unfold inrL at h
  have hlen : (loopList Try.prog 101).length = 2 := by kernel_rfl
  split at h
  · exact ⟨_, fam_ok (bodyOf_ok plainN known_cmpP (by omega)) (inr_rounds _ _ _ _), h⟩
  · cases h
noncomputable def mulF (A B : Dg) : Fam Nat Unit where
  k := 20
  E i := [(6, ent 1000000000 (.one (I (Int.ofNat i)))), (5, ent 1000000001 (.one (.wh 16))), (0, ent 0 (.one (.wh 0))), (1, ent 2 (.one (.wh 1)))]
  M i := rowU 16 1000000002 (mulO A B i) :: cmpM A B
  out _ := .leaf (.exit 0) [(5, ent 18 (.one (.wh 16)))] (rowU 16 19 (mulO A B A.length) :: cmpM A B)
  fin _ := ()
  next i _ := i + 1
  J i := i ≤ A.length ∧ rng A ∧ rng B ∧ A.length + B.length ≤ 1000000
  μ i := A.length - i
noncomputable def mul_s0 (A : Dg) (i : Nat) : Prop :=
  decide (Int.ofNat i < Int.ofNat (List.length A)) = true
noncomputable def mul_s1 (A : Dg) (B : Dg) : Prop :=
  List.length A + List.length B ≤ 1000000
noncomputable def mul_s2 (B : Dg) (i : Nat) : Int :=
  IntKind.i64.wrap (Int.ofNat (Int.ofNat i).toNat + Int.ofNat (List.length B))
noncomputable def mul_s3 (A : Dg) (B : Dg) (i : Nat) : Prop :=
  (mul_s2 B i).toNat < List.length (inn (dg A (Int.ofNat i).toNat) B (mulO A B i) (Int.ofNat i).toNat (List.length B)).fst
noncomputable def mul_s4 (A : Dg) (B : Dg) (i : Nat) : List Int :=
  List.getD (inn (dg A (Int.ofNat i).toNat) B (mulO A B i) (Int.ofNat i).toNat (List.length B)).fst (mul_s2 B i).toNat []
noncomputable def mul_needs (A : Dg) (B : Dg) (i : Nat) : List Prop :=
  [mul_s0 A i →
     (0 ≤ List.length B ∧
     (Int.ofNat i).toNat < List.length A ∧
     (∀ (i : Nat), 0 ≤ dg A i ∧ dg A i < 65536) ∧
     (∀ (i : Nat), 0 ≤ dg B i ∧ dg B i < 65536) ∧
     (∀ (i_1 : Nat), 0 ≤ dg (mulO A B i) i_1 ∧ dg (mulO A B i) i_1 < 65536) ∧ List.length (mulO A B i) = List.length A + List.length B ∧ mul_s1 A B) ∧
     Int.ofNat 0 = 0 ∧
     (inn (dg A (Int.ofNat i).toNat) B (mulO A B i) (Int.ofNat i).toNat 0).snd = 0 ∧
     Int.ofNat (Int.ofNat i).toNat = Int.ofNat i ∧
     (inn (dg A (Int.ofNat i).toNat) B (mulO A B i) (Int.ofNat i).toNat 0).fst = mulO A B i ∧ 0 ≤ mul_s2 B i ∧ mul_s3 A B i ∧ mul_s3 A B i ∧ 0 ≤ mul_s2 B i ∧ mul_s3 A B i ∧ mul_s3 A B i,
    mul_s0 A i →
     ((mulF A B).next i 0 ≤ List.length A ∧ (∀ (i : Nat), 0 ≤ dg A i ∧ dg A i < 65536) ∧ (∀ (i : Nat), 0 ≤ dg B i ∧ dg B i < 65536) ∧ mul_s1 A B) ∧
     (mulF A B).μ ((mulF A B).next i 0) < (mulF A B).μ i ∧
     (mulF A B).fin ((mulF A B).next i 0) = (mulF A B).fin i ∧
     Int.ofNat ((mulF A B).next i 0) = IntKind.i64.wrap (Int.ofNat (Int.ofNat i).toNat + 1) ∧
     mulO A B ((mulF A B).next i 0) =
     List.set (inn (dg A (Int.ofNat i).toNat) B (mulO A B i) (Int.ofNat i).toNat (List.length B)).fst (mul_s2 B i).toNat
     (overF 1 0 0 [IntKind.u64.wrap ((mul_s4 A B i).getD 0 0 + (inn (dg A (Int.ofNat i).toNat) B (mulO A B i) (Int.ofNat i).toNat (List.length B)).snd)] (mul_s4 A B i)),
    decide (Int.ofNat i < Int.ofNat (List.length A)) = false → mulO A B (List.length A) = mulO A B i]
theorem mul_round (A B : Dg) (i : Nat) (hNeeds : ∀ pN ∈ (mul_needs A B i), pN) : RoundOk (roundC (mulF A B) (bodyOf Try.prog (sums K_cmpP) L_inr 101 0) 15 i) :=
  RoundOk.of (ps := (mul_needs A B i)) (by kernel_rfl) (by kernel_rfl) hNeeds
theorem mul_rounds (A B : Dg) : RoundsOk (mulF A B) (bodyOf Try.prog (sums K_cmpP) L_inr 101 0) 15 := by
  intro i hJ
  obtain ⟨h1, hA, hB, h4⟩ : i ≤ A.length ∧ rng A ∧ rng B ∧ A.length + B.length ≤ 1000000 := hJ
  have e0 : (Int.ofNat i).toNat = i := rfl
  have e1 : mul_s2 B i = Int.ofNat (i + B.length) := by unfold mul_s2; rw [e0, wrI (by simp; omega) (by simp; omega)]; simp
  have e2 : (mul_s2 B i).toNat = i + B.length := by rw [e1]; rfl
  have hl := mulO_len A B i
  have hn : List.length (inn (dg A i) B (mulO A B i) i B.length).fst = A.length + B.length := by rw [inn_len, hl]
  have es : mul_s0 A i → i < A.length := fun h => by simpa [mul_s0] using h
  have e3 : mul_s4 A B i = (inn (dg A i) B (mulO A B i) i B.length).1.getD (i + B.length) [] := by unfold mul_s4; rw [e2, e0]
  refine mul_round A B i fun q hq => ?_
  unfold mul_needs at hq
  simp only [List.mem_cons, List.not_mem_nil, or_false, e0] at hq
  rcases hq with rfl | rfl | rfl
  · intro h
    have hi := es h
    have e4 : mul_s3 A B i := by unfold mul_s3; rw [e2, e0, hn]; omega
    have e5 : 0 ≤ mul_s2 B i := by rw [e1]; exact Int.natCast_nonneg _
    exact ⟨⟨Nat.zero_le _, hi, hA, hB, mulO_rng hA hB i (by omega), hl, h4⟩, rfl, rfl, trivial, rfl, e5, e4, e4, e5, e4, e4⟩
  · intro h
    have hi := es h
    obtain ⟨hr, c1, c2⟩ := inn_rng (i := i) (hA i) hB (mulO_rng hA hB i (by omega)) B.length (by omega)
    obtain ⟨d1, d2⟩ := hr (i + B.length)
    refine ⟨⟨hi, hA, hB, h4⟩, ?_, trivial, ?_, ?_⟩
    · show A.length - (i + 1) < A.length - i; omega
    · rw [wrI (by simp; omega) (by simp; omega)]; rfl
    · rw [e2, e3]
      have : IntKind.u64.wrap (dg (inn (dg A i) B (mulO A B i) i B.length).1 (i + B.length) + (inn (dg A i) B (mulO A B i) i B.length).2) = dg (inn (dg A i) B (mulO A B i) i B.length).1 (i + B.length) + (inn (dg A i) B (mulO A B i) i B.length).2 := wrU (by omega) (by omega)
      show _ = List.set _ _ [IntKind.u64.wrap (dg (inn (dg A i) B (mulO A B i) i B.length).1 (i + B.length) + (inn (dg A i) B (mulO A B i) i B.length).2)]
      rw [this]; rfl
  · intro h
    have : i = A.length := by simp at h; omega
    rw [this]
noncomputable def mulLp : LoopS := fun env mem m => match eRow [.int .u64] env mem 0, eRow [.int .u64] env mem 1 with
  | some A, some B => famS (mulF A B) 15 (fun _ _ => some 0) env mem m
  | _, _ => none
noncomputable def L_mul : FuncId → Nat → Option LoopS := addL L_inr 101 3 mulLp
theorem known_mulL : Known Try.prog (sums K_cmpP) L_mul := by
  refine known_addL 0 known_inrL (by kernel_rfl) (codeOk_of fun env mem m x h => ?_)
  unfold mulLp at h
  have hlen : (loopList Try.prog 101).length = 2 := by kernel_rfl
  split at h
  · exact ⟨_, fam_ok (bodyOf_ok plainN known_inrL (by omega)) (mul_rounds _ _), h⟩
  · cases h
theorem wsize_rng {a : Int} (h : isI a) : 0 ≤ wsize_0 a ∧ wsize_0 a < 18446744073709551616 := by
  rw [wsize_eq a h]
  obtain ⟨h1, h2⟩ := h
  split <;> omega
noncomputable def mulP_tpl : Tpl := ⟨[.one (.wh 0), .one (.wh 1)], [(0, .row false 116 1 2 [.int .u64]), (1, .row false 116 1 3 [.int .u64])], 4⟩
noncomputable def mulP_0 (A : List (List Int)) (B : List (List Int)) : Dg :=
  cutL (mulO A B A.length)
noncomputable def mulP_s0 (A : List (List Int)) (B : List (List Int)) : Int :=
  IntKind.i64.wrap (Int.ofNat A.length + Int.ofNat B.length)
noncomputable def mulP_needs (A : List (List Int)) (B : List (List Int)) : List Prop :=
  [0 ≤ mulP_s0 A B, ((mulP_s0 A B).toNat + 0) * 8 ≤ 140737488355328, (mulP_s0 A B).toNat + 0 ≤ 9223372036854775807,
   0 ≤ A.length ∧ (∀ (i : Nat), 0 ≤ dg A i ∧ dg A i < 65536) ∧ (∀ (i : Nat), 0 ≤ dg B i ∧ dg B i < 65536) ∧ A.length + B.length ≤ 1000000, Int.ofNat 0 = 0,
   mulO A B 0 = List.replicate (mulP_s0 A B).toNat [0], List.length (mulO A B A.length) ≤ 1000000]
theorem mulP_weak {A : List (List Int)} {B : List (List Int)} (hW : ∀ q ∈ ([rng A, rng B, A.length + B.length ≤ 1000000] : List Prop), q) : ∀ q ∈ (mulP_needs A B), q := by
  simp only [List.mem_cons, List.not_mem_nil, or_false, forall_eq_or_imp, forall_eq] at hW
  intro q hq
  unfold mulP_needs at hq
  simp only [List.mem_cons, List.not_mem_nil, or_false] at hq
  obtain ⟨hA, hB, h⟩ := hW
  have e : mulP_s0 A B = Int.ofNat (A.length + B.length) := by unfold mulP_s0; rw [wrI (by simp; omega) (by simp; omega)]; simp
  have e2 : (mulP_s0 A B).toNat = A.length + B.length := by rw [e]; rfl
  rcases hq with rfl | rfl | rfl | rfl | rfl | rfl | rfl
  · rw [e]; exact Int.natCast_nonneg _
  · rw [e2]; omega
  · rw [e2]; omega
  · exact ⟨Nat.zero_le _, hA, hB, h⟩
  · rfl
  · rw [e2]; rfl
  · rw [mulO_len]; exact h
set_option maxRecDepth 1000000 in
theorem mulP_runs (A B : List (List Int)) (hNeeds : ∀ pN ∈ (mulP_needs A B), pN) : Runs (runF (sums K_cmpP) L_mul 101) (mulP_tpl.args []) (mulP_tpl.memo [] [A, B]) mulP_tpl.n (SV.one (SC.wh 41))
    ([(41, Obj.row false 116 1 (RowC.lst 44 [CK.int IntKind.u64] (mulP_0 A B))), (0, Obj.row false 116 1 (RowC.lst 2 [CK.int IntKind.u64] A)), (1, Obj.row false 116 1 (RowC.lst 3 [CK.int IntKind.u64] B))]) :=
  Runs.of1 (ps := (mulP_needs A B)) (by kernel_rfl) hNeeds
noncomputable def mulP_out : List Pm → Lss → Option CRes
  | [], [A, B] => some ⟨SV.one (SC.wh 41),
    [(41, Obj.row false 116 1 (RowC.lst 44 [CK.int IntKind.u64] (mulP_0 A B))), (0, Obj.row false 116 1 (RowC.lst 2 [CK.int IntKind.u64] A)), (1, Obj.row false 116 1 (RowC.lst 3 [CK.int IntKind.u64] B))],
    [rng A, rng B, A.length + B.length ≤ 1000000], [], 63⟩
  | _, _ => none
theorem mulP_ok : FOk Try.prog 101 (tplS mulP_tpl mulP_out) := by
  refine tplS_ok (runF_ok known_mulL 101) fun ps ls r hr hn _ => ?_
  unfold mulP_out at hr
  split at hr
  · cases hr; exact ⟨_, mulP_runs _ _ (mulP_weak (by exact hn)), fun _ => rfl⟩
  · cases hr
noncomputable def K_mulP : List (Nat × Summ) := (101, tplS mulP_tpl mulP_out) :: K_cmpP
theorem known_mulP : Known Try.prog (sums K_mulP) L_mul := known_cons known_mulL mulP_ok
noncomputable def rprod_tpl : Tpl := ⟨[.one (.int .i64), .one (.int .i64)], [], 0⟩
noncomputable def rprod_needs (a : Int) (b : Int) : List Prop :=
  [0 ≤ wsize_0 a, wsize_0 a < 18446744073709551616, 0 ≤ wsize_0 b, wsize_0 b < 18446744073709551616, ∀ (i : Nat), 0 ≤ dg (limbL (wsize_0 a)) i ∧ dg (limbL (wsize_0 a)) i < 65536,
   ∀ (i : Nat), 0 ≤ dg (limbL (wsize_0 b)) i ∧ dg (limbL (wsize_0 b)) i < 65536, List.length (limbL (wsize_0 a)) + List.length (limbL (wsize_0 b)) ≤ 1000000]
theorem rprod_weak {a : Int} {b : Int} (hW : ∀ q ∈ ([isI a, isI b] : List Prop), q) : ∀ q ∈ (rprod_needs a b), q := by
  simp only [List.mem_cons, List.not_mem_nil, or_false, forall_eq_or_imp, forall_eq] at hW
  intro q hq
  unfold rprod_needs at hq
  simp only [List.mem_cons, List.not_mem_nil, or_false] at hq
  obtain ⟨ha, hb⟩ := hW
  obtain ⟨a1, a2⟩ := wsize_rng ha
  obtain ⟨b1, b2⟩ := wsize_rng hb
  have la : (limbL (wsize_0 a)).length ≤ 4 := by rw [limbL, limb_len]; exact (nd_spec a1 a2 (j := 0) (by omega)).2
  have lb : (limbL (wsize_0 b)).length ≤ 4 := by rw [limbL, limb_len]; exact (nd_spec b1 b2 (j := 0) (by omega)).2
  rcases hq with rfl | rfl | rfl | rfl | rfl | rfl | rfl
  · exact a1
  · exact a2
  · exact b1
  · exact b2
  · exact limb_rng _ _
  · exact limb_rng _ _
  · omega
set_option maxRecDepth 1000000 in
theorem rprod_runs (a b : Int) (hNeeds : ∀ pN ∈ (rprod_needs a b), pN) : Runs (runF (sums K_mulP) L_mul 80) (rprod_tpl.args [.i a, .i b]) (rprod_tpl.memo [.i a, .i b] []) rprod_tpl.n (SV.one (SC.wh 120))
    ([(120, Obj.row false 116 1 (RowC.lst 123 [CK.int IntKind.u64] (mulP_0 (limbL (wsize_0 a)) (limbL (wsize_0 b)))))]) :=
  Runs.of1 (ps := (rprod_needs a b)) (by kernel_rfl) hNeeds
noncomputable def rprod_out : List Pm → Lss → Option CRes
  | [.i a, .i b], [] => some ⟨SV.one (SC.wh 120),
    [(120, Obj.row false 116 1 (RowC.lst 123 [CK.int IntKind.u64] (mulP_0 (limbL (wsize_0 a)) (limbL (wsize_0 b)))))],
    [isI a, isI b], [], 144⟩
  | _, _ => none
theorem rprod_ok : FOk Try.prog 80 (tplS rprod_tpl rprod_out) := by
  refine tplS_ok (runF_ok known_mulP 80) fun ps ls r hr hn _ => ?_
  unfold rprod_out at hr
  split at hr
  · cases hr; exact ⟨_, rprod_runs _ _ (rprod_weak (by exact hn)), fun _ => rfl⟩
  · cases hr
noncomputable def K_rprod : List (Nat × Summ) := (80, tplS rprod_tpl rprod_out) :: K_mulP
theorem known_rprod : Known Try.prog (sums K_rprod) L_mul := known_cons known_mulP rprod_ok
noncomputable def rcmp_tpl : Tpl := ⟨[.one (.int .i64), .one (.int .i64), .one (.int .i64), .one (.int .i64)], [], 0⟩
noncomputable def rcmp_0 (a : Int) (b : Int) (c : Int) (d : Int) : Int :=
  bif decide (wsign_0 a b < wsign_0 c d) then -1
  else bif decide (wsign_0 a b > wsign_0 c d) then 1 else IntKind.i64.wrap (wsign_0 a b * cmpD (mulP_0 (limbL (wsize_0 a)) (limbL (wsize_0 b))) (mulP_0 (limbL (wsize_0 c)) (limbL (wsize_0 d))))
noncomputable def rcmp_needs (a : Int) (b : Int) (c : Int) (d : Int) : List Prop :=
  [decide (wsign_0 a b < wsign_0 c d) = false →
   decide (wsign_0 a b > wsign_0 c d) = false →
   (-9223372036854775808 ≤ a ∧ a < 9223372036854775808) ∧
   (-9223372036854775808 ≤ b ∧ b < 9223372036854775808) ∧
   (-9223372036854775808 ≤ c ∧ c < 9223372036854775808) ∧ (-9223372036854775808 ≤ d ∧ d < 9223372036854775808) ∧ List.length (mulP_0 (limbL (wsize_0 a)) (limbL (wsize_0 b))) ≤ 1000000]
theorem rcmp_eq (a b c d : Int) (ha : isI a) (hb : isI b) (hc : isI c) (hd : isI d) : (rcmp_0 a b c d) = cmpI (a * b) (c * d) := by
  unfold rcmp_0
  obtain ⟨x1, x2, x3⟩ := prodL_eq (wsize_rng ha) (wsize_rng hb)
  obtain ⟨y1, y2, y3⟩ := prodL_eq (wsize_rng hc) (wsize_rng hd)
  have h0 := cmpD_eq x1 y1 x2 y2
  rw [x3, y3] at h0
  unfold prodL at h0
  unfold mulP_0
  rw [h0, wsize_eq a ha, wsize_eq b hb, wsize_eq c hc, wsize_eq d hd]
  have s1 := wsign_or a b
  have s2 := wsign_or c d
  generalize (if a < 0 then -a else a) * (if b < 0 then -b else b) = X at *
  generalize (if c < 0 then -c else c) * (if d < 0 then -d else d) = Y at *
  generalize a * b = P at *
  generalize c * d = Q at *
  have w : ∀ x : Int, -1 ≤ x ∧ x ≤ 1 → IntKind.i64.wrap x = x := fun x h => wrI (by omega) (by omega)
  have hcm : cmpI X Y = -1 ∧ X < Y ∨ cmpI X Y = 0 ∧ X = Y ∨ cmpI X Y = 1 ∧ Y < X := by unfold cmpI; (repeat' split) <;> omega
  have hcp : cmpI P Q = -1 ∧ P < Q ∨ cmpI P Q = 0 ∧ P = Q ∨ cmpI P Q = 1 ∧ Q < P := by unfold cmpI; (repeat' split) <;> omega
  clear h0
  generalize cmpI X Y = m at *
  generalize cmpI P Q = n at *
  rcases s1 with ⟨e1, p1⟩ | ⟨e1, p1, q1⟩ | ⟨e1, p1, q1⟩ <;> rcases s2 with ⟨e2, p2⟩ | ⟨e2, p2, q2⟩ | ⟨e2, p2, q2⟩ <;> rw [e1, e2]
  · show IntKind.i64.wrap (0 * m) = n; rw [w _ (by omega)]; omega
  · show (-1 : Int) = n; omega
  · show (1 : Int) = n; omega
  · show (1 : Int) = n; omega
  · show IntKind.i64.wrap (1 * m) = n; rw [w _ (by omega)]; omega
  · show (1 : Int) = n; omega
  · show (-1 : Int) = n; omega
  · show (-1 : Int) = n; omega
  · show IntKind.i64.wrap (-1 * m) = n; rw [w _ (by omega)]; omega
theorem rcmp_weak {a : Int} {b : Int} {c : Int} {d : Int} (hW : ∀ q ∈ ([isI a, isI b, isI c, isI d] : List Prop), q) : ∀ q ∈ (rcmp_needs a b c d), q := by
  simp only [List.mem_cons, List.not_mem_nil, or_false, forall_eq_or_imp, forall_eq] at hW
  intro q hq
  unfold rcmp_needs at hq
  simp only [List.mem_cons, List.not_mem_nil, or_false] at hq
  obtain ⟨ha, hb, hc, hd⟩ := hW
  subst hq
  intro _ _
  refine ⟨ha, hb, hc, hd, ?_⟩
  obtain ⟨a1, a2⟩ := wsize_rng ha
  obtain ⟨b1, b2⟩ := wsize_rng hb
  have la : (limbL (wsize_0 a)).length ≤ 4 := by rw [limbL, limb_len]; exact (nd_spec a1 a2 (j := 0) (by omega)).2
  have lb : (limbL (wsize_0 b)).length ≤ 4 := by rw [limbL, limb_len]; exact (nd_spec b1 b2 (j := 0) (by omega)).2
  unfold mulP_0
  rw [cutL_len]
  have := cutN_le (mulO (limbL (wsize_0 a)) (limbL (wsize_0 b)) (limbL (wsize_0 a)).length) (mulO (limbL (wsize_0 a)) (limbL (wsize_0 b)) (limbL (wsize_0 a)).length).length
  rw [mulO_len] at this
  rw [mulO_len]
  omega
set_option maxRecDepth 1000000 in
theorem rcmp_runs (a b c d : Int) (hNeeds : ∀ pN ∈ (rcmp_needs a b c d), pN) : Runs (runF (sums K_rprod) L_mul 43) (rcmp_tpl.args [.i a, .i b, .i c, .i d]) (rcmp_tpl.memo [.i a, .i b, .i c, .i d] []) rcmp_tpl.n (SV.one (SC.int IntKind.i64 (SI.v (rcmp_0 a b c d))))
    ([]) :=
  Runs.of1 (ps := (rcmp_needs a b c d)) (by kernel_rfl) hNeeds
noncomputable def rcmp_out : List Pm → Lss → Option CRes
  | [.i a, .i b, .i c, .i d], [] => some ⟨SV.one (SC.int IntKind.i64 (SI.v (rcmp_0 a b c d))),
    [],
    [isI a, isI b, isI c, isI d], [], 394⟩
  | _, _ => none
theorem rcmp_ok : FOk Try.prog 43 (tplS rcmp_tpl rcmp_out) := by
  refine tplS_ok (runF_ok known_rprod 43) fun ps ls r hr hn _ => ?_
  unfold rcmp_out at hr
  split at hr
  · cases hr; exact ⟨_, rcmp_runs _ _ _ _ (rcmp_weak (by exact hn)), fun _ => rfl⟩
  · cases hr
noncomputable def K_rcmp : List (Nat × Summ) := (43, tplS rcmp_tpl rcmp_out) :: K_rprod
theorem known_rcmp : Known Try.prog (sums K_rcmp) L_mul := known_cons known_rprod rcmp_ok
end Go.Proofs.Ythgiaoidekdpfaa
