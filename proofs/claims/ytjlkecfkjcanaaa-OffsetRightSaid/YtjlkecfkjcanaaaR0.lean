/-
  REF01: the square of a list of digits. Conditions: none.
-/
import Derived.Test.YtjlkecfkjcanaaaC2
import Derived.Test.YtjlkecfkjcanaaaB3
import Derived.Test.YtjlkecfkjcanaaaN2
set_option linter.all false
namespace Go.Proofs.Ytjlkecfkjcanaaa
open Go.SX Go.RowKit
noncomputable def inF2 (A O : Dg) (i : Nat) : Fam Nat Unit where
  k := 20
  E k := [(8, ent 1000000000 (.one (I (Int.ofNat k)))), (7, ent 1000000001 (.one (U (inn (dg A i) A O i k).2))), (6, ent 1000000002 (.one (I (Int.ofNat i)))), (5, ent 1000000003 (.one (.wh 40))), (0, ent 0 (.one (.wh 0))), (1, ent 2 (.one (.wh 0)))]
  M k := [rowU 40 1000000004 (inn (dg A i) A O i k).1, rowU 0 1 A]
  out _ := .leaf (.exit 2) [(7, ent 43 (.one (U (inn (dg A i) A O i A.length).2))), (6, ent 44 (.one (I (Int.ofNat i)))), (5, ent 45 (.one (.wh 40))), (0, ent 0 (.one (.wh 0))), (1, ent 2 (.one (.wh 0)))] [rowU 40 46 (inn (dg A i) A O i A.length).1, rowU 0 1 A]
  fin _ := ()
  next k _ := k + 1
  J k := k ≤ A.length ∧ i < A.length ∧ rng A ∧ rng O ∧ O.length = A.length + A.length ∧ A.length + A.length ≤ 1000000
  μ k := A.length - k
noncomputable def inq_s0 (A : Dg) (k : Nat) : Prop :=
  decide (Int.ofNat k < Int.ofNat (List.length A)) = true
noncomputable def inq_s1 (A : Dg) (O : Dg) (i : Nat) (k : Nat) : Prop :=
  (IntKind.i64.wrap (Int.ofNat i + Int.ofNat k)).toNat < List.length (inn (dg A i) A O i k).fst
noncomputable def inq_s2 (A : Dg) (O : Dg) (i : Nat) (k : Nat) : List Int :=
  List.getD (inn (dg A i) A O i k).fst (IntKind.i64.wrap (Int.ofNat i + Int.ofNat k)).toNat []
noncomputable def inq_s3 (A : Dg) (O : Dg) (i : Nat) (k : Nat) : Int :=
  IntKind.u64.wrap
    (IntKind.u64.wrap ((inq_s2 A O i k).getD 0 0 + IntKind.u64.wrap ((List.getD A (Int.ofNat i).toNat []).getD 0 0 * (List.getD A (Int.ofNat k).toNat []).getD 0 0)) + (inn (dg A i) A O i k).snd)
noncomputable def inq_needs (A : Dg) (O : Dg) (i : Nat) (k : Nat) : List Prop :=
  [inq_s0 A k →
      0 ≤ IntKind.i64.wrap (Int.ofNat i + Int.ofNat k) ∧
        inq_s1 A O i k ∧
          inq_s1 A O i k ∧
            0 ≤ Int.ofNat i ∧
              (Int.ofNat i).toNat < List.length A ∧
                (Int.ofNat i).toNat < List.length A ∧
                  0 ≤ Int.ofNat k ∧ (Int.ofNat k).toNat < List.length A ∧ (Int.ofNat k).toNat < List.length A ∧ 0 ≤ IntKind.i64.wrap (Int.ofNat i + Int.ofNat k) ∧ inq_s1 A O i k ∧ inq_s1 A O i k,
    inq_s0 A k →
      ((inF2 A O i).next k 0 ≤ List.length A ∧
          i < List.length A ∧
            (∀ (i : Nat), 0 ≤ dg A i ∧ dg A i < 65536) ∧ (∀ (i : Nat), 0 ≤ dg O i ∧ dg O i < 65536) ∧ List.length O = List.length A + List.length A ∧ List.length A + List.length A ≤ 1000000) ∧
        (inF2 A O i).μ ((inF2 A O i).next k 0) < (inF2 A O i).μ k ∧
          (inF2 A O i).fin ((inF2 A O i).next k 0) = (inF2 A O i).fin k ∧
            Int.ofNat ((inF2 A O i).next k 0) = IntKind.i64.wrap (Int.ofNat k + 1) ∧
              (inn (dg A i) A O i ((inF2 A O i).next k 0)).snd = ishift BinOp.shr IntKind.u64 (inq_s3 A O i k) 16 ∧
                Int.ofNat i = Int.ofNat i ∧
                  (inn (dg A i) A O i ((inF2 A O i).next k 0)).fst =
                    List.set (inn (dg A i) A O i k).fst (IntKind.i64.wrap (Int.ofNat i + Int.ofNat k)).toNat (overF 1 0 0 [ibits BinOp.and IntKind.u64 (inq_s3 A O i k) 65535] (inq_s2 A O i k)),
    decide (Int.ofNat k < Int.ofNat (List.length A)) = false →
      (inn (dg A i) A O i (List.length A)).snd = (inn (dg A i) A O i k).snd ∧ Int.ofNat i = Int.ofNat i ∧ (inn (dg A i) A O i (List.length A)).fst = (inn (dg A i) A O i k).fst]
theorem inq_round (A O : Dg) (i k : Nat) (hNeeds : ∀ pN ∈ (inq_needs A O i k), pN) : RoundOk (roundC (inF2 A O i) (bodyOf Try.prog (sums K_wOver) L_fl 81 1) 39 k) :=
  RoundOk.of (ps := (inq_needs A O i k)) (by kernel_rfl) (by kernel_rfl) hNeeds
theorem inq_rounds (A O : Dg) (i : Nat) : RoundsOk (inF2 A O i) (bodyOf Try.prog (sums K_wOver) L_fl 81 1) 39 := by
  intro k hJ
  have hJ' := hJ
  obtain ⟨h1, h2, hA, hO, h3, h4⟩ : k ≤ A.length ∧ i < A.length ∧ rng A ∧ rng O ∧ O.length = A.length + A.length ∧ A.length + A.length ≤ 1000000 := hJ
  have hl : List.length (inn (dg A i) A O i k).fst = A.length + A.length := by rw [inn_len, h3]
  refine inq_round A O i k fun q hq => ?_
  unfold inq_needs at hq
  simp only [List.mem_cons, List.not_mem_nil, or_false] at hq
  have ew : IntKind.i64.wrap (Int.ofNat i + Int.ofNat k) = Int.ofNat (i + k) := by rw [wrI (by simp; omega) (by simp; omega)]; simp
  have ew2 : (IntKind.i64.wrap (Int.ofNat i + Int.ofNat k)).toNat = i + k := by rw [ew]; rfl
  have es : inq_s0 A k → k < A.length := fun h => by simpa [inq_s0] using h
  have e2 : inq_s2 A O i k = (inn (dg A i) A O i k).1.getD (i + k) [] := by unfold inq_s2; rw [ew2]
  rcases hq with rfl | rfl | rfl
  · intro h
    have hk := es h
    have e1 : inq_s1 A O i k := by unfold inq_s1; rw [ew2, hl]; omega
    have e0 : 0 ≤ IntKind.i64.wrap (Int.ofNat i + Int.ofNat k) := by rw [ew]; exact Int.natCast_nonneg _
    exact ⟨e0, e1, e1, by simp, h2, h2, by simp, hk, hk, e0, e1, e1⟩
  · intro h
    have hk := es h
    obtain ⟨hr, hc⟩ := inn_rng (i := i) (hA i) hA hO k (by omega)
    obtain ⟨d1, d2⟩ := hr (i + k)
    obtain ⟨p1, p2⟩ := dig_prod (hA i) (hA k)
    have e3 : inq_s3 A O i k = dg (inn (dg A i) A O i k).1 (i + k) + dg A i * dg A k + (inn (dg A i) A O i k).2 := by
      unfold inq_s3
      rw [e2]
      show IntKind.u64.wrap (IntKind.u64.wrap (dg (inn (dg A i) A O i k).1 (i + k) + IntKind.u64.wrap (dg A i * dg A k)) + _) = _
      rw [wrU p1 (by omega), wrU (x := _ + dg A i * dg A k) (by omega) (by omega), wrU (by omega) (by omega)]
    have e4 : 0 ≤ dg (inn (dg A i) A O i k).1 (i + k) + dg A i * dg A k + (inn (dg A i) A O i k).2 := by omega
    refine ⟨⟨hk, h2, hA, hO, h3, h4⟩, ?_, trivial, ?_, ?_, trivial, ?_⟩
    · show A.length - (k + 1) < A.length - k; omega
    · rw [wrI (by simp; omega) (by simp; omega)]; rfl
    · rw [e3, shr16 _ e4]; rfl
    · rw [e3, and16 _ e4 (by omega), ew2]; rfl
  · intro h
    have hk : k = A.length := by simp at h; omega
    subst hk
    exact ⟨rfl, trivial, rfl⟩
noncomputable def inqL : LoopS := fun env mem m => match inrL env mem m with
  | some x => some x
  | none => (match eRow [.int .u64] env mem 0, eRow [.int .u64] env mem 5, eInt env 6 with
    | some A, some O, some i => famS (inF2 A O i.toNat) 39 (fun _ _ => some 0) env mem m
    | _, _, _ => none)
noncomputable def L_inq : FuncId → Nat → Option LoopS := addL L_fl 81 7 inqL
theorem known_inqL : Known Try.prog (sums K_wOver) L_inq := by
  refine known_addL 1 known_wOver (by kernel_rfl) (codeOk_of fun env mem m x h => ?_)
  unfold inqL at h
  have hlen : (loopList Try.prog 81).length = 2 := by kernel_rfl
  split at h
  · rename_i h1
    cases h
    unfold inrL at h1
    split at h1
    · exact ⟨_, fam_ok (bodyOf_ok plainN known_cmpP (by omega)) (inr_rounds _ _ _ _), h1⟩
    · cases h1
  · split at h
    · exact ⟨_, fam_ok (bodyOf_ok plainN known_wOver (by omega)) (inq_rounds _ _ _), h⟩
    · cases h
noncomputable def mulF2 (A : Dg) : Fam Nat Unit where
  k := 20
  E i := [(6, ent 1000000000 (.one (I (Int.ofNat i)))), (5, ent 1000000001 (.one (.wh 14))), (0, ent 0 (.one (.wh 0))), (1, ent 2 (.one (.wh 0)))]
  M i := [rowU 14 1000000002 (mulO A A i), rowU 0 1 A]
  out _ := .leaf (.exit 0) [(5, ent 16 (.one (.wh 14)))] [rowU 14 17 (mulO A A A.length), rowU 0 1 A]
  fin _ := ()
  next i _ := i + 1
  J i := i ≤ A.length ∧ rng A ∧ A.length + A.length ≤ 1000000
  μ i := A.length - i
noncomputable def muq_s0 (A : Dg) (i : Nat) : Prop :=
  decide (Int.ofNat i < Int.ofNat (List.length A)) = true
noncomputable def muq_s1 (A : Dg) : Prop :=
  List.length A + List.length A ≤ 1000000
noncomputable def muq_s2 (A : Dg) (i : Nat) : Int :=
  IntKind.i64.wrap (Int.ofNat (Int.ofNat i).toNat + Int.ofNat (List.length A))
noncomputable def muq_s3 (A : Dg) (i : Nat) : Prop :=
  (muq_s2 A i).toNat < List.length (inn (dg A (Int.ofNat i).toNat) A (mulO A A i) (Int.ofNat i).toNat (List.length A)).fst
noncomputable def muq_s4 (A : Dg) (i : Nat) : List Int :=
  List.getD (inn (dg A (Int.ofNat i).toNat) A (mulO A A i) (Int.ofNat i).toNat (List.length A)).fst (muq_s2 A i).toNat []
noncomputable def muq_needs (A : Dg) (i : Nat) : List Prop :=
  [muq_s0 A i →
      (0 ≤ List.length A ∧
          (Int.ofNat i).toNat < List.length A ∧
            (∀ (i : Nat), 0 ≤ dg A i ∧ dg A i < 65536) ∧ (∀ (i_1 : Nat), 0 ≤ dg (mulO A A i) i_1 ∧ dg (mulO A A i) i_1 < 65536) ∧ List.length (mulO A A i) = List.length A + List.length A ∧ muq_s1 A) ∧
        Int.ofNat 0 = 0 ∧
          (inn (dg A (Int.ofNat i).toNat) A (mulO A A i) (Int.ofNat i).toNat 0).snd = 0 ∧
            Int.ofNat (Int.ofNat i).toNat = Int.ofNat i ∧
              (inn (dg A (Int.ofNat i).toNat) A (mulO A A i) (Int.ofNat i).toNat 0).fst = mulO A A i ∧ 0 ≤ muq_s2 A i ∧ muq_s3 A i ∧ muq_s3 A i ∧ 0 ≤ muq_s2 A i ∧ muq_s3 A i ∧ muq_s3 A i,
    muq_s0 A i →
      ((mulF2 A).next i 0 ≤ List.length A ∧ (∀ (i : Nat), 0 ≤ dg A i ∧ dg A i < 65536) ∧ muq_s1 A) ∧
        (mulF2 A).μ ((mulF2 A).next i 0) < (mulF2 A).μ i ∧
          (mulF2 A).fin ((mulF2 A).next i 0) = (mulF2 A).fin i ∧
            Int.ofNat ((mulF2 A).next i 0) = IntKind.i64.wrap (Int.ofNat (Int.ofNat i).toNat + 1) ∧
              mulO A A ((mulF2 A).next i 0) =
                List.set (inn (dg A (Int.ofNat i).toNat) A (mulO A A i) (Int.ofNat i).toNat (List.length A)).fst (muq_s2 A i).toNat
                  (overF 1 0 0 [IntKind.u64.wrap ((muq_s4 A i).getD 0 0 + (inn (dg A (Int.ofNat i).toNat) A (mulO A A i) (Int.ofNat i).toNat (List.length A)).snd)] (muq_s4 A i)),
    decide (Int.ofNat i < Int.ofNat (List.length A)) = false → mulO A A (List.length A) = mulO A A i]
theorem muq_round (A : Dg) (i : Nat) (hNeeds : ∀ pN ∈ (muq_needs A i), pN) : RoundOk (roundC (mulF2 A) (bodyOf Try.prog (sums K_wOver) L_inq 81 0) 13 i) :=
  RoundOk.of (ps := (muq_needs A i)) (by kernel_rfl) (by kernel_rfl) hNeeds
theorem muq_rounds (A : Dg) : RoundsOk (mulF2 A) (bodyOf Try.prog (sums K_wOver) L_inq 81 0) 13 := by
  intro i hJ
  obtain ⟨h1, hA, h4⟩ : i ≤ A.length ∧ rng A ∧ A.length + A.length ≤ 1000000 := hJ
  have e0 : (Int.ofNat i).toNat = i := rfl
  have e1 : muq_s2 A i = Int.ofNat (i + A.length) := by unfold muq_s2; rw [e0, wrI (by simp; omega) (by simp; omega)]; simp
  have e2 : (muq_s2 A i).toNat = i + A.length := by rw [e1]; rfl
  have hl := mulO_len A A i
  have hn : List.length (inn (dg A i) A (mulO A A i) i A.length).fst = A.length + A.length := by rw [inn_len, hl]
  have es : muq_s0 A i → i < A.length := fun h => by simpa [muq_s0] using h
  have e3 : muq_s4 A i = (inn (dg A i) A (mulO A A i) i A.length).1.getD (i + A.length) [] := by unfold muq_s4; rw [e2, e0]
  refine muq_round A i fun q hq => ?_
  unfold muq_needs at hq
  simp only [List.mem_cons, List.not_mem_nil, or_false, e0] at hq
  rcases hq with rfl | rfl | rfl
  · intro h
    have hi := es h
    have e4 : muq_s3 A i := by unfold muq_s3; rw [e2, e0, hn]; omega
    have e5 : 0 ≤ muq_s2 A i := by rw [e1]; exact Int.natCast_nonneg _
    exact ⟨⟨Nat.zero_le _, hi, hA, mulO_rng hA hA i (by omega), hl, h4⟩, rfl, rfl, trivial, rfl, e5, e4, e4, e5, e4, e4⟩
  · intro h
    have hi := es h
    obtain ⟨hr, c1, c2⟩ := inn_rng (i := i) (hA i) hA (mulO_rng hA hA i (by omega)) A.length (by omega)
    obtain ⟨d1, d2⟩ := hr (i + A.length)
    refine ⟨⟨hi, hA, h4⟩, ?_, trivial, ?_, ?_⟩
    · show A.length - (i + 1) < A.length - i; omega
    · rw [wrI (by simp; omega) (by simp; omega)]; rfl
    · rw [e2, e3]
      have : IntKind.u64.wrap (dg (inn (dg A i) A (mulO A A i) i A.length).1 (i + A.length) + (inn (dg A i) A (mulO A A i) i A.length).2) = dg (inn (dg A i) A (mulO A A i) i A.length).1 (i + A.length) + (inn (dg A i) A (mulO A A i) i A.length).2 := wrU (by omega) (by omega)
      show _ = List.set _ _ [IntKind.u64.wrap (dg (inn (dg A i) A (mulO A A i) i A.length).1 (i + A.length) + (inn (dg A i) A (mulO A A i) i A.length).2)]
      rw [this]; rfl
  · intro h
    have : i = A.length := by simp at h; omega
    rw [this]
noncomputable def muqL : LoopS := fun env mem m => match mulLp env mem m with
  | some x => some x
  | none => (match eRow [.int .u64] env mem 0 with
    | some A => famS (mulF2 A) 13 (fun _ _ => some 0) env mem m
    | _ => none)
noncomputable def L_muq : FuncId → Nat → Option LoopS := addL L_inq 81 3 muqL
theorem known_muqL : Known Try.prog (sums K_wOver) L_muq := by
  refine known_addL 0 known_inqL (by kernel_rfl) (codeOk_of fun env mem m x h => ?_)
  unfold muqL at h
  have hlen : (loopList Try.prog 81).length = 2 := by kernel_rfl
  split at h
  · rename_i h1
    cases h
    unfold mulLp at h1
    split at h1
    · exact ⟨_, fam_ok (bodyOf_ok plainN known_inrL (by omega)) (mul_rounds _ _), h1⟩
    · cases h1
  · split at h
    · exact ⟨_, fam_ok (bodyOf_ok plainN known_inqL (by omega)) (muq_rounds _), h⟩
    · cases h
noncomputable def mulQ_tpl : Tpl := ⟨[.one (.wh 0), .one (.wh 0)], [(0, .row false 84 1 1 [.int .u64])], 2⟩
noncomputable def mulQ_0 (A : List (List Int)) : Dg :=
  cutL (mulO A A A.length)
noncomputable def mulQ_s0 (A : List (List Int)) : Int :=
  IntKind.i64.wrap (Int.ofNat A.length + Int.ofNat A.length)
noncomputable def mulQ_needs (A : List (List Int)) : List Prop :=
  [0 ≤ mulQ_s0 A, ((mulQ_s0 A).toNat + 0) * 8 ≤ 140737488355328, (mulQ_s0 A).toNat + 0 ≤ 9223372036854775807, 0 ≤ A.length ∧ (∀ (i : Nat), 0 ≤ dg A i ∧ dg A i < 65536) ∧ A.length + A.length ≤ 1000000,
    Int.ofNat 0 = 0, mulO A A 0 = List.replicate (mulQ_s0 A).toNat [0], List.length (mulO A A A.length) ≤ 1000000]
theorem mulQ_weak {A : List (List Int)} (hW : ∀ q ∈ ([rng A, A.length + A.length ≤ 1000000] : List Prop), q) : ∀ q ∈ (mulQ_needs A), q := by
  simp only [List.mem_cons, List.not_mem_nil, or_false, forall_eq_or_imp, forall_eq] at hW
  intro q hq
  unfold mulQ_needs at hq
  simp only [List.mem_cons, List.not_mem_nil, or_false] at hq
  obtain ⟨hA, h⟩ := hW
  have e : mulQ_s0 A = Int.ofNat (A.length + A.length) := by unfold mulQ_s0; rw [wrI (by simp; omega) (by simp; omega)]; simp
  have e2 : (mulQ_s0 A).toNat = A.length + A.length := by rw [e]; rfl
  rcases hq with rfl | rfl | rfl | rfl | rfl | rfl | rfl
  · rw [e]; exact Int.natCast_nonneg _
  · rw [e2]; omega
  · rw [e2]; omega
  · exact ⟨Nat.zero_le _, hA, h⟩
  · rfl
  · rw [e2]; rfl
  · rw [mulO_len]; exact h
set_option maxRecDepth 1000000 in
theorem mulQ_runs (A : List (List Int)) (hNeeds : ∀ pN ∈ (mulQ_needs A), pN) : Runs (runF (sums K_wOver) L_muq 81) (mulQ_tpl.args []) (mulQ_tpl.memo [] [A]) mulQ_tpl.n (SV.one (SC.wh 39))
    ([(39, Obj.row false 84 1 (RowC.lst 42 [CK.int IntKind.u64] (mulQ_0 A))), (0, Obj.row false 84 1 (RowC.lst 1 [CK.int IntKind.u64] A))]) :=
  Runs.of (ps := (mulQ_needs A)) (by kernel_rfl) (by kernel_rfl) hNeeds
noncomputable def mulQ_out : List Pm → Lss → Option CRes
  | [], [A] => some ⟨SV.one (SC.wh 39),
    [(39, Obj.row false 84 1 (RowC.lst 42 [CK.int IntKind.u64] (mulQ_0 A))), (0, Obj.row false 84 1 (RowC.lst 1 [CK.int IntKind.u64] A))],
    [rng A, A.length + A.length ≤ 1000000], [], 61⟩
  | _, _ => none
theorem mulQ_ok : FOk Try.prog 81 (tplS mulQ_tpl mulQ_out) := by
  refine tplS_ok (runF_ok known_muqL 81) fun ps ls r hr hn _ => ?_
  unfold mulQ_out at hr
  split at hr
  · cases hr; exact ⟨_, mulQ_runs _ (mulQ_weak (by exact hn)), fun _ => rfl⟩
  · cases hr
noncomputable def K_mulQ : List (Nat × Summ) := (81, orS (tplS mulQ_tpl mulQ_out) (tplS mulP_tpl mulP_out)) :: K_wOver
theorem known_mulQ : Known Try.prog (sums K_mulQ) L_muq := known_cons known_muqL (orS_ok mulQ_ok mulP_ok)
end Go.Proofs.Ytjlkecfkjcanaaa
