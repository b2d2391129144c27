/-
  CHECK: the reference's loops. Conditions: none.
-/
import Derived.Test.YthgiaoidekdpfaaK2
set_option linter.all false
namespace Go.Proofs.Ythgiaoidekdpfaa
open Go.SX Go.RowKit
/-- A pair that is too near, in the reference's words. -/
noncomputable def badR (A B : List (List Int)) (d : Int) (i j : Nat) : Bool :=
  !rfar_0 (ge A j 0) (ge A j 1) (ge A j 2) (ge A j 3) (ge A j 4) (ge A j 5) (ge A j 6) (gb A j) (ge B i 0) (ge B i 1) d ||
    !rfar_0 (ge A j 0) (ge A j 1) (ge A j 2) (ge A j 3) (ge A j 4) (ge A j 5) (ge A j 6) (gb A j) (ge B i 2) (ge B i 3) d ||
    !rfar_0 (ge B i 0) (ge B i 1) (ge B i 2) (ge B i 3) (ge B i 4) (ge B i 5) (ge B i 6) (gb B i) (ge A j 0) (ge A j 1) d ||
    !rfar_0 (ge B i 0) (ge B i 1) (ge B i 2) (ge B i 3) (ge B i 4) (ge B i 5) (ge B i 6) (gb B i) (ge A j 2) (ge A j 3) d ||
    rcrosses_0 (ge B i 0) (ge B i 1) (ge B i 2) (ge B i 3) (ge B i 6) (ge A j 0) (ge A j 1) (ge A j 2) (ge A j 3) (ge A j 6)
noncomputable def rkI (A B : List (List Int)) (d : Int) (i : Nat) : Fam Nat (Bool × Nat) where
  k := 30
  E j := [(11, ent 1000000000 (.one (I (Int.ofNat j)))), (10, ent 1000000001 (.one (I (Int.ofNat i)))), (9, ent 10 (.one (I d))), (0, ent 0 (.one (.wh 0))), (1, ent 2 (.one (.wh 1)))]
  M j := [rowE 0 2 A, rowE 1 3 B]
  out t := .ite t.1 (.leaf .ret [(6, ent 48 (.one (I (Int.ofNat i)))), (7, ent 49 (.one (I (Int.ofNat t.2)))), (8, ent 50 (.one (.bool (.c false))))] [rowE 0 2 A, rowE 1 3 B])
    (.leaf (.exit 2) [(10, ent 51 (.one (I (Int.ofNat i)))), (9, ent 10 (.one (I d))), (0, ent 0 (.one (.wh 0))), (1, ent 2 (.one (.wh 1)))] [rowE 0 2 A, rowE 1 3 B])
  fin j := fnd (badR A B d i) (A.length - j) j
  next j _ := j + 1
  J j := j ≤ A.length ∧ i < B.length ∧ A.length ≤ 1000000
  μ j := A.length - j
noncomputable def rki_s0 (A : List (List Int)) (j : Nat) : Prop :=
  decide (Int.ofNat j < Int.ofNat A.length) = true
noncomputable def rki_s1 (A : List (List Int)) (j : Nat) : Int :=
  (A.getD (Int.ofNat j).toNat []).getD 0 0
noncomputable def rki_needs (A : List (List Int)) (B : List (List Int)) (d : Int) (i : Nat) (j : Nat) : List Prop :=
  [rki_s0 A j → 0 ≤ Int.ofNat i ∧ (Int.ofNat i).toNat < B.length ∧ (Int.ofNat i).toNat < B.length ∧ 0 ≤ Int.ofNat j ∧ (Int.ofNat j).toNat < A.length ∧ (Int.ofNat j).toNat < A.length,
    rki_s0 A j →
      ((!rfar_0 (rki_s1 A j) ((A.getD (Int.ofNat j).toNat []).getD 1 0) ((A.getD (Int.ofNat j).toNat []).getD 2 0) ((A.getD (Int.ofNat j).toNat []).getD 3 0) ((A.getD (Int.ofNat j).toNat []).getD 4 0)
                        ((A.getD (Int.ofNat j).toNat []).getD 5 0) ((A.getD (Int.ofNat j).toNat []).getD 6 0) ((A.getD (Int.ofNat j).toNat []).getD 7 0 != 0) (rki_s1 B i)
                        ((B.getD (Int.ofNat i).toNat []).getD 1 0) d ||
                    !rfar_0 (rki_s1 A j) ((A.getD (Int.ofNat j).toNat []).getD 1 0) ((A.getD (Int.ofNat j).toNat []).getD 2 0) ((A.getD (Int.ofNat j).toNat []).getD 3 0)
                        ((A.getD (Int.ofNat j).toNat []).getD 4 0) ((A.getD (Int.ofNat j).toNat []).getD 5 0) ((A.getD (Int.ofNat j).toNat []).getD 6 0) ((A.getD (Int.ofNat j).toNat []).getD 7 0 != 0)
                        ((B.getD (Int.ofNat i).toNat []).getD 2 0) ((B.getD (Int.ofNat i).toNat []).getD 3 0) d ||
                  !rfar_0 (rki_s1 B i) ((B.getD (Int.ofNat i).toNat []).getD 1 0) ((B.getD (Int.ofNat i).toNat []).getD 2 0) ((B.getD (Int.ofNat i).toNat []).getD 3 0)
                      ((B.getD (Int.ofNat i).toNat []).getD 4 0) ((B.getD (Int.ofNat i).toNat []).getD 5 0) ((B.getD (Int.ofNat i).toNat []).getD 6 0) ((B.getD (Int.ofNat i).toNat []).getD 7 0 != 0)
                      (rki_s1 A j) ((A.getD (Int.ofNat j).toNat []).getD 1 0) d ||
                !rfar_0 (rki_s1 B i) ((B.getD (Int.ofNat i).toNat []).getD 1 0) ((B.getD (Int.ofNat i).toNat []).getD 2 0) ((B.getD (Int.ofNat i).toNat []).getD 3 0)
                    ((B.getD (Int.ofNat i).toNat []).getD 4 0) ((B.getD (Int.ofNat i).toNat []).getD 5 0) ((B.getD (Int.ofNat i).toNat []).getD 6 0) ((B.getD (Int.ofNat i).toNat []).getD 7 0 != 0)
                    ((A.getD (Int.ofNat j).toNat []).getD 2 0) ((A.getD (Int.ofNat j).toNat []).getD 3 0) d ||
              rcrosses_0 (rki_s1 B i) ((B.getD (Int.ofNat i).toNat []).getD 1 0) ((B.getD (Int.ofNat i).toNat []).getD 2 0) ((B.getD (Int.ofNat i).toNat []).getD 3 0)
                ((B.getD (Int.ofNat i).toNat []).getD 6 0) (rki_s1 A j) ((A.getD (Int.ofNat j).toNat []).getD 1 0) ((A.getD (Int.ofNat j).toNat []).getD 2 0) ((A.getD (Int.ofNat j).toNat []).getD 3 0)
                ((A.getD (Int.ofNat j).toNat []).getD 6 0)) =
            true →
          (((rkI A B d i).fin j).fst = true → Int.ofNat i = Int.ofNat i ∧ Int.ofNat ((rkI A B d i).fin j).snd = Int.ofNat j) ∧ (((rkI A B d i).fin j).fst = false → False)) ∧
        ((!rfar_0 (rki_s1 A j) ((A.getD (Int.ofNat j).toNat []).getD 1 0) ((A.getD (Int.ofNat j).toNat []).getD 2 0) ((A.getD (Int.ofNat j).toNat []).getD 3 0) ((A.getD (Int.ofNat j).toNat []).getD 4 0)
                        ((A.getD (Int.ofNat j).toNat []).getD 5 0) ((A.getD (Int.ofNat j).toNat []).getD 6 0) ((A.getD (Int.ofNat j).toNat []).getD 7 0 != 0) (rki_s1 B i)
                        ((B.getD (Int.ofNat i).toNat []).getD 1 0) d ||
                    !rfar_0 (rki_s1 A j) ((A.getD (Int.ofNat j).toNat []).getD 1 0) ((A.getD (Int.ofNat j).toNat []).getD 2 0) ((A.getD (Int.ofNat j).toNat []).getD 3 0)
                        ((A.getD (Int.ofNat j).toNat []).getD 4 0) ((A.getD (Int.ofNat j).toNat []).getD 5 0) ((A.getD (Int.ofNat j).toNat []).getD 6 0) ((A.getD (Int.ofNat j).toNat []).getD 7 0 != 0)
                        ((B.getD (Int.ofNat i).toNat []).getD 2 0) ((B.getD (Int.ofNat i).toNat []).getD 3 0) d ||
                  !rfar_0 (rki_s1 B i) ((B.getD (Int.ofNat i).toNat []).getD 1 0) ((B.getD (Int.ofNat i).toNat []).getD 2 0) ((B.getD (Int.ofNat i).toNat []).getD 3 0)
                      ((B.getD (Int.ofNat i).toNat []).getD 4 0) ((B.getD (Int.ofNat i).toNat []).getD 5 0) ((B.getD (Int.ofNat i).toNat []).getD 6 0) ((B.getD (Int.ofNat i).toNat []).getD 7 0 != 0)
                      (rki_s1 A j) ((A.getD (Int.ofNat j).toNat []).getD 1 0) d ||
                !rfar_0 (rki_s1 B i) ((B.getD (Int.ofNat i).toNat []).getD 1 0) ((B.getD (Int.ofNat i).toNat []).getD 2 0) ((B.getD (Int.ofNat i).toNat []).getD 3 0)
                    ((B.getD (Int.ofNat i).toNat []).getD 4 0) ((B.getD (Int.ofNat i).toNat []).getD 5 0) ((B.getD (Int.ofNat i).toNat []).getD 6 0) ((B.getD (Int.ofNat i).toNat []).getD 7 0 != 0)
                    ((A.getD (Int.ofNat j).toNat []).getD 2 0) ((A.getD (Int.ofNat j).toNat []).getD 3 0) d ||
              rcrosses_0 (rki_s1 B i) ((B.getD (Int.ofNat i).toNat []).getD 1 0) ((B.getD (Int.ofNat i).toNat []).getD 2 0) ((B.getD (Int.ofNat i).toNat []).getD 3 0)
                ((B.getD (Int.ofNat i).toNat []).getD 6 0) (rki_s1 A j) ((A.getD (Int.ofNat j).toNat []).getD 1 0) ((A.getD (Int.ofNat j).toNat []).getD 2 0) ((A.getD (Int.ofNat j).toNat []).getD 3 0)
                ((A.getD (Int.ofNat j).toNat []).getD 6 0)) =
            false →
          ((rkI A B d i).next j 1 ≤ A.length ∧ i < B.length ∧ A.length ≤ 1000000) ∧
            (rkI A B d i).μ ((rkI A B d i).next j 1) < (rkI A B d i).μ j ∧
              (rkI A B d i).fin ((rkI A B d i).next j 1) = (rkI A B d i).fin j ∧ Int.ofNat ((rkI A B d i).next j 1) = IntKind.i64.wrap (Int.ofNat j + 1) ∧ Int.ofNat i = Int.ofNat i),
    decide (Int.ofNat j < Int.ofNat A.length) = false → (((rkI A B d i).fin j).fst = true → False) ∧ (((rkI A B d i).fin j).fst = false → Int.ofNat i = Int.ofNat i)]
theorem rki_round (A B : List (List Int)) (d : Int) (i j : Nat) (hNeeds : ∀ pN ∈ (rki_needs A B d i j), pN) : RoundOk (roundC (rkI A B d i) (bodyOf Try.prog (sums K_ccheckNN) L_cko 32 1) 47 j) :=
  RoundOk.of (ps := (rki_needs A B d i j)) (by kernel_rfl) (by kernel_rfl) hNeeds
theorem rki_rounds (A B : List (List Int)) (d : Int) (i : Nat) : RoundsOk (rkI A B d i) (bodyOf Try.prog (sums K_ccheckNN) L_cko 32 1) 47 := by
  intro j hJ
  obtain ⟨h1, h2, h3⟩ : j ≤ A.length ∧ i < B.length ∧ A.length ≤ 1000000 := hJ
  have es : rki_s0 A j → j < A.length := fun h => by simpa [rki_s0] using h
  refine rki_round A B d i j ?_
  unfold rki_needs
  refine all3 ?_ ?_ ?_
  · intro h
    have hj := es h
    exact ⟨Int.natCast_nonneg _, h2, h2, Int.natCast_nonneg _, hj, hj⟩
  · intro h
    have hj := es h
    have ef : (rkI A B d i).fin j = bif badR A B d i j then (true, j) else fnd (badR A B d i) (A.length - (j + 1)) (j + 1) := fnd_step hj
    refine ⟨fun hb => ?_, fun hb => ?_⟩
    · have hb : badR A B d i j = true := hb
      rw [ef, hb]
      exact ⟨fun _ => ⟨rfl, rfl⟩, fun h => by cases h⟩
    · have hb : badR A B d i j = false := hb
      rw [ef, hb]
      refine ⟨⟨by show j + 1 ≤ _; omega, h2, h3⟩, ?_, rfl, ?_, rfl⟩
      · show A.length - (j + 1) < A.length - j; omega
      · show Int.ofNat (j + 1) = _
        rw [wrI (by simp; omega) (by simp; omega)]; rfl
  · intro h
    have hj : j = A.length := by simp at h; omega
    have ef : (rkI A B d i).fin j = (false, j) := fnd_end (by omega)
    rw [ef]
    exact ⟨fun h => (by cases h), fun _ => rfl⟩
noncomputable def rkiL : LoopS := fun env mem m => match eRow KE env mem 0, eRow KE env mem 1, eInt env 9, eInt env 10 with
  | some A, some B, some d, some i => famS (rkI A B d i.toNat) 47 (fun _ _ => some 0) env mem m
  | _, _, _, _ => none
noncomputable def L_rki : FuncId → Nat → Option LoopS := addL L_cko 32 6 rkiL
theorem known_rkiL : Known Try.prog (sums K_ccheckNN) L_rki := by
  refine known_addL 1 known_ccheckNN (by kernel_rfl) (codeOk_of fun env mem m x h => ?_)
  unfold rkiL at h
  have hlen : (loopList Try.prog 32).length = 2 := by kernel_rfl
  split at h
  · exact ⟨_, fam_ok (bodyOf_ok plainN known_ccheckNN (by omega)) (rki_rounds _ _ _ _), h⟩
  · cases h
noncomputable def rowBadR (A B : List (List Int)) (d : Int) (i : Nat) : Bool := (fnd (badR A B d i) (A.length - 0) 0).1
noncomputable def rkO (A B : List (List Int)) (d : Int) : Fam Nat (Bool × Nat) where
  k := 30
  E i := [(10, ent 1000000000 (.one (I (Int.ofNat i)))), (9, ent 10 (.one (I d))), (0, ent 0 (.one (.wh 0))), (1, ent 2 (.one (.wh 1)))]
  M i := [rowE 0 2 A, rowE 1 3 B]
  out t := .ite t.1 (.leaf .ret [(6, ent 13 (.one (I (Int.ofNat t.2)))), (7, ent 14 (.one (I (Int.ofNat (fnd (badR A B d t.2) (A.length - 0) 0).2)))), (8, ent 15 (.one (.bool (.c false))))] [rowE 0 2 A, rowE 1 3 B])
    (.leaf (.exit 0) [] [rowE 0 2 A, rowE 1 3 B])
  fin i := fnd (rowBadR A B d) (B.length - i) i
  next i _ := i + 1
  J i := i ≤ B.length ∧ A.length ≤ 1000000 ∧ B.length ≤ 1000000
  μ i := B.length - i
noncomputable def rko_s0 (B : List (List Int)) (i : Nat) : Prop :=
  decide (Int.ofNat i < Int.ofNat B.length) = true
noncomputable def rko_needs (A : List (List Int)) (B : List (List Int)) (d : Int) (i : Nat) : List Prop :=
  [rko_s0 B i → (0 ≤ A.length ∧ (Int.ofNat i).toNat < B.length ∧ A.length ≤ 1000000) ∧ Int.ofNat 0 = 0 ∧ Int.ofNat (Int.ofNat i).toNat = Int.ofNat i,
    rko_s0 B i →
      (((rkI A B d (Int.ofNat i).toNat).fin 0).fst = true →
          (((rkO A B d).fin i).fst = true →
              Int.ofNat ((rkO A B d).fin i).snd = Int.ofNat (Int.ofNat i).toNat ∧
                Int.ofNat (fnd (badR A B d ((rkO A B d).fin i).snd) (A.length - 0) 0).snd = Int.ofNat ((rkI A B d (Int.ofNat i).toNat).fin 0).snd) ∧
            (((rkO A B d).fin i).fst = false → False)) ∧
        (((rkI A B d (Int.ofNat i).toNat).fin 0).fst = false →
          ((rkO A B d).next i 1 ≤ B.length ∧ A.length ≤ 1000000 ∧ B.length ≤ 1000000) ∧
            (rkO A B d).μ ((rkO A B d).next i 1) < (rkO A B d).μ i ∧
              (rkO A B d).fin ((rkO A B d).next i 1) = (rkO A B d).fin i ∧ Int.ofNat ((rkO A B d).next i 1) = IntKind.i64.wrap (Int.ofNat (Int.ofNat i).toNat + 1)),
    decide (Int.ofNat i < Int.ofNat B.length) = false → ((rkO A B d).fin i).fst = true → False]
theorem rko_round (A B : List (List Int)) (d : Int) (i : Nat) (hNeeds : ∀ pN ∈ (rko_needs A B d i), pN) : RoundOk (roundC (rkO A B d) (bodyOf Try.prog (sums K_ccheckNN) L_rki 32 0) 12 i) :=
  RoundOk.of (ps := (rko_needs A B d i)) (by kernel_rfl) (by kernel_rfl) hNeeds
theorem rko_rounds (A B : List (List Int)) (d : Int) : RoundsOk (rkO A B d) (bodyOf Try.prog (sums K_ccheckNN) L_rki 32 0) 12 := by
  intro i hJ
  obtain ⟨h1, h2, h3⟩ : i ≤ B.length ∧ A.length ≤ 1000000 ∧ B.length ≤ 1000000 := hJ
  have es : rko_s0 B i → i < B.length := fun h => by simpa [rko_s0] using h
  refine rko_round A B d i ?_
  unfold rko_needs
  refine all3 ?_ ?_ ?_
  · intro h
    have hi := es h
    exact ⟨⟨Nat.zero_le _, hi, h2⟩, rfl, rfl⟩
  · intro h
    have hi := es h
    have ef : (rkO A B d).fin i = bif rowBadR A B d i then (true, i) else fnd (rowBadR A B d) (B.length - (i + 1)) (i + 1) := fnd_step hi
    refine ⟨fun hb => ?_, fun hb => ?_⟩
    · have hb : rowBadR A B d i = true := hb
      rw [ef, hb]
      exact ⟨fun _ => ⟨rfl, rfl⟩, fun h => by cases h⟩
    · have hb : rowBadR A B d i = false := hb
      rw [ef, hb]
      refine ⟨⟨by show i + 1 ≤ _; omega, h2, h3⟩, ?_, rfl, ?_⟩
      · show B.length - (i + 1) < B.length - i; omega
      · show Int.ofNat (i + 1) = IntKind.i64.wrap (Int.ofNat i + 1)
        rw [wrI (by simp; omega) (by simp; omega)]; rfl
  · intro h
    have hi : i = B.length := by simp at h; omega
    have ef : (rkO A B d).fin i = (false, i) := fnd_end (by omega)
    rw [ef]
    exact fun h => by cases h
noncomputable def rkoL : LoopS := fun env mem m => match eRow KE env mem 0, eRow KE env mem 1, eInt env 9 with
    | some A, some B, some d => famS (rkO A B d) 12 (fun _ _ => some 0) env mem m
    | _, _, _ => none
noncomputable def L_rko : FuncId → Nat → Option LoopS := addL L_rki 32 3 rkoL
theorem known_rkoL : Known Try.prog (sums K_ccheckNN) L_rko := by
  refine known_addL 0 known_rkiL (by kernel_rfl) (codeOk_of fun env mem m x h => ?_)
  unfold rkoL at h
  have hlen : (loopList Try.prog 32).length = 2 := by kernel_rfl
  split at h
  · exact ⟨_, fam_ok (bodyOf_ok plainN known_rkiL (by omega)) (rko_rounds _ _ _), h⟩
  · cases h
noncomputable def rcheck_tpl : Tpl := ⟨[.one (.wh 0), .one (.wh 1), .one (.int .i64)], [(0, .row false 28 8 2 [.int .i64, .int .i64, .int .i64, .int .i64, .int .i64, .int .i64, .int .i64, .bool]), (1, .row false 28 8 3 [.int .i64, .int .i64, .int .i64, .int .i64, .int .i64, .int .i64, .int .i64, .bool])], 4⟩
noncomputable def rcheck_0 (r : Int) (A : List (List Int)) (B : List (List Int)) : Int :=
  bif ((rkO A B (IntKind.i64.wrap ((if 3 > r then 3 else r) - 3))).fin 0).fst then Int.ofNat ((rkO A B (IntKind.i64.wrap ((if 3 > r then 3 else r) - 3))).fin 0).snd else 0
noncomputable def rcheck_s0 (r : Int) : Int :=
  IntKind.i64.wrap ((if 3 > r then 3 else r) - 3)
noncomputable def rcheck_1 (r : Int) (A : List (List Int)) (B : List (List Int)) : Int :=
  bif ((rkO A B (rcheck_s0 r)).fin 0).fst then Int.ofNat (fnd (badR A B (rcheck_s0 r) ((rkO A B (rcheck_s0 r)).fin 0).snd) (A.length - 0) 0).snd else 0
noncomputable def rcheck_2 (r : Int) (A : List (List Int)) (B : List (List Int)) : Bool :=
  !((rkO A B (IntKind.i64.wrap ((if 3 > r then 3 else r) - 3))).fin 0).fst
noncomputable def rcheck_needs (A : List (List Int)) (B : List (List Int)) : List Prop :=
  [0 ≤ B.length ∧ A.length ≤ 1000000 ∧ B.length ≤ 1000000, Int.ofNat 0 = 0]
theorem rcheck_weak {A : List (List Int)} {B : List (List Int)} (hW : ∀ q ∈ ([A.length ≤ 1000000, B.length ≤ 1000000] : List Prop), q) : ∀ q ∈ (rcheck_needs A B), q := by
  simp only [List.mem_cons, List.not_mem_nil, or_false, forall_eq_or_imp, forall_eq] at hW
  unfold rcheck_needs
  simp only [List.forall_mem_cons, List.not_mem_nil, false_implies, implies_true, and_true]
  exact ⟨⟨Nat.zero_le _, hW.1, hW.2⟩, rfl⟩
set_option maxRecDepth 1000000 in
theorem rcheck_runs (r : Int) (A B : List (List Int)) (hNeeds : ∀ pN ∈ (rcheck_needs A B), pN) : Runs (runF (sums K_ccheckNN) L_rko 32) (rcheck_tpl.args [.i r]) (rcheck_tpl.memo [.i r] [A, B]) rcheck_tpl.n (SV.tup [(false, [SC.int IntKind.i64 (SI.v (rcheck_0 r A B))]), (false, [SC.int IntKind.i64 (SI.v (rcheck_1 r A B))]), (false, [SC.bool (SB.v (rcheck_2 r A B))])])
    ([(0, Obj.row false 28 8 (RowC.lst 2 [CK.int IntKind.i64, CK.int IntKind.i64, CK.int IntKind.i64, CK.int IntKind.i64, CK.int IntKind.i64, CK.int IntKind.i64, CK.int IntKind.i64, CK.bool] A)),
    (1, Obj.row false 28 8 (RowC.lst 3 [CK.int IntKind.i64, CK.int IntKind.i64, CK.int IntKind.i64, CK.int IntKind.i64, CK.int IntKind.i64, CK.int IntKind.i64, CK.int IntKind.i64, CK.bool] B))]) :=
  Runs.of (ps := (rcheck_needs A B)) (by kernel_rfl) (by kernel_rfl) hNeeds
noncomputable def rcheck_out : List Pm → Lss → Option CRes
  | [.i r], [A, B] => some ⟨SV.tup [(false, [SC.int IntKind.i64 (SI.v (rcheck_0 r A B))]), (false, [SC.int IntKind.i64 (SI.v (rcheck_1 r A B))]), (false, [SC.bool (SB.v (rcheck_2 r A B))])],
    [(0, Obj.row false 28 8 (RowC.lst 2 [CK.int IntKind.i64, CK.int IntKind.i64, CK.int IntKind.i64, CK.int IntKind.i64, CK.int IntKind.i64, CK.int IntKind.i64, CK.int IntKind.i64, CK.bool] A)),
    (1, Obj.row false 28 8 (RowC.lst 3 [CK.int IntKind.i64, CK.int IntKind.i64, CK.int IntKind.i64, CK.int IntKind.i64, CK.int IntKind.i64, CK.int IntKind.i64, CK.int IntKind.i64, CK.bool] B))],
    [A.length ≤ 1000000, B.length ≤ 1000000], [], 45⟩
  | _, _ => none
theorem rcheck_ok : FOk Try.prog 32 (tplS rcheck_tpl rcheck_out) := by
  refine tplS_ok (runF_ok known_rkoL 32) fun ps ls r hr hn _ => ?_
  unfold rcheck_out at hr
  split at hr
  · cases hr; exact ⟨_, rcheck_runs _ _ _ (rcheck_weak (by exact hn)), fun _ => rfl⟩
  · cases hr
noncomputable def K_rcheck : List (Nat × Summ) := (32, tplS rcheck_tpl rcheck_out) :: K_ccheckNN
theorem known_rcheck : Known Try.prog (sums K_rcheck) L_rko := known_cons known_rkoL rcheck_ok
noncomputable def rcheckNN_tpl : Tpl := ⟨[.one .nilsl, .one .nilsl, .one (.int .i64)], [], 0⟩
set_option maxRecDepth 1000000 in
theorem rcheckNN_runs (r : Int) : Runs (runF (sums K_rcheck) L_rko 32) (rcheckNN_tpl.args [.i r]) (rcheckNN_tpl.memo [.i r] []) rcheckNN_tpl.n (SV.tup [(false, [SC.int IntKind.i64 (SI.c 0)]), (false, [SC.int IntKind.i64 (SI.c 0)]), (false, [SC.bool (SB.c true)])])
    ([]) :=
  Runs.of (ps := []) (by kernel_rfl) (by kernel_rfl) (by simp)
noncomputable def rcheckNN_out : List Pm → Lss → Option CRes
  | [.i r], [] => some ⟨SV.tup [(false, [SC.int IntKind.i64 (SI.c 0)]), (false, [SC.int IntKind.i64 (SI.c 0)]), (false, [SC.bool (SB.c true)])],
    [],
    [], [], 15⟩
  | _, _ => none
theorem rcheckNN_ok : FOk Try.prog 32 (tplS rcheckNN_tpl rcheckNN_out) := by
  refine tplS_ok (runF_ok known_rcheck 32) fun ps ls r hr hn _ => ?_
  unfold rcheckNN_out at hr
  split at hr
  · cases hr; exact ⟨_, rcheckNN_runs _, fun _ => rfl⟩
  · cases hr
noncomputable def K_rcheckNN : List (Nat × Summ) := (32, orS (tplS rcheckNN_tpl rcheckNN_out) (tplS rcheck_tpl rcheck_out)) :: K_rcheck
theorem known_rcheckNN : Known Try.prog (sums K_rcheckNN) L_rko := known_cons known_rcheck (orS_ok rcheckNN_ok rcheck_ok)
end Go.Proofs.Ythgiaoidekdpfaa
