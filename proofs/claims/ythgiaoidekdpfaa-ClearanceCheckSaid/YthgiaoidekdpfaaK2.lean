/-
  CHECK: the loops. Conditions: none.
-/
import Derived.Test.YthgiaoidekdpfaaK1
set_option linter.all false
namespace Go.Proofs.Ythgiaoidekdpfaa
open Go.SX Go.RowKit
noncomputable def KE : List CK := [.int .i64, .int .i64, .int .i64, .int .i64, .int .i64, .int .i64, .int .i64, .bool]
noncomputable def rowE (id tag : Nat) (xs : List (List Int)) : Nat × SX.Obj := (id, .row false 28 8 (.lst tag KE xs))
/-- The first index, from j on, of k in all, at which P holds. -/
noncomputable def fnd (P : Nat → Bool) : Nat → Nat → Bool × Nat
  | 0, j => (false, j)
  | k + 1, j => bif P j then (true, j) else fnd P k (j + 1)
noncomputable def ge (X : List (List Int)) (i k : Nat) : Int := (X.getD i []).getD k 0
noncomputable def gb (X : List (List Int)) (i : Nat) : Bool := (X.getD i []).getD 7 0 != 0
/-- A pair that is too near. -/
noncomputable def badP (A B : List (List Int)) (d : Int) (i j : Nat) : Bool :=
  !capart_0 (ge B i 0) (ge B i 1) (ge B i 2) (ge B i 3) (ge A j 0) (ge A j 1) (ge A j 2) (ge A j 3) (ge A j 4) (ge A j 5) (ge A j 6) (gb A j) d ||
    !capart_0 (ge A j 0) (ge A j 1) (ge A j 2) (ge A j 3) (ge B i 0) (ge B i 1) (ge B i 2) (ge B i 3) (ge B i 4) (ge B i 5) (ge B i 6) (gb B i) d ||
    ccross_0 (ge B i 0) (ge B i 1) (ge B i 2) (ge B i 3) (ge B i 6) (ge A j 0) (ge A j 1) (ge A j 2) (ge A j 3) (ge A j 6)
theorem all3 {p q r : Prop} (hp : p) (hq : q) (hr : r) : ∀ x ∈ [p, q, r], x := by
  intro x hx
  rcases List.mem_cons.1 hx with rfl | hx
  · exact hp
  rcases List.mem_cons.1 hx with rfl | hx
  · exact hq
  rcases List.mem_cons.1 hx with rfl | hx
  · exact hr
  · cases hx
theorem all2 {p q : Prop} (hp : p) (hq : q) : ∀ x ∈ [p, q], x := by
  intro x hx
  rcases List.mem_cons.1 hx with rfl | hx
  · exact hp
  rcases List.mem_cons.1 hx with rfl | hx
  · exact hq
  · cases hx
theorem fnd_step {P : Nat → Bool} {n j : Nat} (h : j < n) : fnd P (n - j) j = bif P j then (true, j) else fnd P (n - (j + 1)) (j + 1) := by
  have : n - j = (n - (j + 1)) + 1 := by omega
  rw [this]; rfl
theorem fnd_end {P : Nat → Bool} {n j : Nat} (h : n ≤ j) : fnd P (n - j) j = (false, j) := by
  have : n - j = 0 := by omega
  rw [this]; rfl
noncomputable def ckI (A B : List (List Int)) (d : Int) (i : Nat) : Fam Nat (Bool × Nat) where
  k := 30
  E j := [(26, ent 1000000000 (.one (I (Int.ofNat j)))), (25, ent 69 (.one (I (Int.ofNat A.length)))), (24, ent 68 (.one (.wh 0))), (10, ent 58 (.one (I (Int.ofNat i)))), (11, ent 57 (.one (.ptr 48 0))), (19, ent 1000000001 (.one (I (Int.ofNat i)))), (18, ent 12 (.one (I (Int.ofNat B.length)))), (17, ent 11 (.one (.wh 1))), (9, ent 10 (.one (I d))), (0, ent 0 (.one (.wh 0)))]
  M j := [(48, .blk 28 [(59, I (ge B i 0)), (60, I (ge B i 1)), (61, I (ge B i 2)), (62, I (ge B i 3)), (63, I (ge B i 4)), (64, I (ge B i 5)), (65, I (ge B i 6)), (66, .bool (.v (gb B i)))]), rowE 0 2 A, rowE 1 3 B]
  out t := .ite t.1 (.leaf .ret [(6, ent 72 (.one (I (Int.ofNat i)))), (7, ent 73 (.one (I (Int.ofNat t.2)))), (8, ent 74 (.one (.bool (.c false))))] [rowE 0 2 A, rowE 1 3 B])
    (.leaf (.exit 2) [(19, ent 75 (.one (I (Int.ofNat i)))), (18, ent 12 (.one (I (Int.ofNat B.length)))), (17, ent 11 (.one (.wh 1))), (9, ent 10 (.one (I d))), (0, ent 0 (.one (.wh 0)))] [rowE 0 2 A, rowE 1 3 B])
  fin j := fnd (badP A B d i) (A.length - j) j
  next j _ := j + 1
  J j := j ≤ A.length ∧ i < B.length ∧ A.length ≤ 1000000
  μ j := A.length - j
noncomputable def cki_s0 (A : List (List Int)) (j : Nat) : Prop :=
  decide (Int.ofNat j < Int.ofNat A.length) = true
noncomputable def cki_s1 (A : List (List Int)) (j : Nat) : Int :=
  (A.getD (Int.ofNat j).toNat []).getD 0 0
noncomputable def cki_needs (A : List (List Int)) (B : List (List Int)) (d : Int) (i : Nat) (j : Nat) : List Prop :=
  [cki_s0 A j → 0 ≤ Int.ofNat j ∧ (Int.ofNat j).toNat < A.length ∧ (Int.ofNat j).toNat < A.length,
    cki_s0 A j →
      ((!capart_0 (ge B i 0) (ge B i 1) (ge B i 2) (ge B i 3) (cki_s1 A j) ((A.getD (Int.ofNat j).toNat []).getD 1 0) ((A.getD (Int.ofNat j).toNat []).getD 2 0)
                    ((A.getD (Int.ofNat j).toNat []).getD 3 0) ((A.getD (Int.ofNat j).toNat []).getD 4 0) ((A.getD (Int.ofNat j).toNat []).getD 5 0) ((A.getD (Int.ofNat j).toNat []).getD 6 0)
                    ((A.getD (Int.ofNat j).toNat []).getD 7 0 != 0) d ||
                !capart_0 (cki_s1 A j) ((A.getD (Int.ofNat j).toNat []).getD 1 0) ((A.getD (Int.ofNat j).toNat []).getD 2 0) ((A.getD (Int.ofNat j).toNat []).getD 3 0) (ge B i 0) (ge B i 1) (ge B i 2)
                    (ge B i 3) (ge B i 4) (ge B i 5) (ge B i 6) (gb B i) d ||
              ccross_0 (ge B i 0) (ge B i 1) (ge B i 2) (ge B i 3) (ge B i 6) (cki_s1 A j) ((A.getD (Int.ofNat j).toNat []).getD 1 0) ((A.getD (Int.ofNat j).toNat []).getD 2 0)
                ((A.getD (Int.ofNat j).toNat []).getD 3 0) ((A.getD (Int.ofNat j).toNat []).getD 6 0)) =
            true →
          (((ckI A B d i).fin j).fst = true → Int.ofNat i = Int.ofNat i ∧ Int.ofNat ((ckI A B d i).fin j).snd = Int.ofNat j) ∧ (((ckI A B d i).fin j).fst = false → False)) ∧
        ((!capart_0 (ge B i 0) (ge B i 1) (ge B i 2) (ge B i 3) (cki_s1 A j) ((A.getD (Int.ofNat j).toNat []).getD 1 0) ((A.getD (Int.ofNat j).toNat []).getD 2 0)
                    ((A.getD (Int.ofNat j).toNat []).getD 3 0) ((A.getD (Int.ofNat j).toNat []).getD 4 0) ((A.getD (Int.ofNat j).toNat []).getD 5 0) ((A.getD (Int.ofNat j).toNat []).getD 6 0)
                    ((A.getD (Int.ofNat j).toNat []).getD 7 0 != 0) d ||
                !capart_0 (cki_s1 A j) ((A.getD (Int.ofNat j).toNat []).getD 1 0) ((A.getD (Int.ofNat j).toNat []).getD 2 0) ((A.getD (Int.ofNat j).toNat []).getD 3 0) (ge B i 0) (ge B i 1) (ge B i 2)
                    (ge B i 3) (ge B i 4) (ge B i 5) (ge B i 6) (gb B i) d ||
              ccross_0 (ge B i 0) (ge B i 1) (ge B i 2) (ge B i 3) (ge B i 6) (cki_s1 A j) ((A.getD (Int.ofNat j).toNat []).getD 1 0) ((A.getD (Int.ofNat j).toNat []).getD 2 0)
                ((A.getD (Int.ofNat j).toNat []).getD 3 0) ((A.getD (Int.ofNat j).toNat []).getD 6 0)) =
            false →
          ((ckI A B d i).next j 1 ≤ A.length ∧ i < B.length ∧ A.length ≤ 1000000) ∧
            (ckI A B d i).μ ((ckI A B d i).next j 1) < (ckI A B d i).μ j ∧
              (ckI A B d i).fin ((ckI A B d i).next j 1) = (ckI A B d i).fin j ∧ Int.ofNat ((ckI A B d i).next j 1) = IntKind.i64.wrap (Int.ofNat j + 1) ∧ Int.ofNat i = Int.ofNat i),
    decide (Int.ofNat j < Int.ofNat A.length) = false → (((ckI A B d i).fin j).fst = true → False) ∧ (((ckI A B d i).fin j).fst = false → Int.ofNat i = Int.ofNat i)]
theorem cki_round (A B : List (List Int)) (d : Int) (i j : Nat) (hNeeds : ∀ pN ∈ (cki_needs A B d i j), pN) : RoundOk (roundC (ckI A B d i) (bodyOf Try.prog (sums K_capart) L_mul 31 1) 71 j) :=
  RoundOk.of (ps := (cki_needs A B d i j)) (by kernel_rfl) (by kernel_rfl) hNeeds
theorem cki_rounds (A B : List (List Int)) (d : Int) (i : Nat) : RoundsOk (ckI A B d i) (bodyOf Try.prog (sums K_capart) L_mul 31 1) 71 := by
  intro j hJ
  obtain ⟨h1, h2, h3⟩ : j ≤ A.length ∧ i < B.length ∧ A.length ≤ 1000000 := hJ
  have es : cki_s0 A j → j < A.length := fun h => by simpa [cki_s0] using h
  refine cki_round A B d i j ?_
  unfold cki_needs
  refine all3 ?_ ?_ ?_
  · intro h
    have hj := es h
    exact ⟨Int.natCast_nonneg _, hj, hj⟩
  · intro h
    have hj := es h
    have ef : (ckI A B d i).fin j = bif badP A B d i j then (true, j) else fnd (badP A B d i) (A.length - (j + 1)) (j + 1) := fnd_step hj
    refine ⟨fun hb => ?_, fun hb => ?_⟩
    · have hb : badP A B d i j = true := hb
      rw [ef, hb]
      exact ⟨fun _ => ⟨rfl, rfl⟩, fun h => by cases h⟩
    · have hb : badP A B d i j = false := hb
      rw [ef, hb]
      refine ⟨⟨by show j + 1 ≤ _; omega, h2, h3⟩, ?_, rfl, ?_, rfl⟩
      · show A.length - (j + 1) < A.length - j; omega
      · show Int.ofNat (j + 1) = _
        rw [wrI (by simp; omega) (by simp; omega)]; rfl
  · intro h
    have hj : j = A.length := by simp at h; omega
    have ef : (ckI A B d i).fin j = (false, j) := fnd_end (by omega)
    rw [ef]
    exact ⟨fun h => (by cases h), fun _ => rfl⟩
noncomputable def ckiL : LoopS := fun env mem m => match eRow KE env mem 24, eRow KE env mem 17, eInt env 9, eInt env 19 with
  | some A, some B, some d, some i => famS (ckI A B d i.toNat) 71 (fun _ _ => some 0) env mem m
  | _, _, _, _ => none
noncomputable def L_cki : FuncId → Nat → Option LoopS := addL L_mul 31 6 ckiL
theorem known_ckiL : Known Try.prog (sums K_capart) L_cki := by
  refine known_addL 1 known_capart (by kernel_rfl) (codeOk_of fun env mem m x h => ?_)
  unfold ckiL at h
  have hlen : (loopList Try.prog 31).length = 2 := by kernel_rfl
  split at h
  · exact ⟨_, fam_ok (bodyOf_ok plainN known_capart (by omega)) (cki_rounds _ _ _ _), h⟩
  · cases h
noncomputable def rowBad (A B : List (List Int)) (d : Int) (i : Nat) : Bool := (fnd (badP A B d i) (A.length - 0) 0).1
noncomputable def ckO (A B : List (List Int)) (d : Int) : Fam Nat (Bool × Nat) where
  k := 30
  E i := [(19, ent 1000000000 (.one (I (Int.ofNat i)))), (18, ent 12 (.one (I (Int.ofNat B.length)))), (17, ent 11 (.one (.wh 1))), (9, ent 10 (.one (I d))), (0, ent 0 (.one (.wh 0)))]
  M i := [rowE 0 2 A, rowE 1 3 B]
  out t := .ite t.1 (.leaf .ret [(6, ent 15 (.one (I (Int.ofNat t.2)))), (7, ent 16 (.one (I (Int.ofNat (fnd (badP A B d t.2) (A.length - 0) 0).2)))), (8, ent 17 (.one (.bool (.c false))))] [rowE 0 2 A, rowE 1 3 B])
    (.leaf (.exit 0) [] [rowE 0 2 A, rowE 1 3 B])
  fin i := fnd (rowBad A B d) (B.length - i) i
  next i _ := i + 1
  J i := i ≤ B.length ∧ A.length ≤ 1000000 ∧ B.length ≤ 1000000
  μ i := B.length - i
noncomputable def ckN (B : List (List Int)) : Fam Nat Unit where
  k := 30
  E i := [(19, ent 1000000000 (.one (I (Int.ofNat i)))), (18, ent 10 (.one (I (Int.ofNat B.length)))), (17, ent 9 (.one (.wh 0))), (0, ent 0 (.one .nilsl))]
  M i := [rowE 0 1 B]
  out t := .leaf (.exit 0) [] [rowE 0 1 B]
  fin i := ()
  next i _ := i + 1
  J i := i ≤ B.length ∧ B.length ≤ 1000000
  μ i := B.length - i
noncomputable def ckn_s0 (B : List (List Int)) (i : Nat) : Prop :=
  decide (Int.ofNat i < Int.ofNat B.length) = true
noncomputable def ckn_needs (B : List (List Int)) (i : Nat) : List Prop :=
  [ckn_s0 B i → 0 ≤ Int.ofNat i ∧ (Int.ofNat i).toNat < B.length ∧ (Int.ofNat i).toNat < B.length,
    ckn_s0 B i →
      ((ckN B).next i 0 ≤ B.length ∧ B.length ≤ 1000000) ∧
        (ckN B).μ ((ckN B).next i 0) < (ckN B).μ i ∧ (ckN B).fin ((ckN B).next i 0) = (ckN B).fin i ∧ Int.ofNat ((ckN B).next i 0) = IntKind.i64.wrap (Int.ofNat i + 1)]
theorem ckn_round (B : List (List Int)) (i : Nat) (hNeeds : ∀ pN ∈ (ckn_needs B i), pN) : RoundOk (roundC (ckN B) (bodyOf Try.prog (sums K_capart) L_cki 31 0) 12 i) :=
  RoundOk.of (ps := (ckn_needs B i)) (by kernel_rfl) (by kernel_rfl) hNeeds
theorem ckn_rounds (B : List (List Int)) : RoundsOk (ckN B) (bodyOf Try.prog (sums K_capart) L_cki 31 0) 12 := by
  intro i hJ
  obtain ⟨h1, h2⟩ : i ≤ B.length ∧ B.length ≤ 1000000 := hJ
  have es : ckn_s0 B i → i < B.length := fun h => by simpa [ckn_s0] using h
  refine ckn_round B i ?_
  unfold ckn_needs
  refine all2 ?_ ?_
  · intro h
    have hi := es h
    exact ⟨Int.natCast_nonneg _, hi, hi⟩
  · intro h
    have hi := es h
    refine ⟨⟨by show i + 1 ≤ _; omega, h2⟩, ?_, rfl, ?_⟩
    · show B.length - (i + 1) < B.length - i; omega
    · show Int.ofNat (i + 1) = IntKind.i64.wrap (Int.ofNat i + 1)
      rw [wrI (by simp; omega) (by simp; omega)]; rfl
noncomputable def cko_s0 (B : List (List Int)) (i : Nat) : Prop :=
  decide (Int.ofNat i < Int.ofNat B.length) = true
noncomputable def cko_needs (A : List (List Int)) (B : List (List Int)) (d : Int) (i : Nat) : List Prop :=
  [cko_s0 B i →
      0 ≤ Int.ofNat i ∧
        (Int.ofNat i).toNat < B.length ∧
          (Int.ofNat i).toNat < B.length ∧ (0 ≤ A.length ∧ (Int.ofNat i).toNat < B.length ∧ A.length ≤ 1000000) ∧ Int.ofNat 0 = 0 ∧ Int.ofNat (Int.ofNat i).toNat = Int.ofNat i,
    cko_s0 B i →
      (((ckI A B d (Int.ofNat i).toNat).fin 0).fst = true →
          (((ckO A B d).fin i).fst = true →
              Int.ofNat ((ckO A B d).fin i).snd = Int.ofNat (Int.ofNat i).toNat ∧
                Int.ofNat (fnd (badP A B d ((ckO A B d).fin i).snd) (A.length - 0) 0).snd = Int.ofNat ((ckI A B d (Int.ofNat i).toNat).fin 0).snd) ∧
            (((ckO A B d).fin i).fst = false → False)) ∧
        (((ckI A B d (Int.ofNat i).toNat).fin 0).fst = false →
          ((ckO A B d).next i 1 ≤ B.length ∧ A.length ≤ 1000000 ∧ B.length ≤ 1000000) ∧
            (ckO A B d).μ ((ckO A B d).next i 1) < (ckO A B d).μ i ∧
              (ckO A B d).fin ((ckO A B d).next i 1) = (ckO A B d).fin i ∧ Int.ofNat ((ckO A B d).next i 1) = IntKind.i64.wrap (Int.ofNat (Int.ofNat i).toNat + 1)),
    decide (Int.ofNat i < Int.ofNat B.length) = false → ((ckO A B d).fin i).fst = true → False]
theorem cko_round (A B : List (List Int)) (d : Int) (i : Nat) (hNeeds : ∀ pN ∈ (cko_needs A B d i), pN) : RoundOk (roundC (ckO A B d) (bodyOf Try.prog (sums K_capart) L_cki 31 0) 14 i) :=
  RoundOk.of (ps := (cko_needs A B d i)) (by kernel_rfl) (by kernel_rfl) hNeeds
theorem cko_rounds (A B : List (List Int)) (d : Int) : RoundsOk (ckO A B d) (bodyOf Try.prog (sums K_capart) L_cki 31 0) 14 := by
  intro i hJ
  obtain ⟨h1, h2, h3⟩ : i ≤ B.length ∧ A.length ≤ 1000000 ∧ B.length ≤ 1000000 := hJ
  have es : cko_s0 B i → i < B.length := fun h => by simpa [cko_s0] using h
  refine cko_round A B d i ?_
  unfold cko_needs
  refine all3 ?_ ?_ ?_
  · intro h
    have hi := es h
    exact ⟨Int.natCast_nonneg _, hi, hi, ⟨Nat.zero_le _, hi, h2⟩, rfl, rfl⟩
  · intro h
    have hi := es h
    have ef : (ckO A B d).fin i = bif rowBad A B d i then (true, i) else fnd (rowBad A B d) (B.length - (i + 1)) (i + 1) := fnd_step hi
    refine ⟨fun hb => ?_, fun hb => ?_⟩
    · have hb : rowBad A B d i = true := hb
      rw [ef, hb]
      exact ⟨fun _ => ⟨rfl, rfl⟩, fun h => by cases h⟩
    · have hb : rowBad A B d i = false := hb
      rw [ef, hb]
      refine ⟨⟨by show i + 1 ≤ _; omega, h2, h3⟩, ?_, rfl, ?_⟩
      · show B.length - (i + 1) < B.length - i; omega
      · show Int.ofNat (i + 1) = IntKind.i64.wrap (Int.ofNat i + 1)
        rw [wrI (by simp; omega) (by simp; omega)]; rfl
  · intro h
    have hi : i = B.length := by simp at h; omega
    have ef : (ckO A B d).fin i = (false, i) := fnd_end (by omega)
    rw [ef]
    exact fun h => by cases h
noncomputable def ckoL : LoopS := fun env mem m => match SX.look env 0 with
  | some ⟨_, _, _, .one .nilsl⟩ => (match eRow KE env mem 17 with
    | some B => famS (ckN B) 12 (fun _ _ => some 0) env mem m
    | none => none)
  | _ => (match eRow KE env mem 0, eRow KE env mem 17, eInt env 9 with
    | some A, some B, some d => famS (ckO A B d) 14 (fun _ _ => some 0) env mem m
    | _, _, _ => none)
noncomputable def L_cko : FuncId → Nat → Option LoopS := addL L_cki 31 3 ckoL
theorem known_ckoL : Known Try.prog (sums K_capart) L_cko := by
  refine known_addL 0 known_ckiL (by kernel_rfl) (codeOk_of fun env mem m x h => ?_)
  unfold ckoL at h
  have hlen : (loopList Try.prog 31).length = 2 := by kernel_rfl
  split at h
  · split at h
    · exact ⟨_, fam_ok (bodyOf_ok plainN known_ckiL (by omega)) (ckn_rounds _), h⟩
    · cases h
  · split at h
    · exact ⟨_, fam_ok (bodyOf_ok plainN known_ckiL (by omega)) (cko_rounds _ _ _), h⟩
    · cases h
noncomputable def ccheck_tpl : Tpl := ⟨[.one (.wh 0), .one (.wh 1), .one (.int .i64)], [(0, .row false 28 8 2 [.int .i64, .int .i64, .int .i64, .int .i64, .int .i64, .int .i64, .int .i64, .bool]), (1, .row false 28 8 3 [.int .i64, .int .i64, .int .i64, .int .i64, .int .i64, .int .i64, .int .i64, .bool])], 4⟩
noncomputable def ccheck_0 (r : Int) (A : List (List Int)) (B : List (List Int)) : Int :=
  bif ((ckO A B (IntKind.i64.wrap ((if 3 > r then 3 else r) - 3))).fin 0).fst then Int.ofNat ((ckO A B (IntKind.i64.wrap ((if 3 > r then 3 else r) - 3))).fin 0).snd else 0
noncomputable def ccheck_s0 (r : Int) : Int :=
  IntKind.i64.wrap ((if 3 > r then 3 else r) - 3)
noncomputable def ccheck_1 (r : Int) (A : List (List Int)) (B : List (List Int)) : Int :=
  bif ((ckO A B (ccheck_s0 r)).fin 0).fst then Int.ofNat (fnd (badP A B (ccheck_s0 r) ((ckO A B (ccheck_s0 r)).fin 0).snd) (A.length - 0) 0).snd else 0
noncomputable def ccheck_2 (r : Int) (A : List (List Int)) (B : List (List Int)) : Bool :=
  !((ckO A B (IntKind.i64.wrap ((if 3 > r then 3 else r) - 3))).fin 0).fst
noncomputable def ccheck_needs (A : List (List Int)) (B : List (List Int)) : List Prop :=
  [0 ≤ B.length ∧ A.length ≤ 1000000 ∧ B.length ≤ 1000000, Int.ofNat 0 = 0]
theorem ccheck_weak {A : List (List Int)} {B : List (List Int)} (hW : ∀ q ∈ ([A.length ≤ 1000000, B.length ≤ 1000000] : List Prop), q) : ∀ q ∈ (ccheck_needs A B), q := by
  simp only [List.mem_cons, List.not_mem_nil, or_false, forall_eq_or_imp, forall_eq] at hW
  unfold ccheck_needs
  simp only [List.forall_mem_cons, List.not_mem_nil, false_implies, implies_true, and_true]
  exact ⟨⟨Nat.zero_le _, hW.1, hW.2⟩, rfl⟩
set_option maxRecDepth 1000000 in
theorem ccheck_runs (r : Int) (A B : List (List Int)) (hNeeds : ∀ pN ∈ (ccheck_needs A B), pN) : Runs (runF (sums K_capart) L_cko 31) (ccheck_tpl.args [.i r]) (ccheck_tpl.memo [.i r] [A, B]) ccheck_tpl.n (SV.tup [(false, [SC.int IntKind.i64 (SI.v (ccheck_0 r A B))]), (false, [SC.int IntKind.i64 (SI.v (ccheck_1 r A B))]), (false, [SC.bool (SB.v (ccheck_2 r A B))])])
    ([(0, Obj.row false 28 8 (RowC.lst 2 [CK.int IntKind.i64, CK.int IntKind.i64, CK.int IntKind.i64, CK.int IntKind.i64, CK.int IntKind.i64, CK.int IntKind.i64, CK.int IntKind.i64, CK.bool] A)),
    (1, Obj.row false 28 8 (RowC.lst 3 [CK.int IntKind.i64, CK.int IntKind.i64, CK.int IntKind.i64, CK.int IntKind.i64, CK.int IntKind.i64, CK.int IntKind.i64, CK.int IntKind.i64, CK.bool] B))]) :=
  Runs.of (ps := (ccheck_needs A B)) (by kernel_rfl) (by kernel_rfl) hNeeds
noncomputable def ccheck_out : List Pm → Lss → Option CRes
  | [.i r], [A, B] => some ⟨SV.tup [(false, [SC.int IntKind.i64 (SI.v (ccheck_0 r A B))]), (false, [SC.int IntKind.i64 (SI.v (ccheck_1 r A B))]), (false, [SC.bool (SB.v (ccheck_2 r A B))])],
    [(0, Obj.row false 28 8 (RowC.lst 2 [CK.int IntKind.i64, CK.int IntKind.i64, CK.int IntKind.i64, CK.int IntKind.i64, CK.int IntKind.i64, CK.int IntKind.i64, CK.int IntKind.i64, CK.bool] A)),
    (1, Obj.row false 28 8 (RowC.lst 3 [CK.int IntKind.i64, CK.int IntKind.i64, CK.int IntKind.i64, CK.int IntKind.i64, CK.int IntKind.i64, CK.int IntKind.i64, CK.int IntKind.i64, CK.bool] B))],
    [A.length ≤ 1000000, B.length ≤ 1000000], [], 47⟩
  | _, _ => none
theorem ccheck_ok : FOk Try.prog 31 (tplS ccheck_tpl ccheck_out) := by
  refine tplS_ok (runF_ok known_ckoL 31) fun ps ls r hr hn _ => ?_
  unfold ccheck_out at hr
  split at hr
  · cases hr; exact ⟨_, ccheck_runs _ _ _ (ccheck_weak (by exact hn)), fun _ => rfl⟩
  · cases hr
noncomputable def K_ccheck : List (Nat × Summ) := (31, tplS ccheck_tpl ccheck_out) :: K_capart
theorem known_ccheck : Known Try.prog (sums K_ccheck) L_cko := known_cons known_ckoL ccheck_ok
noncomputable def ccheckN_tpl : Tpl := ⟨[.one .nilsl, .one (.wh 0), .one (.int .i64)], [(0, .row false 28 8 1 [.int .i64, .int .i64, .int .i64, .int .i64, .int .i64, .int .i64, .int .i64, .bool])], 2⟩
noncomputable def ccheckN_needs (B : List (List Int)) : List Prop :=
  [0 ≤ B.length ∧ B.length ≤ 1000000, Int.ofNat 0 = 0]
theorem ccheckN_weak {B : List (List Int)} (hW : ∀ q ∈ ([B.length ≤ 1000000] : List Prop), q) : ∀ q ∈ (ccheckN_needs B), q := by
  simp only [List.mem_cons, List.not_mem_nil, or_false, forall_eq_or_imp, forall_eq] at hW
  unfold ccheckN_needs
  simp only [List.forall_mem_cons, List.not_mem_nil, false_implies, implies_true, and_true]
  exact ⟨⟨Nat.zero_le _, hW⟩, rfl⟩
set_option maxRecDepth 1000000 in
theorem ccheckN_runs (r : Int) (B : List (List Int)) (hNeeds : ∀ pN ∈ (ccheckN_needs B), pN) : Runs (runF (sums K_ccheck) L_cko 31) (ccheckN_tpl.args [.i r]) (ccheckN_tpl.memo [.i r] [B]) ccheckN_tpl.n (SV.tup [(false, [SC.int IntKind.i64 (SI.c 0)]), (false, [SC.int IntKind.i64 (SI.c 0)]), (false, [SC.bool (SB.c true)])])
    ([(0, Obj.row false 28 8 (RowC.lst 1 [CK.int IntKind.i64, CK.int IntKind.i64, CK.int IntKind.i64, CK.int IntKind.i64, CK.int IntKind.i64, CK.int IntKind.i64, CK.int IntKind.i64, CK.bool] B))]) :=
  Runs.of (ps := (ccheckN_needs B)) (by kernel_rfl) (by kernel_rfl) hNeeds
noncomputable def ccheckN_out : List Pm → Lss → Option CRes
  | [.i r], [B] => some ⟨SV.tup [(false, [SC.int IntKind.i64 (SI.c 0)]), (false, [SC.int IntKind.i64 (SI.c 0)]), (false, [SC.bool (SB.c true)])],
    [(0, Obj.row false 28 8 (RowC.lst 1 [CK.int IntKind.i64, CK.int IntKind.i64, CK.int IntKind.i64, CK.int IntKind.i64, CK.int IntKind.i64, CK.int IntKind.i64, CK.int IntKind.i64, CK.bool] B))],
    [B.length ≤ 1000000], [], 45⟩
  | _, _ => none
theorem ccheckN_ok : FOk Try.prog 31 (tplS ccheckN_tpl ccheckN_out) := by
  refine tplS_ok (runF_ok known_ccheck 31) fun ps ls r hr hn _ => ?_
  unfold ccheckN_out at hr
  split at hr
  · cases hr; exact ⟨_, ccheckN_runs _ _ (ccheckN_weak (by exact hn)), fun _ => rfl⟩
  · cases hr
noncomputable def K_ccheckN : List (Nat × Summ) := (31, orS (tplS ccheckN_tpl ccheckN_out) (tplS ccheck_tpl ccheck_out)) :: K_ccheck
theorem known_ccheckN : Known Try.prog (sums K_ccheckN) L_cko := known_cons known_ccheck (orS_ok ccheckN_ok ccheck_ok)
noncomputable def ccheckNN_tpl : Tpl := ⟨[.one .nilsl, .one .nilsl, .one (.int .i64)], [], 0⟩
set_option maxRecDepth 1000000 in
theorem ccheckNN_runs (r : Int) : Runs (runF (sums K_ccheckN) L_cko 31) (ccheckNN_tpl.args [.i r]) (ccheckNN_tpl.memo [.i r] []) ccheckNN_tpl.n (SV.tup [(false, [SC.int IntKind.i64 (SI.c 0)]), (false, [SC.int IntKind.i64 (SI.c 0)]), (false, [SC.bool (SB.c true)])])
    ([]) :=
  Runs.of (ps := []) (by kernel_rfl) (by kernel_rfl) (by simp)
noncomputable def ccheckNN_out : List Pm → Lss → Option CRes
  | [.i r], [] => some ⟨SV.tup [(false, [SC.int IntKind.i64 (SI.c 0)]), (false, [SC.int IntKind.i64 (SI.c 0)]), (false, [SC.bool (SB.c true)])],
    [],
    [], [], 14⟩
  | _, _ => none
theorem ccheckNN_ok : FOk Try.prog 31 (tplS ccheckNN_tpl ccheckNN_out) := by
  refine tplS_ok (runF_ok known_ccheckN 31) fun ps ls r hr hn _ => ?_
  unfold ccheckNN_out at hr
  split at hr
  · cases hr; exact ⟨_, ccheckNN_runs _, fun _ => rfl⟩
  · cases hr
noncomputable def K_ccheckNN : List (Nat × Summ) := (31, orS (tplS ccheckNN_tpl ccheckNN_out) (orS (tplS ccheckN_tpl ccheckN_out) (tplS ccheck_tpl ccheck_out))) :: K_ccheckN
theorem known_ccheckNN : Known Try.prog (sums K_ccheckNN) L_cko := known_cons known_ccheckN (orS_ok ccheckNN_ok (orS_ok ccheckN_ok ccheck_ok))
end Go.Proofs.Ythgiaoidekdpfaa
