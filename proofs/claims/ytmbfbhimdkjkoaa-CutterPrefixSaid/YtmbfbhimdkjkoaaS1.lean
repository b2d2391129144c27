/-
  SAME, at two lists that are equal: it returns true. Conditions: none.
-/
import Derived.Test.YtmbfbhimdkjkoaaE1
set_option linter.all false
namespace Go.Proofs.Ytmbfbhimdkjkoaa
open Go.SX Go.RowKit
noncomputable def sameM (xs : List (List Int)) (tag : Nat) : Mem := [rowI 0 2 xs, rowI 1 tag xs]
/-- The states in front of a round: the index. -/
noncomputable def sameF (xs : List (List Int)) : Fam Nat Unit where
  k := 10
  E j := [(5, ent 20 (.one (I (Int.ofNat j)))), (4, ent 4 (.one (.bool (.c false)))), (0, ent 0 (.one (.wh 0))), (1, ent 2 (.one (.wh 1)))]
  M _ := sameM xs 21
  out _ := .leaf (.exit 0) [] (sameM xs 21)
  fin _ := ()
  next j _ := j + 1
  J j := j ≤ xs.length ∧ xs.length ≤ 1000000
  μ j := xs.length - j
noncomputable def same_s0 (xs : List (List Int)) (j : Nat) : Prop :=
  decide (Int.ofNat j < Int.ofNat xs.length) = true
noncomputable def same_s1 (xs : List (List Int)) (j : Nat) : Int :=
  (xs.getD (Int.ofNat j).toNat []).getD 0 0
noncomputable def same_s2 (xs : List (List Int)) (j : Nat) : Bool :=
  (xs.getD (Int.ofNat j).toNat []).getD 13 0 != 0
noncomputable def same_s3 (xs : List (List Int)) (j : Nat) : Bool :=
  (xs.getD (Int.ofNat j).toNat []).getD 15 0 != 0
noncomputable def same_s4 (xs : List (List Int)) (j : Nat) : Bool :=
  (xs.getD (Int.ofNat j).toNat []).getD 21 0 != 0
noncomputable def same_needs (xs : List (List Int)) (j : Nat) : List Prop :=
  [same_s0 xs j → 0 ≤ Int.ofNat j ∧ (Int.ofNat j).toNat < xs.length ∧ (Int.ofNat j).toNat < xs.length ∧ 0 ≤ Int.ofNat j ∧ (Int.ofNat j).toNat < xs.length ∧ (Int.ofNat j).toNat < xs.length,
    same_s0 xs j →
     ((!(same_s1 xs j == same_s1 xs j &&
     ((xs.getD (Int.ofNat j).toNat []).getD 1 0 == (xs.getD (Int.ofNat j).toNat []).getD 1 0 &&
     ((xs.getD (Int.ofNat j).toNat []).getD 2 0 == (xs.getD (Int.ofNat j).toNat []).getD 2 0 &&
     ((xs.getD (Int.ofNat j).toNat []).getD 3 0 == (xs.getD (Int.ofNat j).toNat []).getD 3 0 &&
     ((xs.getD (Int.ofNat j).toNat []).getD 4 0 == (xs.getD (Int.ofNat j).toNat []).getD 4 0 &&
     ((xs.getD (Int.ofNat j).toNat []).getD 5 0 == (xs.getD (Int.ofNat j).toNat []).getD 5 0 &&
     ((xs.getD (Int.ofNat j).toNat []).getD 6 0 == (xs.getD (Int.ofNat j).toNat []).getD 6 0 &&
     ((xs.getD (Int.ofNat j).toNat []).getD 7 0 == (xs.getD (Int.ofNat j).toNat []).getD 7 0 &&
     ((xs.getD (Int.ofNat j).toNat []).getD 8 0 == (xs.getD (Int.ofNat j).toNat []).getD 8 0 &&
     ((xs.getD (Int.ofNat j).toNat []).getD 9 0 == (xs.getD (Int.ofNat j).toNat []).getD 9 0 &&
     ((xs.getD (Int.ofNat j).toNat []).getD 10 0 == (xs.getD (Int.ofNat j).toNat []).getD 10 0 &&
     ((xs.getD (Int.ofNat j).toNat []).getD 11 0 == (xs.getD (Int.ofNat j).toNat []).getD 11 0 &&
     ((xs.getD (Int.ofNat j).toNat []).getD 12 0 == (xs.getD (Int.ofNat j).toNat []).getD 12 0 &&
     (same_s2 xs j == same_s2 xs j &&
     ((xs.getD (Int.ofNat j).toNat []).getD 14 0 == (xs.getD (Int.ofNat j).toNat []).getD 14 0 &&
     (same_s3 xs j == same_s3 xs j &&
     ((xs.getD (Int.ofNat j).toNat []).getD 16 0 == (xs.getD (Int.ofNat j).toNat []).getD 16 0 &&
     ((xs.getD (Int.ofNat j).toNat []).getD 17 0 == (xs.getD (Int.ofNat j).toNat []).getD 17 0 &&
     ((xs.getD (Int.ofNat j).toNat []).getD 18 0 == (xs.getD (Int.ofNat j).toNat []).getD 18 0 &&
     ((xs.getD (Int.ofNat j).toNat []).getD 19 0 == (xs.getD (Int.ofNat j).toNat []).getD 19 0 &&
     ((xs.getD (Int.ofNat j).toNat []).getD 20 0 == (xs.getD (Int.ofNat j).toNat []).getD 20 0 && same_s4 xs j == same_s4 xs j)))))))))))))))))))))) =
     true →
     False) ∧
     ((!(same_s1 xs j == same_s1 xs j &&
     ((xs.getD (Int.ofNat j).toNat []).getD 1 0 == (xs.getD (Int.ofNat j).toNat []).getD 1 0 &&
     ((xs.getD (Int.ofNat j).toNat []).getD 2 0 == (xs.getD (Int.ofNat j).toNat []).getD 2 0 &&
     ((xs.getD (Int.ofNat j).toNat []).getD 3 0 == (xs.getD (Int.ofNat j).toNat []).getD 3 0 &&
     ((xs.getD (Int.ofNat j).toNat []).getD 4 0 == (xs.getD (Int.ofNat j).toNat []).getD 4 0 &&
     ((xs.getD (Int.ofNat j).toNat []).getD 5 0 == (xs.getD (Int.ofNat j).toNat []).getD 5 0 &&
     ((xs.getD (Int.ofNat j).toNat []).getD 6 0 == (xs.getD (Int.ofNat j).toNat []).getD 6 0 &&
     ((xs.getD (Int.ofNat j).toNat []).getD 7 0 == (xs.getD (Int.ofNat j).toNat []).getD 7 0 &&
     ((xs.getD (Int.ofNat j).toNat []).getD 8 0 == (xs.getD (Int.ofNat j).toNat []).getD 8 0 &&
     ((xs.getD (Int.ofNat j).toNat []).getD 9 0 == (xs.getD (Int.ofNat j).toNat []).getD 9 0 &&
     ((xs.getD (Int.ofNat j).toNat []).getD 10 0 == (xs.getD (Int.ofNat j).toNat []).getD 10 0 &&
     ((xs.getD (Int.ofNat j).toNat []).getD 11 0 == (xs.getD (Int.ofNat j).toNat []).getD 11 0 &&
     ((xs.getD (Int.ofNat j).toNat []).getD 12 0 == (xs.getD (Int.ofNat j).toNat []).getD 12 0 &&
     (same_s2 xs j == same_s2 xs j &&
     ((xs.getD (Int.ofNat j).toNat []).getD 14 0 == (xs.getD (Int.ofNat j).toNat []).getD 14 0 &&
     (same_s3 xs j == same_s3 xs j &&
     ((xs.getD (Int.ofNat j).toNat []).getD 16 0 == (xs.getD (Int.ofNat j).toNat []).getD 16 0 &&
     ((xs.getD (Int.ofNat j).toNat []).getD 17 0 == (xs.getD (Int.ofNat j).toNat []).getD 17 0 &&
     ((xs.getD (Int.ofNat j).toNat []).getD 18 0 == (xs.getD (Int.ofNat j).toNat []).getD 18 0 &&
     ((xs.getD (Int.ofNat j).toNat []).getD 19 0 == (xs.getD (Int.ofNat j).toNat []).getD 19 0 &&
     ((xs.getD (Int.ofNat j).toNat []).getD 20 0 == (xs.getD (Int.ofNat j).toNat []).getD 20 0 && same_s4 xs j == same_s4 xs j)))))))))))))))))))))) =
     false →
     ((sameF xs).next j 1 ≤ xs.length ∧ xs.length ≤ 1000000) ∧
     (sameF xs).μ ((sameF xs).next j 1) < (sameF xs).μ j ∧ (sameF xs).fin ((sameF xs).next j 1) = (sameF xs).fin j ∧ Int.ofNat ((sameF xs).next j 1) = IntKind.i64.wrap (Int.ofNat j + 1))]
theorem same_round (xs : List (List Int)) (j : Nat) (hNeeds : ∀ pN ∈ (same_needs xs j), pN) : RoundOk (roundC (sameF xs) (bodyOf Try.prog (sums K_awake) L_ap 20 0) 12 j) :=
  RoundOk.of (ps := (same_needs xs j)) (by kernel_rfl) (by kernel_rfl) hNeeds
theorem same_rounds (xs : List (List Int)) : RoundsOk (sameF xs) (bodyOf Try.prog (sums K_awake) L_ap 20 0) 12 := by
  rintro j ⟨h1, h2⟩
  refine same_round xs j fun q hq => ?_
  unfold same_needs at hq
  simp only [List.mem_cons, List.not_mem_nil, or_false, same_s0, same_s1, same_s2, same_s3, same_s4] at hq
  rcases hq with rfl | rfl
  · intro h; simp at h ⊢; omega
  · intro h
    simp at h
    refine ⟨fun h => by simp at h, fun _ => ?_⟩
    have e1 : IntKind.i64.wrap (Int.ofNat j + 1) = Int.ofNat (j + 1) := wrI (by simp; omega) (by simp; omega)
    simp only [sameF]
    exact ⟨⟨by omega, h2⟩, by omega, trivial, e1.symm⟩
noncomputable def smF (A B : List (List Int)) : Fam Nat Unit where
  k := 10
  E j := [(5, ent 20 (.one (I (Int.ofNat j)))), (4, ent 4 (.one (.bool (.c false)))), (0, ent 0 (.one (.sl 0 22 (.c 0) (.v B.length)))), (1, ent 2 (.one (.wh 1)))]
  M _ := [rowI 0 2 A, rowI 1 21 B]
  out _ := .leaf (.exit 0) [] [rowI 0 2 A, rowI 1 21 B]
  fin _ := ()
  next j _ := j + 1
  J j := j ≤ B.length ∧ B.length ≤ 1000000 ∧ A.take B.length = B
  μ j := B.length - j
noncomputable def sm_s0 (B : List (List Int)) (j : Nat) : Prop :=
  decide (Int.ofNat j < Int.ofNat B.length) = true
noncomputable def sm_needs (A : List (List Int)) (B : List (List Int)) (j : Nat) : List Prop :=
  [sm_s0 B j →
     0 ≤ Int.ofNat j ∧
     (Int.ofNat j).toNat < B.length ∧ (Int.ofNat j).toNat < A.length ∧ (Int.ofNat j).toNat < A.length ∧ 0 ≤ Int.ofNat j ∧ (Int.ofNat j).toNat < B.length ∧ (Int.ofNat j).toNat < B.length,
    sm_s0 B j →
     ((!((A.getD (Int.ofNat j).toNat []).getD 0 0 == (B.getD (Int.ofNat j).toNat []).getD 0 0 &&
     ((A.getD (Int.ofNat j).toNat []).getD 1 0 == (B.getD (Int.ofNat j).toNat []).getD 1 0 &&
     ((A.getD (Int.ofNat j).toNat []).getD 2 0 == (B.getD (Int.ofNat j).toNat []).getD 2 0 &&
     ((A.getD (Int.ofNat j).toNat []).getD 3 0 == (B.getD (Int.ofNat j).toNat []).getD 3 0 &&
     ((A.getD (Int.ofNat j).toNat []).getD 4 0 == (B.getD (Int.ofNat j).toNat []).getD 4 0 &&
     ((A.getD (Int.ofNat j).toNat []).getD 5 0 == (B.getD (Int.ofNat j).toNat []).getD 5 0 &&
     ((A.getD (Int.ofNat j).toNat []).getD 6 0 == (B.getD (Int.ofNat j).toNat []).getD 6 0 &&
     ((A.getD (Int.ofNat j).toNat []).getD 7 0 == (B.getD (Int.ofNat j).toNat []).getD 7 0 &&
     ((A.getD (Int.ofNat j).toNat []).getD 8 0 == (B.getD (Int.ofNat j).toNat []).getD 8 0 &&
     ((A.getD (Int.ofNat j).toNat []).getD 9 0 == (B.getD (Int.ofNat j).toNat []).getD 9 0 &&
     ((A.getD (Int.ofNat j).toNat []).getD 10 0 == (B.getD (Int.ofNat j).toNat []).getD 10 0 &&
     ((A.getD (Int.ofNat j).toNat []).getD 11 0 == (B.getD (Int.ofNat j).toNat []).getD 11 0 &&
     ((A.getD (Int.ofNat j).toNat []).getD 12 0 == (B.getD (Int.ofNat j).toNat []).getD 12 0 &&
     (((A.getD (Int.ofNat j).toNat []).getD 13 0 != 0) == ((B.getD (Int.ofNat j).toNat []).getD 13 0 != 0) &&
     ((A.getD (Int.ofNat j).toNat []).getD 14 0 == (B.getD (Int.ofNat j).toNat []).getD 14 0 &&
     (((A.getD (Int.ofNat j).toNat []).getD 15 0 != 0) == ((B.getD (Int.ofNat j).toNat []).getD 15 0 != 0) &&
     ((A.getD (Int.ofNat j).toNat []).getD 16 0 == (B.getD (Int.ofNat j).toNat []).getD 16 0 &&
     ((A.getD (Int.ofNat j).toNat []).getD 17 0 == (B.getD (Int.ofNat j).toNat []).getD 17 0 &&
     ((A.getD (Int.ofNat j).toNat []).getD 18 0 == (B.getD (Int.ofNat j).toNat []).getD 18 0 &&
     ((A.getD (Int.ofNat j).toNat []).getD 19 0 == (B.getD (Int.ofNat j).toNat []).getD 19 0 &&
     ((A.getD (Int.ofNat j).toNat []).getD 20 0 == (B.getD (Int.ofNat j).toNat []).getD 20 0 &&
     ((A.getD (Int.ofNat j).toNat []).getD 21 0 != 0) == ((B.getD (Int.ofNat j).toNat []).getD 21 0 != 0))))))))))))))))))))))) =
     true →
     False) ∧
     ((!((A.getD (Int.ofNat j).toNat []).getD 0 0 == (B.getD (Int.ofNat j).toNat []).getD 0 0 &&
     ((A.getD (Int.ofNat j).toNat []).getD 1 0 == (B.getD (Int.ofNat j).toNat []).getD 1 0 &&
     ((A.getD (Int.ofNat j).toNat []).getD 2 0 == (B.getD (Int.ofNat j).toNat []).getD 2 0 &&
     ((A.getD (Int.ofNat j).toNat []).getD 3 0 == (B.getD (Int.ofNat j).toNat []).getD 3 0 &&
     ((A.getD (Int.ofNat j).toNat []).getD 4 0 == (B.getD (Int.ofNat j).toNat []).getD 4 0 &&
     ((A.getD (Int.ofNat j).toNat []).getD 5 0 == (B.getD (Int.ofNat j).toNat []).getD 5 0 &&
     ((A.getD (Int.ofNat j).toNat []).getD 6 0 == (B.getD (Int.ofNat j).toNat []).getD 6 0 &&
     ((A.getD (Int.ofNat j).toNat []).getD 7 0 == (B.getD (Int.ofNat j).toNat []).getD 7 0 &&
     ((A.getD (Int.ofNat j).toNat []).getD 8 0 == (B.getD (Int.ofNat j).toNat []).getD 8 0 &&
     ((A.getD (Int.ofNat j).toNat []).getD 9 0 == (B.getD (Int.ofNat j).toNat []).getD 9 0 &&
     ((A.getD (Int.ofNat j).toNat []).getD 10 0 == (B.getD (Int.ofNat j).toNat []).getD 10 0 &&
     ((A.getD (Int.ofNat j).toNat []).getD 11 0 == (B.getD (Int.ofNat j).toNat []).getD 11 0 &&
     ((A.getD (Int.ofNat j).toNat []).getD 12 0 == (B.getD (Int.ofNat j).toNat []).getD 12 0 &&
     (((A.getD (Int.ofNat j).toNat []).getD 13 0 != 0) == ((B.getD (Int.ofNat j).toNat []).getD 13 0 != 0) &&
     ((A.getD (Int.ofNat j).toNat []).getD 14 0 == (B.getD (Int.ofNat j).toNat []).getD 14 0 &&
     (((A.getD (Int.ofNat j).toNat []).getD 15 0 != 0) == ((B.getD (Int.ofNat j).toNat []).getD 15 0 != 0) &&
     ((A.getD (Int.ofNat j).toNat []).getD 16 0 == (B.getD (Int.ofNat j).toNat []).getD 16 0 &&
     ((A.getD (Int.ofNat j).toNat []).getD 17 0 == (B.getD (Int.ofNat j).toNat []).getD 17 0 &&
     ((A.getD (Int.ofNat j).toNat []).getD 18 0 == (B.getD (Int.ofNat j).toNat []).getD 18 0 &&
     ((A.getD (Int.ofNat j).toNat []).getD 19 0 == (B.getD (Int.ofNat j).toNat []).getD 19 0 &&
     ((A.getD (Int.ofNat j).toNat []).getD 20 0 == (B.getD (Int.ofNat j).toNat []).getD 20 0 &&
     ((A.getD (Int.ofNat j).toNat []).getD 21 0 != 0) == ((B.getD (Int.ofNat j).toNat []).getD 21 0 != 0))))))))))))))))))))))) =
     false →
     ((smF A B).next j 1 ≤ B.length ∧ B.length ≤ 1000000 ∧ List.take B.length A = B) ∧
     (smF A B).μ ((smF A B).next j 1) < (smF A B).μ j ∧
     (smF A B).fin ((smF A B).next j 1) = (smF A B).fin j ∧ Int.ofNat ((smF A B).next j 1) = IntKind.i64.wrap (Int.ofNat j + 1) ∧ B.length = B.length)]
theorem sm_round (A B : List (List Int)) (j : Nat) (hNeeds : ∀ pN ∈ (sm_needs A B j), pN) : RoundOk (roundC (smF A B) (bodyOf Try.prog (sums K_awake) L_ap 20 0) 12 j) :=
  RoundOk.of (ps := (sm_needs A B j)) (by kernel_rfl) (by kernel_rfl) hNeeds
theorem sm_rounds (A B : List (List Int)) : RoundsOk (smF A B) (bodyOf Try.prog (sums K_awake) L_ap 20 0) 12 := by
  rintro j ⟨h1, h2, hp⟩
  have hl : B.length ≤ A.length := by
    have := congrArg List.length hp
    rw [List.length_take] at this; omega
  have hj : j < B.length → A.getD j [] = B.getD j [] := fun h => by
    have h3 : B.getD j [] = (A.take B.length).getD j [] := by rw [hp]
    rw [h3]
    simp [List.getD, List.getElem?_take, h]
  refine sm_round A B j fun q hq => ?_
  unfold sm_needs at hq
  simp only [List.mem_cons, List.not_mem_nil, or_false, sm_s0] at hq
  have e0 : (Int.ofNat j).toNat = j := rfl
  simp only [e0] at hq
  rcases hq with rfl | rfl
  · intro h; simp at h ⊢; omega
  · intro h
    simp at h
    rw [hj (by omega)]
    refine ⟨fun h => by simp at h, fun _ => ?_⟩
    have e1 : IntKind.i64.wrap (Int.ofNat j + 1) = Int.ofNat (j + 1) := wrI (by simp; omega) (by simp; omega)
    simp only [smF]
    exact ⟨⟨by omega, h2, hp⟩, by omega, trivial, e1.symm, trivial⟩
noncomputable def sameL : LoopS := fun env mem m => match SX.look env 0 with
  | some ⟨_, _, _, .one (.sl _ _ _ _)⟩ => (match SX.look mem 0, SX.look mem 1 with
    | some (.row _ _ _ (.lst _ _ A)), some (.row _ _ _ (.lst _ _ B)) => famS (smF A B) 12 (fun _ _ => some 0) env mem m
    | _, _ => none)
  | _ => (match eRow CKi env mem 0 with
    | some xs => famS (sameF xs) 12 (fun _ _ => some 0) env mem m
    | none => none)
noncomputable def L_same : FuncId → Nat → Option LoopS := addL L_ap 20 4 sameL
theorem known_sameL : Known Try.prog (sums K_awake) L_same := by
  refine known_addL 0 known_awake (by kernel_rfl) (codeOk_of fun env mem m x h => ?_)
  unfold sameL at h
  have hlen : (loopList Try.prog 20).length = 1 := by kernel_rfl
  split at h
  · split at h
    · exact ⟨_, fam_ok (bodyOf_ok plainN known_awake (by omega)) (sm_rounds _ _), h⟩
    · cases h
  · split at h
    · exact ⟨_, fam_ok (bodyOf_ok plainN known_awake (by omega)) (same_rounds _), h⟩
    · cases h
noncomputable def rsame_tpl : Tpl := ⟨[.one (.wh 0), .one (.wh 1)], [(0, .row false 32 22 2 CKi), (1, .row false 32 22 3 CKi)], 4⟩
noncomputable def rsame_0 (xs : List (List Int)) (ys : List (List Int)) : Bool :=
  !Int.ofNat xs.length != Int.ofNat ys.length
noncomputable def rsame_1 (xs : List (List Int)) (ys : List (List Int)) : List (List Int) :=
  bif Int.ofNat xs.length != Int.ofNat ys.length then ys else xs
noncomputable def rsame_needs (xs : List (List Int)) (ys : List (List Int)) : List Prop :=
  [(Int.ofNat xs.length != Int.ofNat ys.length) = false → (0 ≤ xs.length ∧ xs.length ≤ 1000000) ∧ Int.ofNat 0 = 0 ∧ xs = ys]
theorem rsame_weak {xs : List (List Int)} {ys : List (List Int)} (hW : ∀ q ∈ ([xs = ys, xs.length ≤ 1000000] : List Prop), q) : ∀ q ∈ (rsame_needs xs ys), q := by
  simp only [List.mem_cons, List.not_mem_nil, or_false, forall_eq_or_imp, forall_eq] at hW
  intro q hq
  unfold rsame_needs at hq
  simp only [List.mem_cons, List.not_mem_nil, or_false] at hq
  obtain ⟨rfl, h2⟩ := hW
  subst hq
  exact fun _ => ⟨⟨Nat.zero_le _, h2⟩, rfl, rfl⟩
set_option maxRecDepth 1000000 in
theorem rsame_runs (xs ys : List (List Int)) (hNeeds : ∀ pN ∈ (rsame_needs xs ys), pN) : Runs (runF (sums K_awake) L_same 20) (rsame_tpl.args []) (rsame_tpl.memo [] [xs, ys]) rsame_tpl.n (SV.one (SC.bool (SB.v (rsame_0 xs ys))))
    ([(0,
     Obj.row false 32 22
     (RowC.lst 2
     [CK.int IntKind.i64, CK.int IntKind.i64, CK.int IntKind.i64, CK.int IntKind.i64, CK.int IntKind.i64, CK.int IntKind.i64, CK.int IntKind.i64, CK.int IntKind.i64, CK.int IntKind.i64,
     CK.int IntKind.i64, CK.int IntKind.i64, CK.int IntKind.i64, CK.int IntKind.i64, CK.bool, CK.int IntKind.i64, CK.bool, CK.int IntKind.i64, CK.int IntKind.i64, CK.int IntKind.i64,
     CK.int IntKind.i64, CK.int IntKind.i64, CK.bool]
     xs)),
    (1,
     Obj.row false 32 22
     (RowC.lst 23
     [CK.int IntKind.i64, CK.int IntKind.i64, CK.int IntKind.i64, CK.int IntKind.i64, CK.int IntKind.i64, CK.int IntKind.i64, CK.int IntKind.i64, CK.int IntKind.i64, CK.int IntKind.i64,
     CK.int IntKind.i64, CK.int IntKind.i64, CK.int IntKind.i64, CK.int IntKind.i64, CK.bool, CK.int IntKind.i64, CK.bool, CK.int IntKind.i64, CK.int IntKind.i64, CK.int IntKind.i64,
     CK.int IntKind.i64, CK.int IntKind.i64, CK.bool]
     (rsame_1 xs ys)))]) :=
  Runs.of1 (ps := (rsame_needs xs ys)) (by kernel_rfl) hNeeds
noncomputable def rsame_out : List Pm → Lss → Option CRes
  | [], [xs, ys] => some ⟨SV.one (SC.bool (SB.c true)), [rowI 0 2 xs, rowI 1 23 xs], [xs = ys, xs.length ≤ 1000000], [], 30⟩
  | _, _ => none
theorem rsame_ok : FOk Try.prog 20 (tplS rsame_tpl rsame_out) := by
  refine tplS_ok (runF_ok known_sameL 20) fun ps ls r hr hn _ => ?_
  unfold rsame_out at hr
  split at hr
  · rename_i xs ys
    cases hr
    have h1 : xs = ys := hn _ (by simp)
    have h2 : xs.length ≤ 1000000 := hn _ (by simp)
    subst h1
    refine ⟨_, (rsame_runs xs xs (rsame_weak (by simp [h2]))).to rfl ?_, fun θ => ?_⟩
    · simp only [rsame_1, rowI, CKi]
      cases (Int.ofNat xs.length != Int.ofNat xs.length) <;> rfl
    · simp [SV.den, SC.den, SB.val, rsame_0]
  · cases hr
noncomputable def K_rsame : List (Nat × Summ) := (20, tplS rsame_tpl rsame_out) :: K_awake
theorem known_rsame : Known Try.prog (sums K_rsame) L_same := known_cons known_sameL rsame_ok
theorem rsm_runs (m : Nat) (xs ys : List (List Int)) (h : ∀ p ∈ [(Int.ofNat m != Int.ofNat ys.length) = false → (0 ≤ ys.length ∧ ys.length ≤ 1000000 ∧ xs.take ys.length = ys) ∧ Int.ofNat 0 = 0 ∧ ys.length = m ∧ ys = ys], p) :
    Runs (runF (sums K_awake) L_same 20) [.one (.sl 0 22 (.c 0) (.v m)), .one (.wh 1)] [rowI 0 2 xs, rowI 1 3 ys] 4 (.one (.bool (.v (!(Int.ofNat m != Int.ofNat ys.length))))) [rowI 0 2 xs, rowI 1 23 (bif Int.ofNat m != Int.ofNat ys.length then ys else ys)] :=
  Runs.of1 (ps := _) (by kernel_rfl) h
/-- Same, at the beginning of a row and a row. -/
noncomputable def rsmS : Summ := fun vs mem n => match vs, mem, n with
  | [.one (.sl 0 22 (.c 0) (.v m)), .one (.wh 1)], [(0, .row false 32 22 (.lst 2 ks xs)), (1, .row false 32 22 (.lst 3 js ys))], 4 =>
    bif cksEq ks CKi && cksEq js CKi then some ⟨.one (.bool (.c true)), [rowI 0 2 xs, rowI 1 23 ys], [m = ys.length, ys.length ≤ 1000000, xs.take ys.length = ys], [], 30⟩ else none
  | _, _, _ => none
theorem rsmS_ok : FOk Try.prog 20 rsmS := by
  intro vs mem n r hr hn he hwf hids θ w hm
  unfold rsmS at hr
  split at hr
  · rename_i m ks xs js ys
    cases hk : (cksEq ks CKi && cksEq js CKi)
    · rw [hk] at hr; cases hr
    rw [hk] at hr
    simp only [Bool.and_eq_true] at hk
    obtain rfl := cksEq_spec hk.1
    obtain rfl := cksEq_spec hk.2
    cases hr
    have h1 : m = ys.length := hn _ (by simp)
    have h2 : ys.length ≤ 1000000 := hn _ (by simp)
    have h3 : xs.take ys.length = ys := hn _ (by simp)
    obtain ⟨r', q1, q2, q3, q4, q5⟩ := (rsm_runs m xs ys (by simp [h1, h2, h3])).run
    have := runF_ok known_sameL 20 _ _ _ r' q1 q2 q3 hwf hids θ w hm
    have e1 : (Int.ofNat m != Int.ofNat ys.length) = false := by rw [h1]; simp
    rw [q4, q5, e1] at this
    exact this
  · cases hr
noncomputable def K_rsm : List (Nat × Summ) := (20, orS (tplS rsame_tpl rsame_out) rsmS) :: K_awake
theorem known_rsm : Known Try.prog (sums K_rsm) L_same := known_cons known_sameL (orS_ok rsame_ok rsmS_ok)
end Go.Proofs.Ytmbfbhimdkjkoaa
