/-
  Texts of one claim, laid together. Conditions: none.
-/
import Derived.Test.YtmbfbhimdkjkoaaM721ae1d7
import Derived.Test.YtmbfbhimdkjkoaaM01b4bf07
import Derived.ProofKit
import Derived.Carry
import Derived.ChangeOld
import Derived.ChangeArms
import Derived.DataElems
set_option linter.all false
namespace Go.Proofs.Ytmbfbhimdkjkoaa
open Go.SX Go.RowKit
noncomputable def sameM (xs : List (List Int)) (tag : Nat) : Mem := [rowI 0 2 xs, rowI 1 tag xs]
/-- The states in front of a round: the index. -/
noncomputable def sameF (xs : List (List Int)) : Fam Nat Unit where
  k := 10
  E j := [(5, ent 20 (.one (I (Int.ofNat j)))), (4, ent 4 (.one (.bool (.c false)))), (0, ent 0 (.one (.wh 0))), (1, ent 2 (.one (.wh 1)))]
  M _ := sameM xs 21
  out _ := .leaf (.exit 0) [] (sameM xs 21)
  fin _ := ()
  next j _ := j + 1
  J j := j ≤ xs.length ∧ xs.length ≤ 1000000
  μ j := xs.length - j
noncomputable def same_s0 (xs : List (List Int)) (j : Nat) : Prop :=
  decide (Int.ofNat j < Int.ofNat xs.length) = true
noncomputable def same_s1 (xs : List (List Int)) (j : Nat) : Int :=
  (xs.getD (Int.ofNat j).toNat []).getD 0 0
noncomputable def same_s2 (xs : List (List Int)) (j : Nat) : Bool :=
  (xs.getD (Int.ofNat j).toNat []).getD 13 0 != 0
noncomputable def same_s3 (xs : List (List Int)) (j : Nat) : Bool :=
  (xs.getD (Int.ofNat j).toNat []).getD 15 0 != 0
noncomputable def same_s4 (xs : List (List Int)) (j : Nat) : Bool :=
  (xs.getD (Int.ofNat j).toNat []).getD 21 0 != 0
noncomputable def same_needs (xs : List (List Int)) (j : Nat) : List Prop :=
  [same_s0 xs j → 0 ≤ Int.ofNat j ∧ (Int.ofNat j).toNat < xs.length ∧ (Int.ofNat j).toNat < xs.length ∧ 0 ≤ Int.ofNat j ∧ (Int.ofNat j).toNat < xs.length ∧ (Int.ofNat j).toNat < xs.length,
    same_s0 xs j →
     ((!(same_s1 xs j == same_s1 xs j &&
     ((xs.getD (Int.ofNat j).toNat []).getD 1 0 == (xs.getD (Int.ofNat j).toNat []).getD 1 0 &&
     ((xs.getD (Int.ofNat j).toNat []).getD 2 0 == (xs.getD (Int.ofNat j).toNat []).getD 2 0 &&
     ((xs.getD (Int.ofNat j).toNat []).getD 3 0 == (xs.getD (Int.ofNat j).toNat []).getD 3 0 &&
     ((xs.getD (Int.ofNat j).toNat []).getD 4 0 == (xs.getD (Int.ofNat j).toNat []).getD 4 0 &&
     ((xs.getD (Int.ofNat j).toNat []).getD 5 0 == (xs.getD (Int.ofNat j).toNat []).getD 5 0 &&
     ((xs.getD (Int.ofNat j).toNat []).getD 6 0 == (xs.getD (Int.ofNat j).toNat []).getD 6 0 &&
     ((xs.getD (Int.ofNat j).toNat []).getD 7 0 == (xs.getD (Int.ofNat j).toNat []).getD 7 0 &&
     ((xs.getD (Int.ofNat j).toNat []).getD 8 0 == (xs.getD (Int.ofNat j).toNat []).getD 8 0 &&
     ((xs.getD (Int.ofNat j).toNat []).getD 9 0 == (xs.getD (Int.ofNat j).toNat []).getD 9 0 &&
     ((xs.getD (Int.ofNat j).toNat []).getD 10 0 == (xs.getD (Int.ofNat j).toNat []).getD 10 0 &&
     ((xs.getD (Int.ofNat j).toNat []).getD 11 0 == (xs.getD (Int.ofNat j).toNat []).getD 11 0 &&
     ((xs.getD (Int.ofNat j).toNat []).getD 12 0 == (xs.getD (Int.ofNat j).toNat []).getD 12 0 &&
     (same_s2 xs j == same_s2 xs j &&
     ((xs.getD (Int.ofNat j).toNat []).getD 14 0 == (xs.getD (Int.ofNat j).toNat []).getD 14 0 &&
     (same_s3 xs j == same_s3 xs j &&
     ((xs.getD (Int.ofNat j).toNat []).getD 16 0 == (xs.getD (Int.ofNat j).toNat []).getD 16 0 &&
     ((xs.getD (Int.ofNat j).toNat []).getD 17 0 == (xs.getD (Int.ofNat j).toNat []).getD 17 0 &&
     ((xs.getD (Int.ofNat j).toNat []).getD 18 0 == (xs.getD (Int.ofNat j).toNat []).getD 18 0 &&
     ((xs.getD (Int.ofNat j).toNat []).getD 19 0 == (xs.getD (Int.ofNat j).toNat []).getD 19 0 &&
     ((xs.getD (Int.ofNat j).toNat []).getD 20 0 == (xs.getD (Int.ofNat j).toNat []).getD 20 0 && same_s4 xs j == same_s4 xs j)))))))))))))))))))))) =
     true →
     False) ∧
     ((!(same_s1 xs j == same_s1 xs j &&
     ((xs.getD (Int.ofNat j).toNat []).getD 1 0 == (xs.getD (Int.ofNat j).toNat []).getD 1 0 &&
     ((xs.getD (Int.ofNat j).toNat []).getD 2 0 == (xs.getD (Int.ofNat j).toNat []).getD 2 0 &&
     ((xs.getD (Int.ofNat j).toNat []).getD 3 0 == (xs.getD (Int.ofNat j).toNat []).getD 3 0 &&
     ((xs.getD (Int.ofNat j).toNat []).getD 4 0 == (xs.getD (Int.ofNat j).toNat []).getD 4 0 &&
     ((xs.getD (Int.ofNat j).toNat []).getD 5 0 == (xs.getD (Int.ofNat j).toNat []).getD 5 0 &&
     ((xs.getD (Int.ofNat j).toNat []).getD 6 0 == (xs.getD (Int.ofNat j).toNat []).getD 6 0 &&
     ((xs.getD (Int.ofNat j).toNat []).getD 7 0 == (xs.getD (Int.ofNat j).toNat []).getD 7 0 &&
     ((xs.getD (Int.ofNat j).toNat []).getD 8 0 == (xs.getD (Int.ofNat j).toNat []).getD 8 0 &&
     ((xs.getD (Int.ofNat j).toNat []).getD 9 0 == (xs.getD (Int.ofNat j).toNat []).getD 9 0 &&
     ((xs.getD (Int.ofNat j).toNat []).getD 10 0 == (xs.getD (Int.ofNat j).toNat []).getD 10 0 &&
     ((xs.getD (Int.ofNat j).toNat []).getD 11 0 == (xs.getD (Int.ofNat j).toNat []).getD 11 0 &&
     ((xs.getD (Int.ofNat j).toNat []).getD 12 0 == (xs.getD (Int.ofNat j).toNat []).getD 12 0 &&
     (same_s2 xs j == same_s2 xs j &&
     ((xs.getD (Int.ofNat j).toNat []).getD 14 0 == (xs.getD (Int.ofNat j).toNat []).getD 14 0 &&
     (same_s3 xs j == same_s3 xs j &&
     ((xs.getD (Int.ofNat j).toNat []).getD 16 0 == (xs.getD (Int.ofNat j).toNat []).getD 16 0 &&
     ((xs.getD (Int.ofNat j).toNat []).getD 17 0 == (xs.getD (Int.ofNat j).toNat []).getD 17 0 &&
     ((xs.getD (Int.ofNat j).toNat []).getD 18 0 == (xs.getD (Int.ofNat j).toNat []).getD 18 0 &&
     ((xs.getD (Int.ofNat j).toNat []).getD 19 0 == (xs.getD (Int.ofNat j).toNat []).getD 19 0 &&
     ((xs.getD (Int.ofNat j).toNat []).getD 20 0 == (xs.getD (Int.ofNat j).toNat []).getD 20 0 && same_s4 xs j == same_s4 xs j)))))))))))))))))))))) =
     false →
     ((sameF xs).next j 1 ≤ xs.length ∧ xs.length ≤ 1000000) ∧
     (sameF xs).μ ((sameF xs).next j 1) < (sameF xs).μ j ∧ (sameF xs).fin ((sameF xs).next j 1) = (sameF xs).fin j ∧ Int.ofNat ((sameF xs).next j 1) = IntKind.i64.wrap (Int.ofNat j + 1))]
theorem same_round (xs : List (List Int)) (j : Nat) (hNeeds : ∀ pN ∈ (same_needs xs j), pN) : RoundOk (roundC (sameF xs) (bodyOf Try.prog (sums K_awake) L_ap 20 0) 12 j) :=
  RoundOk.of (ps := (same_needs xs j)) (by kernel_rfl) (by kernel_rfl) hNeeds
theorem same_rounds (xs : List (List Int)) : RoundsOk (sameF xs) (bodyOf Try.prog (sums K_awake) L_ap 20 0) 12 := by
  rintro j ⟨h1, h2⟩
  refine same_round xs j fun q hq => ?_
  unfold same_needs at hq
  simp only [List.mem_cons, List.not_mem_nil, or_false, same_s0, same_s1, same_s2, same_s3, same_s4] at hq
  rcases hq with rfl | rfl
  · intro h; simp at h ⊢; omega
  · intro h
    simp at h
    refine ⟨fun h => by simp at h, fun _ => ?_⟩
    have e1 : IntKind.i64.wrap (Int.ofNat j + 1) = Int.ofNat (j + 1) := wrI (by simp; omega) (by simp; omega)
    simp only [sameF]
    exact ⟨⟨by omega, h2⟩, by omega, trivial, e1.symm⟩
noncomputable def smF (A B : List (List Int)) : Fam Nat Unit where
  k := 10
  E j := [(5, ent 20 (.one (I (Int.ofNat j)))), (4, ent 4 (.one (.bool (.c false)))), (0, ent 0 (.one (.sl 0 22 (.c 0) (.v B.length)))), (1, ent 2 (.one (.wh 1)))]
  M _ := [rowI 0 2 A, rowI 1 21 B]
  out _ := .leaf (.exit 0) [] [rowI 0 2 A, rowI 1 21 B]
  fin _ := ()
  next j _ := j + 1
  J j := j ≤ B.length ∧ B.length ≤ 1000000 ∧ A.take B.length = B
  μ j := B.length - j
noncomputable def sm_s0 (B : List (List Int)) (j : Nat) : Prop :=
  decide (Int.ofNat j < Int.ofNat B.length) = true
noncomputable def sm_needs (A : List (List Int)) (B : List (List Int)) (j : Nat) : List Prop :=
  [sm_s0 B j →
     0 ≤ Int.ofNat j ∧
     (Int.ofNat j).toNat < B.length ∧ (Int.ofNat j).toNat < A.length ∧ (Int.ofNat j).toNat < A.length ∧ 0 ≤ Int.ofNat j ∧ (Int.ofNat j).toNat < B.length ∧ (Int.ofNat j).toNat < B.length,
    sm_s0 B j →
     ((!((A.getD (Int.ofNat j).toNat []).getD 0 0 == (B.getD (Int.ofNat j).toNat []).getD 0 0 &&
     ((A.getD (Int.ofNat j).toNat []).getD 1 0 == (B.getD (Int.ofNat j).toNat []).getD 1 0 &&
     ((A.getD (Int.ofNat j).toNat []).getD 2 0 == (B.getD (Int.ofNat j).toNat []).getD 2 0 &&
     ((A.getD (Int.ofNat j).toNat []).getD 3 0 == (B.getD (Int.ofNat j).toNat []).getD 3 0 &&
     ((A.getD (Int.ofNat j).toNat []).getD 4 0 == (B.getD (Int.ofNat j).toNat []).getD 4 0 &&
     ((A.getD (Int.ofNat j).toNat []).getD 5 0 == (B.getD (Int.ofNat j).toNat []).getD 5 0 &&
     ((A.getD (Int.ofNat j).toNat []).getD 6 0 == (B.getD (Int.ofNat j).toNat []).getD 6 0 &&
     ((A.getD (Int.ofNat j).toNat []).getD 7 0 == (B.getD (Int.ofNat j).toNat []).getD 7 0 &&
     ((A.getD (Int.ofNat j).toNat []).getD 8 0 == (B.getD (Int.ofNat j).toNat []).getD 8 0 &&
     ((A.getD (Int.ofNat j).toNat []).getD 9 0 == (B.getD (Int.ofNat j).toNat []).getD 9 0 &&
     ((A.getD (Int.ofNat j).toNat []).getD 10 0 == (B.getD (Int.ofNat j).toNat []).getD 10 0 &&
     ((A.getD (Int.ofNat j).toNat []).getD 11 0 == (B.getD (Int.ofNat j).toNat []).getD 11 0 &&
     ((A.getD (Int.ofNat j).toNat []).getD 12 0 == (B.getD (Int.ofNat j).toNat []).getD 12 0 &&
     (((A.getD (Int.ofNat j).toNat []).getD 13 0 != 0) == ((B.getD (Int.ofNat j).toNat []).getD 13 0 != 0) &&
     ((A.getD (Int.ofNat j).toNat []).getD 14 0 == (B.getD (Int.ofNat j).toNat []).getD 14 0 &&
     (((A.getD (Int.ofNat j).toNat []).getD 15 0 != 0) == ((B.getD (Int.ofNat j).toNat []).getD 15 0 != 0) &&
     ((A.getD (Int.ofNat j).toNat []).getD 16 0 == (B.getD (Int.ofNat j).toNat []).getD 16 0 &&
     ((A.getD (Int.ofNat j).toNat []).getD 17 0 == (B.getD (Int.ofNat j).toNat []).getD 17 0 &&
     ((A.getD (Int.ofNat j).toNat []).getD 18 0 == (B.getD (Int.ofNat j).toNat []).getD 18 0 &&
     ((A.getD (Int.ofNat j).toNat []).getD 19 0 == (B.getD (Int.ofNat j).toNat []).getD 19 0 &&
     ((A.getD (Int.ofNat j).toNat []).getD 20 0 == (B.getD (Int.ofNat j).toNat []).getD 20 0 &&
     ((A.getD (Int.ofNat j).toNat []).getD 21 0 != 0) == ((B.getD (Int.ofNat j).toNat []).getD 21 0 != 0))))))))))))))))))))))) =
     true →
     False) ∧
     ((!((A.getD (Int.ofNat j).toNat []).getD 0 0 == (B.getD (Int.ofNat j).toNat []).getD 0 0 &&
     ((A.getD (Int.ofNat j).toNat []).getD 1 0 == (B.getD (Int.ofNat j).toNat []).getD 1 0 &&
     ((A.getD (Int.ofNat j).toNat []).getD 2 0 == (B.getD (Int.ofNat j).toNat []).getD 2 0 &&
     ((A.getD (Int.ofNat j).toNat []).getD 3 0 == (B.getD (Int.ofNat j).toNat []).getD 3 0 &&
     ((A.getD (Int.ofNat j).toNat []).getD 4 0 == (B.getD (Int.ofNat j).toNat []).getD 4 0 &&
     ((A.getD (Int.ofNat j).toNat []).getD 5 0 == (B.getD (Int.ofNat j).toNat []).getD 5 0 &&
     ((A.getD (Int.ofNat j).toNat []).getD 6 0 == (B.getD (Int.ofNat j).toNat []).getD 6 0 &&
     ((A.getD (Int.ofNat j).toNat []).getD 7 0 == (B.getD (Int.ofNat j).toNat []).getD 7 0 &&
     ((A.getD (Int.ofNat j).toNat []).getD 8 0 == (B.getD (Int.ofNat j).toNat []).getD 8 0 &&
     ((A.getD (Int.ofNat j).toNat []).getD 9 0 == (B.getD (Int.ofNat j).toNat []).getD 9 0 &&
     ((A.getD (Int.ofNat j).toNat []).getD 10 0 == (B.getD (Int.ofNat j).toNat []).getD 10 0 &&
     ((A.getD (Int.ofNat j).toNat []).getD 11 0 == (B.getD (Int.ofNat j).toNat []).getD 11 0 &&
     ((A.getD (Int.ofNat j).toNat []).getD 12 0 == (B.getD (Int.ofNat j).toNat []).getD 12 0 &&
     (((A.getD (Int.ofNat j).toNat []).getD 13 0 != 0) == ((B.getD (Int.ofNat j).toNat []).getD 13 0 != 0) &&
     ((A.getD (Int.ofNat j).toNat []).getD 14 0 == (B.getD (Int.ofNat j).toNat []).getD 14 0 &&
     (((A.getD (Int.ofNat j).toNat []).getD 15 0 != 0) == ((B.getD (Int.ofNat j).toNat []).getD 15 0 != 0) &&
     ((A.getD (Int.ofNat j).toNat []).getD 16 0 == (B.getD (Int.ofNat j).toNat []).getD 16 0 &&
     ((A.getD (Int.ofNat j).toNat []).getD 17 0 == (B.getD (Int.ofNat j).toNat []).getD 17 0 &&
     ((A.getD (Int.ofNat j).toNat []).getD 18 0 == (B.getD (Int.ofNat j).toNat []).getD 18 0 &&
     ((A.getD (Int.ofNat j).toNat []).getD 19 0 == (B.getD (Int.ofNat j).toNat []).getD 19 0 &&
     ((A.getD (Int.ofNat j).toNat []).getD 20 0 == (B.getD (Int.ofNat j).toNat []).getD 20 0 &&
     ((A.getD (Int.ofNat j).toNat []).getD 21 0 != 0) == ((B.getD (Int.ofNat j).toNat []).getD 21 0 != 0))))))))))))))))))))))) =
     false →
     ((smF A B).next j 1 ≤ B.length ∧ B.length ≤ 1000000 ∧ List.take B.length A = B) ∧
     (smF A B).μ ((smF A B).next j 1) < (smF A B).μ j ∧
     (smF A B).fin ((smF A B).next j 1) = (smF A B).fin j ∧ Int.ofNat ((smF A B).next j 1) = IntKind.i64.wrap (Int.ofNat j + 1) ∧ B.length = B.length)]
theorem sm_round (A B : List (List Int)) (j : Nat) (hNeeds : ∀ pN ∈ (sm_needs A B j), pN) : RoundOk (roundC (smF A B) (bodyOf Try.prog (sums K_awake) L_ap 20 0) 12 j) :=
  RoundOk.of (ps := (sm_needs A B j)) (by kernel_rfl) (by kernel_rfl) hNeeds
theorem sm_rounds (A B : List (List Int)) : RoundsOk (smF A B) (bodyOf Try.prog (sums K_awake) L_ap 20 0) 12 := by
  rintro j ⟨h1, h2, hp⟩
  have hl : B.length ≤ A.length := by
    have := congrArg List.length hp
    rw [List.length_take] at this; omega
  have hj : j < B.length → A.getD j [] = B.getD j [] := fun h => by
    have h3 : B.getD j [] = (A.take B.length).getD j [] := by rw [hp]
    rw [h3]
    simp [List.getD, List.getElem?_take, h]
  refine sm_round A B j fun q hq => ?_
  unfold sm_needs at hq
  simp only [List.mem_cons, List.not_mem_nil, or_false, sm_s0] at hq
  have e0 : (Int.ofNat j).toNat = j := rfl
  simp only [e0] at hq
  rcases hq with rfl | rfl
  · intro h; simp at h ⊢; omega
  · intro h
    simp at h
    rw [hj (by omega)]
    refine ⟨fun h => by simp at h, fun _ => ?_⟩
    have e1 : IntKind.i64.wrap (Int.ofNat j + 1) = Int.ofNat (j + 1) := wrI (by simp; omega) (by simp; omega)
    simp only [smF]
    exact ⟨⟨by omega, h2, hp⟩, by omega, trivial, e1.symm, trivial⟩
noncomputable def sameL : LoopS := fun env mem m => match SX.look env 0 with
  | some ⟨_, _, _, .one (.sl _ _ _ _)⟩ => (match SX.look mem 0, SX.look mem 1 with
    | some (.row _ _ _ (.lst _ _ A)), some (.row _ _ _ (.lst _ _ B)) => famS (smF A B) 12 (fun _ _ => some 0) env mem m
    | _, _ => none)
  | _ => (match eRow CKi env mem 0 with
    | some xs => famS (sameF xs) 12 (fun _ _ => some 0) env mem m
    | none => none)
noncomputable def L_same : FuncId → Nat → Option LoopS := addL L_ap 20 4 sameL
theorem known_sameL : Known Try.prog (sums K_awake) L_same := by
  refine known_addL 0 known_awake (by kernel_rfl) (codeOk_of fun env mem m x h => ?_)
  unfold sameL at h
  have hlen : (loopList Try.prog 20).length = 1 := by kernel_rfl
  split at h
  · split at h
    · exact ⟨_, fam_ok (bodyOf_ok plainN known_awake (by omega)) (sm_rounds _ _), h⟩
    · cases h
  · split at h
    · exact ⟨_, fam_ok (bodyOf_ok plainN known_awake (by omega)) (same_rounds _), h⟩
    · cases h
noncomputable def rsame_tpl : Tpl := ⟨[.one (.wh 0), .one (.wh 1)], [(0, .row false 32 22 2 CKi), (1, .row false 32 22 3 CKi)], 4⟩
noncomputable def rsame_0 (xs : List (List Int)) (ys : List (List Int)) : Bool :=
  !Int.ofNat xs.length != Int.ofNat ys.length
noncomputable def rsame_1 (xs : List (List Int)) (ys : List (List Int)) : List (List Int) :=
  bif Int.ofNat xs.length != Int.ofNat ys.length then ys else xs
noncomputable def rsame_needs (xs : List (List Int)) (ys : List (List Int)) : List Prop :=
  [(Int.ofNat xs.length != Int.ofNat ys.length) = false → (0 ≤ xs.length ∧ xs.length ≤ 1000000) ∧ Int.ofNat 0 = 0 ∧ xs = ys]
theorem rsame_weak {xs : List (List Int)} {ys : List (List Int)} (hW : ∀ q ∈ ([xs = ys, xs.length ≤ 1000000] : List Prop), q) : ∀ q ∈ (rsame_needs xs ys), q := by
  simp only [List.mem_cons, List.not_mem_nil, or_false, forall_eq_or_imp, forall_eq] at hW
  intro q hq
  unfold rsame_needs at hq
  simp only [List.mem_cons, List.not_mem_nil, or_false] at hq
  obtain ⟨rfl, h2⟩ := hW
  subst hq
  exact fun _ => ⟨⟨Nat.zero_le _, h2⟩, rfl, rfl⟩
set_option maxRecDepth 1000000 in
theorem rsame_runs (xs ys : List (List Int)) (hNeeds : ∀ pN ∈ (rsame_needs xs ys), pN) : Runs (runF (sums K_awake) L_same 20) (rsame_tpl.args []) (rsame_tpl.memo [] [xs, ys]) rsame_tpl.n (SV.one (SC.bool (SB.v (rsame_0 xs ys))))
    ([(0,
     Obj.row false 32 22
     (RowC.lst 2
     [CK.int IntKind.i64, CK.int IntKind.i64, CK.int IntKind.i64, CK.int IntKind.i64, CK.int IntKind.i64, CK.int IntKind.i64, CK.int IntKind.i64, CK.int IntKind.i64, CK.int IntKind.i64,
     CK.int IntKind.i64, CK.int IntKind.i64, CK.int IntKind.i64, CK.int IntKind.i64, CK.bool, CK.int IntKind.i64, CK.bool, CK.int IntKind.i64, CK.int IntKind.i64, CK.int IntKind.i64,
     CK.int IntKind.i64, CK.int IntKind.i64, CK.bool]
     xs)),
    (1,
     Obj.row false 32 22
     (RowC.lst 23
     [CK.int IntKind.i64, CK.int IntKind.i64, CK.int IntKind.i64, CK.int IntKind.i64, CK.int IntKind.i64, CK.int IntKind.i64, CK.int IntKind.i64, CK.int IntKind.i64, CK.int IntKind.i64,
     CK.int IntKind.i64, CK.int IntKind.i64, CK.int IntKind.i64, CK.int IntKind.i64, CK.bool, CK.int IntKind.i64, CK.bool, CK.int IntKind.i64, CK.int IntKind.i64, CK.int IntKind.i64,
     CK.int IntKind.i64, CK.int IntKind.i64, CK.bool]
     (rsame_1 xs ys)))]) :=
  Runs.of1 (ps := (rsame_needs xs ys)) (by kernel_rfl) hNeeds
noncomputable def rsame_out : List Pm → Lss → Option CRes
  | [], [xs, ys] => some ⟨SV.one (SC.bool (SB.c true)), [rowI 0 2 xs, rowI 1 23 xs], [xs = ys, xs.length ≤ 1000000], [], 30⟩
  | _, _ => none
theorem rsame_ok : FOk Try.prog 20 (tplS rsame_tpl rsame_out) := by
  refine tplS_ok (runF_ok known_sameL 20) fun ps ls r hr hn _ => ?_
  unfold rsame_out at hr
  split at hr
  · rename_i xs ys
    cases hr
    have h1 : xs = ys := hn _ (by simp)
    have h2 : xs.length ≤ 1000000 := hn _ (by simp)
    subst h1
    refine ⟨_, (rsame_runs xs xs (rsame_weak (by simp [h2]))).to rfl ?_, fun θ => ?_⟩
    · simp only [rsame_1, rowI, CKi]
      cases (Int.ofNat xs.length != Int.ofNat xs.length) <;> rfl
    · simp [SV.den, SC.den, SB.val, rsame_0]
  · cases hr
noncomputable def K_rsame : List (Nat × Summ) := (20, tplS rsame_tpl rsame_out) :: K_awake
theorem rsm_runs (m : Nat) (xs ys : List (List Int)) (h : ∀ p ∈ [(Int.ofNat m != Int.ofNat ys.length) = false → (0 ≤ ys.length ∧ ys.length ≤ 1000000 ∧ xs.take ys.length = ys) ∧ Int.ofNat 0 = 0 ∧ ys.length = m ∧ ys = ys], p) :
    Runs (runF (sums K_awake) L_same 20) [.one (.sl 0 22 (.c 0) (.v m)), .one (.wh 1)] [rowI 0 2 xs, rowI 1 3 ys] 4 (.one (.bool (.v (!(Int.ofNat m != Int.ofNat ys.length))))) [rowI 0 2 xs, rowI 1 23 (bif Int.ofNat m != Int.ofNat ys.length then ys else ys)] :=
  Runs.of1 (ps := _) (by kernel_rfl) h
/-- Same, at the beginning of a row and a row. -/
noncomputable def rsmS : Summ := fun vs mem n => match vs, mem, n with
  | [.one (.sl 0 22 (.c 0) (.v m)), .one (.wh 1)], [(0, .row false 32 22 (.lst 2 ks xs)), (1, .row false 32 22 (.lst 3 js ys))], 4 =>
    bif cksEq ks CKi && cksEq js CKi then some ⟨.one (.bool (.c true)), [rowI 0 2 xs, rowI 1 23 ys], [m = ys.length, ys.length ≤ 1000000, xs.take ys.length = ys], [], 30⟩ else none
  | _, _, _ => none
theorem rsmS_ok : FOk Try.prog 20 rsmS := by
  intro vs mem n r hr hn he hwf hids θ w hm
  unfold rsmS at hr
  split at hr
  · rename_i m ks xs js ys
    cases hk : (cksEq ks CKi && cksEq js CKi)
    · rw [hk] at hr; cases hr
    rw [hk] at hr
    simp only [Bool.and_eq_true] at hk
    obtain rfl := cksEq_spec hk.1
    obtain rfl := cksEq_spec hk.2
    cases hr
    have h1 : m = ys.length := hn _ (by simp)
    have h2 : ys.length ≤ 1000000 := hn _ (by simp)
    have h3 : xs.take ys.length = ys := hn _ (by simp)
    obtain ⟨r', q1, q2, q3, q4, q5⟩ := (rsm_runs m xs ys (by simp [h1, h2, h3])).run
    have := runF_ok known_sameL 20 _ _ _ r' q1 q2 q3 hwf hids θ w hm
    have e1 : (Int.ofNat m != Int.ofNat ys.length) = false := by rw [h1]; simp
    rw [q4, q5, e1] at this
    exact this
  · cases hr
noncomputable def K_rsm : List (Nat × Summ) := (20, orS (tplS rsame_tpl rsame_out) rsmS) :: K_awake
theorem known_rsm : Known Try.prog (sums K_rsm) L_same := known_cons known_sameL (orS_ok rsame_ok rsmS_ok)
end Go.Proofs.Ytmbfbhimdkjkoaa
namespace Go.Proofs.Ytmbfbhimdkjkoaa
open Go.SX Go.RowKit
noncomputable def K_clone : List (Nat × Summ) := (34, cloneS) :: K_rsm
theorem known_clone : Known Try.prog (sums K_clone) L_same := known_cons known_rsm cloneS_ok
noncomputable def K_ptake : List (Nat × Summ) := (32, preS slots (tplG take_sp take_tpl take_out)) :: K_clone
theorem known_ptake : Known Try.prog (sums K_ptake) L_same := known_cons known_clone (preS_ok slots take_ok)
noncomputable def settlG_tpl : Tpl := ⟨[.one (.ptr 0 0)], [(0, .blk 66 [(3, .int .i64), (4, .int .i64), (5, .int .i64), (6, .int .i64), (7, .int .i64), (8, .int .i64), (9, .int .i64), (10, .int .i64), (11, .int .i64), (12, .int .i64), (13, .int .i64), (14, .int .i64), (15, .int .i64), (16, .bool), (17, .int .i64), (18, .bool), (19, .int .i64), (20, .int .i64), (21, .int .i64), (22, .int .i64), (23, .int .i64), (24, .bool), (25, .int .i64), (26, .int .i64), (27, .int .i64), (28, .int .i64), (29, .int .i64), (30, .int .i64), (31, .int .i64), (32, .int .i64), (33, .int .i64), (34, .int .i64), (35, .int .i64), (36, .int .i64), (37, .int .i64), (38, .bool), (39, .int .i64), (40, .bool), (41, .int .i64), (42, .int .i64), (43, .int .i64), (44, .int .i64), (45, .int .i64), (46, .bool), (47, .int .i64), (48, .int .i64), (49, .bool), (50, .wh 1), (51, .bool), (52, .bool), (53, .bool), (54, .bool), (55, .int .i64), (56, .int .i64), (57, .int .i64), (58, .wh 2), (59, .int .i64)]), (1, .row false 32 22 60 [.int .i64, .int .i64, .int .i64, .int .i64, .int .i64, .int .i64, .int .i64, .int .i64, .int .i64, .int .i64, .int .i64, .int .i64, .int .i64, .bool, .int .i64, .bool, .int .i64, .int .i64, .int .i64, .int .i64, .int .i64, .bool]), (2, .row false 32 22 61 [.int .i64, .int .i64, .int .i64, .int .i64, .int .i64, .int .i64, .int .i64, .int .i64, .int .i64, .int .i64, .int .i64, .int .i64, .int .i64, .bool, .int .i64, .bool, .int .i64, .int .i64, .int .i64, .int .i64, .int .i64, .bool])], 62⟩
noncomputable def settlG_sp : List GK := [.v itemB, .v itemB, .i, .i, .b, .b, .b, .b, .b, .i, .i, .i, .i]
noncomputable def settlG_0 (er : Int) : Int :=
  bif er != 0 then er else 0
noncomputable def settlG_1 (er : Int) (O : List (List Int)) : List (List Int) :=
  bif er != 0 then [] else O
set_option maxRecDepth 1000000 in
theorem settlG_runs (l y : List GC) (a0 a1 : Int) (tr op cl en mo : Bool) (la0 la1 la2 er : Int) (C O : List (List Int)) : Runs (runG (sums K_ptake) L_same 33) (settlG_tpl.args (spread settlG_sp [.v l, .v y, .i a0, .i a1, .b tr, .b op, .b cl, .b en, .b mo, .i la0, .i la1, .i la2, .i er])) (settlG_tpl.memo (spread settlG_sp [.v l, .v y, .i a0, .i a1, .b tr, .b op, .b cl, .b en, .b mo, .i la0, .i la1, .i la2, .i er]) [C, O]) settlG_tpl.n (SV.tup [(false, [SC.wh 89]), (false, [SC.int IntKind.i64 (SI.v (settlG_0 er))])])
    ([(89,
     Obj.row false 32 22
     (RowC.lst 88
     [CK.int IntKind.i64, CK.int IntKind.i64, CK.int IntKind.i64, CK.int IntKind.i64, CK.int IntKind.i64, CK.int IntKind.i64, CK.int IntKind.i64, CK.int IntKind.i64, CK.int IntKind.i64,
     CK.int IntKind.i64, CK.int IntKind.i64, CK.int IntKind.i64, CK.int IntKind.i64, CK.bool, CK.int IntKind.i64, CK.bool, CK.int IntKind.i64, CK.int IntKind.i64, CK.int IntKind.i64,
     CK.int IntKind.i64, CK.int IntKind.i64, CK.bool]
     (settlG_1 er O))),
    (0,
     Obj.blk 66
     [(3, SC.int IntKind.i64 (SI.v (xi l 0))), (4, SC.int IntKind.i64 (SI.v (xi l 1))), (5, SC.int IntKind.i64 (SI.v (xi l 2))), (6, SC.int IntKind.i64 (SI.v (xi l 3))),
     (7, SC.int IntKind.i64 (SI.v (xi l 4))), (8, SC.int IntKind.i64 (SI.v (xi l 5))), (9, SC.int IntKind.i64 (SI.v (xi l 6))), (10, SC.int IntKind.i64 (SI.v (xi l 7))),
     (11, SC.int IntKind.i64 (SI.v (xi l 8))), (12, SC.int IntKind.i64 (SI.v (xi l 9))), (13, SC.int IntKind.i64 (SI.v (xi l 10))), (14, SC.int IntKind.i64 (SI.v (xi l 11))),
     (15, SC.int IntKind.i64 (SI.v (xi l 12))), (16, SC.bool (SB.v (xb l 13))), (17, SC.int IntKind.i64 (SI.v (xi l 14))), (18, SC.bool (SB.v (xb l 15))), (19, SC.int IntKind.i64 (SI.v (xi l 16))),
     (20, SC.int IntKind.i64 (SI.v (xi l 17))), (21, SC.int IntKind.i64 (SI.v (xi l 18))), (22, SC.int IntKind.i64 (SI.v (xi l 19))), (23, SC.int IntKind.i64 (SI.v (xi l 20))),
     (24, SC.bool (SB.v (xb l 21))), (25, SC.int IntKind.i64 (SI.v (xi y 0))), (26, SC.int IntKind.i64 (SI.v (xi y 1))), (27, SC.int IntKind.i64 (SI.v (xi y 2))),
     (28, SC.int IntKind.i64 (SI.v (xi y 3))), (29, SC.int IntKind.i64 (SI.v (xi y 4))), (30, SC.int IntKind.i64 (SI.v (xi y 5))), (31, SC.int IntKind.i64 (SI.v (xi y 6))),
     (32, SC.int IntKind.i64 (SI.v (xi y 7))), (33, SC.int IntKind.i64 (SI.v (xi y 8))), (34, SC.int IntKind.i64 (SI.v (xi y 9))), (35, SC.int IntKind.i64 (SI.v (xi y 10))),
     (36, SC.int IntKind.i64 (SI.v (xi y 11))), (37, SC.int IntKind.i64 (SI.v (xi y 12))), (38, SC.bool (SB.v (xb y 13))), (39, SC.int IntKind.i64 (SI.v (xi y 14))), (40, SC.bool (SB.v (xb y 15))),
     (41, SC.int IntKind.i64 (SI.v (xi y 16))), (42, SC.int IntKind.i64 (SI.v (xi y 17))), (43, SC.int IntKind.i64 (SI.v (xi y 18))), (44, SC.int IntKind.i64 (SI.v (xi y 19))),
     (45, SC.int IntKind.i64 (SI.v (xi y 20))), (46, SC.bool (SB.v (xb y 21))), (47, SC.int IntKind.i64 (SI.v a0)), (48, SC.int IntKind.i64 (SI.v a1)), (49, SC.bool (SB.v tr)), (50, SC.wh 1),
     (51, SC.bool (SB.v op)), (52, SC.bool (SB.v cl)), (53, SC.bool (SB.v en)), (54, SC.bool (SB.v mo)), (55, SC.int IntKind.i64 (SI.v la0)), (56, SC.int IntKind.i64 (SI.v la1)),
     (57, SC.int IntKind.i64 (SI.v la2)), (72, SC.nilsl), (59, SC.int IntKind.i64 (SI.v er))]),
    (1,
     Obj.row false 32 22
     (RowC.lst 60
     [CK.int IntKind.i64, CK.int IntKind.i64, CK.int IntKind.i64, CK.int IntKind.i64, CK.int IntKind.i64, CK.int IntKind.i64, CK.int IntKind.i64, CK.int IntKind.i64, CK.int IntKind.i64,
     CK.int IntKind.i64, CK.int IntKind.i64, CK.int IntKind.i64, CK.int IntKind.i64, CK.bool, CK.int IntKind.i64, CK.bool, CK.int IntKind.i64, CK.int IntKind.i64, CK.int IntKind.i64,
     CK.int IntKind.i64, CK.int IntKind.i64, CK.bool]
     C))]) :=
  Runs.of1 (ps := []) (by kernel_rfl) (by simp)
noncomputable def settlG_out : List Gm → Lss → Option CRes
  | [.v l, .v y, .i a0, .i a1, .b tr, .b op, .b cl, .b en, .b mo, .i la0, .i la1, .i la2, .i er], [C, O] => some ⟨SV.tup [(false, [SC.wh 89]), (false, [SC.int IntKind.i64 (SI.v (settlG_0 er))])],
    [(89,
     Obj.row false 32 22
     (RowC.lst 88
     [CK.int IntKind.i64, CK.int IntKind.i64, CK.int IntKind.i64, CK.int IntKind.i64, CK.int IntKind.i64, CK.int IntKind.i64, CK.int IntKind.i64, CK.int IntKind.i64, CK.int IntKind.i64,
     CK.int IntKind.i64, CK.int IntKind.i64, CK.int IntKind.i64, CK.int IntKind.i64, CK.bool, CK.int IntKind.i64, CK.bool, CK.int IntKind.i64, CK.int IntKind.i64, CK.int IntKind.i64,
     CK.int IntKind.i64, CK.int IntKind.i64, CK.bool]
     (settlG_1 er O))),
    (0,
     Obj.blk 66
     [(3, SC.int IntKind.i64 (SI.v (xi l 0))), (4, SC.int IntKind.i64 (SI.v (xi l 1))), (5, SC.int IntKind.i64 (SI.v (xi l 2))), (6, SC.int IntKind.i64 (SI.v (xi l 3))),
     (7, SC.int IntKind.i64 (SI.v (xi l 4))), (8, SC.int IntKind.i64 (SI.v (xi l 5))), (9, SC.int IntKind.i64 (SI.v (xi l 6))), (10, SC.int IntKind.i64 (SI.v (xi l 7))),
     (11, SC.int IntKind.i64 (SI.v (xi l 8))), (12, SC.int IntKind.i64 (SI.v (xi l 9))), (13, SC.int IntKind.i64 (SI.v (xi l 10))), (14, SC.int IntKind.i64 (SI.v (xi l 11))),
     (15, SC.int IntKind.i64 (SI.v (xi l 12))), (16, SC.bool (SB.v (xb l 13))), (17, SC.int IntKind.i64 (SI.v (xi l 14))), (18, SC.bool (SB.v (xb l 15))), (19, SC.int IntKind.i64 (SI.v (xi l 16))),
     (20, SC.int IntKind.i64 (SI.v (xi l 17))), (21, SC.int IntKind.i64 (SI.v (xi l 18))), (22, SC.int IntKind.i64 (SI.v (xi l 19))), (23, SC.int IntKind.i64 (SI.v (xi l 20))),
     (24, SC.bool (SB.v (xb l 21))), (25, SC.int IntKind.i64 (SI.v (xi y 0))), (26, SC.int IntKind.i64 (SI.v (xi y 1))), (27, SC.int IntKind.i64 (SI.v (xi y 2))),
     (28, SC.int IntKind.i64 (SI.v (xi y 3))), (29, SC.int IntKind.i64 (SI.v (xi y 4))), (30, SC.int IntKind.i64 (SI.v (xi y 5))), (31, SC.int IntKind.i64 (SI.v (xi y 6))),
     (32, SC.int IntKind.i64 (SI.v (xi y 7))), (33, SC.int IntKind.i64 (SI.v (xi y 8))), (34, SC.int IntKind.i64 (SI.v (xi y 9))), (35, SC.int IntKind.i64 (SI.v (xi y 10))),
     (36, SC.int IntKind.i64 (SI.v (xi y 11))), (37, SC.int IntKind.i64 (SI.v (xi y 12))), (38, SC.bool (SB.v (xb y 13))), (39, SC.int IntKind.i64 (SI.v (xi y 14))), (40, SC.bool (SB.v (xb y 15))),
     (41, SC.int IntKind.i64 (SI.v (xi y 16))), (42, SC.int IntKind.i64 (SI.v (xi y 17))), (43, SC.int IntKind.i64 (SI.v (xi y 18))), (44, SC.int IntKind.i64 (SI.v (xi y 19))),
     (45, SC.int IntKind.i64 (SI.v (xi y 20))), (46, SC.bool (SB.v (xb y 21))), (47, SC.int IntKind.i64 (SI.v a0)), (48, SC.int IntKind.i64 (SI.v a1)), (49, SC.bool (SB.v tr)), (50, SC.wh 1),
     (51, SC.bool (SB.v op)), (52, SC.bool (SB.v cl)), (53, SC.bool (SB.v en)), (54, SC.bool (SB.v mo)), (55, SC.int IntKind.i64 (SI.v la0)), (56, SC.int IntKind.i64 (SI.v la1)),
     (57, SC.int IntKind.i64 (SI.v la2)), (72, SC.nilsl), (59, SC.int IntKind.i64 (SI.v er))]),
    (1,
     Obj.row false 32 22
     (RowC.lst 60
     [CK.int IntKind.i64, CK.int IntKind.i64, CK.int IntKind.i64, CK.int IntKind.i64, CK.int IntKind.i64, CK.int IntKind.i64, CK.int IntKind.i64, CK.int IntKind.i64, CK.int IntKind.i64,
     CK.int IntKind.i64, CK.int IntKind.i64, CK.int IntKind.i64, CK.int IntKind.i64, CK.bool, CK.int IntKind.i64, CK.bool, CK.int IntKind.i64, CK.int IntKind.i64, CK.int IntKind.i64,
     CK.int IntKind.i64, CK.int IntKind.i64, CK.bool]
     C))],
    [], [], 90⟩
  | _, _ => none
theorem settlG_ok : FOk Try.prog 33 (tplG settlG_sp settlG_tpl settlG_out) := by
  refine tplG_ok (runG_ok known_ptake 33) fun ps ls r hr hn _ => ?_
  unfold settlG_out at hr
  split at hr
  · cases hr; exact ⟨_, settlG_runs _ _ _ _ _ _ _ _ _ _ _ _ _ _ _, fun _ => rfl⟩
  · cases hr
noncomputable def K_settlG : List (Nat × Summ) := (33, tplG settlG_sp settlG_tpl settlG_out) :: K_ptake
theorem known_settlG : Known Try.prog (sums K_settlG) L_same := known_cons known_ptake settlG_ok
noncomputable def pushG_tpl : Tpl := ⟨[.one (.ptr 0 0), .agg [.int .i64, .int .i64, .int .i64, .int .i64, .int .i64, .int .i64, .int .i64, .int .i64, .int .i64, .int .i64, .int .i64, .int .i64, .int .i64, .bool, .int .i64, .bool, .int .i64, .int .i64, .int .i64, .int .i64, .int .i64, .bool]], [(0, .blk 66 [(2, .int .i64), (3, .int .i64), (4, .int .i64), (5, .int .i64), (6, .int .i64), (7, .int .i64), (8, .int .i64), (9, .int .i64), (10, .int .i64), (11, .int .i64), (12, .int .i64), (13, .int .i64), (14, .int .i64), (15, .bool), (16, .int .i64), (17, .bool), (18, .int .i64), (19, .int .i64), (20, .int .i64), (21, .int .i64), (22, .int .i64), (23, .bool), (24, .int .i64), (25, .int .i64), (26, .int .i64), (27, .int .i64), (28, .int .i64), (29, .int .i64), (30, .int .i64), (31, .int .i64), (32, .int .i64), (33, .int .i64), (34, .int .i64), (35, .int .i64), (36, .int .i64), (37, .bool), (38, .int .i64), (39, .bool), (40, .int .i64), (41, .int .i64), (42, .int .i64), (43, .int .i64), (44, .int .i64), (45, .bool), (46, .int .i64), (47, .int .i64), (48, .bool), (49, .wh 1), (50, .bool), (51, .bool), (52, .bool), (53, .bool), (54, .int .i64), (55, .int .i64), (56, .int .i64), (57, .nilsl), (58, .int .i64)]), (1, .row false 32 22 59 [.int .i64, .int .i64, .int .i64, .int .i64, .int .i64, .int .i64, .int .i64, .int .i64, .int .i64, .int .i64, .int .i64, .int .i64, .int .i64, .bool, .int .i64, .bool, .int .i64, .int .i64, .int .i64, .int .i64, .int .i64, .bool])], 60⟩
noncomputable def pushG_sp : List GK := [.v itemB, .v itemB, .v itemB, .i, .i, .b, .b, .b, .b, .b, .i, .i, .i, .i]
noncomputable def pushG_0 (x : List GC) (l : List GC) (y : List GC) (a0 : Int) (a1 : Int) (tr : Bool) (op : Bool) (cl : Bool) (en : Bool) (mo : Bool) (la0 : Int) (la1 : Int) (la2 : Int) (er : Int) (C : List (List Int)) : Int :=
  bif er == 0 then settlG_0 (take_0 (nrm x) (nrm l) (nrm y) a0 a1 tr op cl en mo la0 la1 la2 C) else bif er != 0 then er else 0
noncomputable def pushG_1 (x : List GC) (l : List GC) (y : List GC) (a0 : Int) (a1 : Int) (tr : Bool) (op : Bool) (cl : Bool) (en : Bool) (mo : Bool) (la0 : Int) (la1 : Int) (la2 : Int) (er : Int) (C : List (List Int)) : List (List Int) :=
  bif er == 0 then settlG_1 (take_0 (nrm x) (nrm l) (nrm y) a0 a1 tr op cl en mo la0 la1 la2 C) (take_54 (nrm x) (nrm l) (nrm y) a0 a1 tr op cl en mo la0 la1 la2 C []) else []
noncomputable def pushG_2 (x : List GC) (l : List GC) (y : List GC) (a0 : Int) (a1 : Int) (tr : Bool) (op : Bool) (cl : Bool) (en : Bool) (mo : Bool) (la0 : Int) (la1 : Int) (la2 : Int) (er : Int) : Int :=
  bif er == 0 then take_1 (nrm x) (nrm l) (nrm y) a0 a1 tr op cl en mo la0 la1 la2 else xi l 0
noncomputable def pushG_3 (x : List GC) (l : List GC) (y : List GC) (a0 : Int) (a1 : Int) (tr : Bool) (op : Bool) (cl : Bool) (en : Bool) (mo : Bool) (la0 : Int) (la1 : Int) (la2 : Int) (er : Int) : Int :=
  bif er == 0 then take_2 (nrm x) (nrm l) (nrm y) a0 a1 tr op cl en mo la0 la1 la2 else xi l 1
noncomputable def pushG_4 (x : List GC) (l : List GC) (y : List GC) (a0 : Int) (a1 : Int) (tr : Bool) (op : Bool) (cl : Bool) (en : Bool) (mo : Bool) (la0 : Int) (la1 : Int) (la2 : Int) (er : Int) : Int :=
  bif er == 0 then take_3 (nrm x) (nrm l) (nrm y) a0 a1 tr op cl en mo la0 la1 la2 else xi l 2
noncomputable def pushG_5 (x : List GC) (l : List GC) (y : List GC) (a0 : Int) (a1 : Int) (tr : Bool) (op : Bool) (cl : Bool) (en : Bool) (mo : Bool) (la0 : Int) (la1 : Int) (la2 : Int) (er : Int) : Int :=
  bif er == 0 then take_4 (nrm x) (nrm l) (nrm y) a0 a1 tr op cl en mo la0 la1 la2 else xi l 3
noncomputable def pushG_6 (x : List GC) (l : List GC) (y : List GC) (a0 : Int) (a1 : Int) (tr : Bool) (op : Bool) (cl : Bool) (en : Bool) (mo : Bool) (la0 : Int) (la1 : Int) (la2 : Int) (er : Int) : Int :=
  bif er == 0 then take_5 (nrm x) (nrm l) (nrm y) a0 a1 tr op cl en mo la0 la1 la2 else xi l 4
noncomputable def pushG_7 (x : List GC) (l : List GC) (y : List GC) (a0 : Int) (a1 : Int) (tr : Bool) (op : Bool) (cl : Bool) (en : Bool) (mo : Bool) (la0 : Int) (la1 : Int) (la2 : Int) (er : Int) : Int :=
  bif er == 0 then take_6 (nrm x) (nrm l) (nrm y) a0 a1 tr op cl en mo la0 la1 la2 else xi l 5
noncomputable def pushG_8 (x : List GC) (l : List GC) (y : List GC) (a0 : Int) (a1 : Int) (tr : Bool) (op : Bool) (cl : Bool) (en : Bool) (mo : Bool) (la0 : Int) (la1 : Int) (la2 : Int) (er : Int) : Int :=
  bif er == 0 then take_7 (nrm x) (nrm l) (nrm y) a0 a1 tr op cl en mo la0 la1 la2 else xi l 6
noncomputable def pushG_9 (x : List GC) (l : List GC) (y : List GC) (a0 : Int) (a1 : Int) (tr : Bool) (op : Bool) (cl : Bool) (en : Bool) (mo : Bool) (la0 : Int) (la1 : Int) (la2 : Int) (er : Int) : Int :=
  bif er == 0 then take_8 (nrm x) (nrm l) (nrm y) a0 a1 tr op cl en mo la0 la1 la2 else xi l 7
noncomputable def pushG_10 (x : List GC) (l : List GC) (y : List GC) (a0 : Int) (a1 : Int) (tr : Bool) (op : Bool) (cl : Bool) (en : Bool) (mo : Bool) (la0 : Int) (la1 : Int) (la2 : Int) (er : Int) : Int :=
  bif er == 0 then take_9 (nrm x) (nrm l) (nrm y) a0 a1 tr op cl en mo la0 la1 la2 else xi l 8
noncomputable def pushG_11 (x : List GC) (l : List GC) (y : List GC) (a0 : Int) (a1 : Int) (tr : Bool) (op : Bool) (cl : Bool) (en : Bool) (mo : Bool) (la0 : Int) (la1 : Int) (la2 : Int) (er : Int) : Int :=
  bif er == 0 then take_10 (nrm x) (nrm l) (nrm y) a0 a1 tr op cl en mo la0 la1 la2 else xi l 9
noncomputable def pushG_12 (x : List GC) (l : List GC) (y : List GC) (a0 : Int) (a1 : Int) (tr : Bool) (op : Bool) (cl : Bool) (en : Bool) (mo : Bool) (la0 : Int) (la1 : Int) (la2 : Int) (er : Int) : Int :=
  bif er == 0 then take_11 (nrm x) (nrm l) (nrm y) a0 a1 tr op cl en mo la0 la1 la2 else xi l 10
noncomputable def pushG_13 (x : List GC) (l : List GC) (y : List GC) (a0 : Int) (a1 : Int) (tr : Bool) (op : Bool) (cl : Bool) (en : Bool) (mo : Bool) (la0 : Int) (la1 : Int) (la2 : Int) (er : Int) : Int :=
  bif er == 0 then take_12 (nrm x) (nrm l) (nrm y) a0 a1 tr op cl en mo la0 la1 la2 else xi l 11
noncomputable def pushG_14 (x : List GC) (l : List GC) (y : List GC) (a0 : Int) (a1 : Int) (tr : Bool) (op : Bool) (cl : Bool) (en : Bool) (mo : Bool) (la0 : Int) (la1 : Int) (la2 : Int) (er : Int) : Int :=
  bif er == 0 then take_13 (nrm x) (nrm l) (nrm y) a0 a1 tr op cl en mo la0 la1 la2 else xi l 12
noncomputable def pushG_15 (x : List GC) (l : List GC) (y : List GC) (a0 : Int) (a1 : Int) (tr : Bool) (op : Bool) (cl : Bool) (en : Bool) (mo : Bool) (la0 : Int) (la1 : Int) (la2 : Int) (er : Int) : Bool :=
  bif er == 0 then take_14 (nrm x) (nrm l) (nrm y) a0 a1 tr op cl en mo la0 la1 la2 else xb l 13
noncomputable def pushG_16 (x : List GC) (l : List GC) (y : List GC) (a0 : Int) (a1 : Int) (tr : Bool) (op : Bool) (cl : Bool) (en : Bool) (mo : Bool) (la0 : Int) (la1 : Int) (la2 : Int) (er : Int) : Int :=
  bif er == 0 then take_15 (nrm x) (nrm l) (nrm y) a0 a1 tr op cl en mo la0 la1 la2 else xi l 14
noncomputable def pushG_17 (x : List GC) (l : List GC) (y : List GC) (a0 : Int) (a1 : Int) (tr : Bool) (op : Bool) (cl : Bool) (en : Bool) (mo : Bool) (la0 : Int) (la1 : Int) (la2 : Int) (er : Int) : Bool :=
  bif er == 0 then take_16 (nrm x) (nrm l) (nrm y) a0 a1 tr op cl en mo la0 la1 la2 else xb l 15
noncomputable def pushG_18 (x : List GC) (l : List GC) (y : List GC) (a0 : Int) (a1 : Int) (tr : Bool) (op : Bool) (cl : Bool) (en : Bool) (mo : Bool) (la0 : Int) (la1 : Int) (la2 : Int) (er : Int) : Int :=
  bif er == 0 then take_17 (nrm x) (nrm l) (nrm y) a0 a1 tr op cl en mo la0 la1 la2 else xi l 16
noncomputable def pushG_19 (x : List GC) (l : List GC) (y : List GC) (a0 : Int) (a1 : Int) (tr : Bool) (op : Bool) (cl : Bool) (en : Bool) (mo : Bool) (la0 : Int) (la1 : Int) (la2 : Int) (er : Int) : Int :=
  bif er == 0 then take_18 (nrm x) (nrm l) (nrm y) a0 a1 tr op cl en mo la0 la1 la2 else xi l 17
noncomputable def pushG_20 (x : List GC) (l : List GC) (y : List GC) (a0 : Int) (a1 : Int) (tr : Bool) (op : Bool) (cl : Bool) (en : Bool) (mo : Bool) (la0 : Int) (la1 : Int) (la2 : Int) (er : Int) : Int :=
  bif er == 0 then take_19 (nrm x) (nrm l) (nrm y) a0 a1 tr op cl en mo la0 la1 la2 else xi l 18
noncomputable def pushG_21 (x : List GC) (l : List GC) (y : List GC) (a0 : Int) (a1 : Int) (tr : Bool) (op : Bool) (cl : Bool) (en : Bool) (mo : Bool) (la0 : Int) (la1 : Int) (la2 : Int) (er : Int) : Int :=
  bif er == 0 then take_20 (nrm x) (nrm l) (nrm y) a0 a1 tr op cl en mo la0 la1 la2 else xi l 19
noncomputable def pushG_22 (x : List GC) (l : List GC) (y : List GC) (a0 : Int) (a1 : Int) (tr : Bool) (op : Bool) (cl : Bool) (en : Bool) (mo : Bool) (la0 : Int) (la1 : Int) (la2 : Int) (er : Int) : Int :=
  bif er == 0 then take_21 (nrm x) (nrm l) (nrm y) a0 a1 tr op cl en mo la0 la1 la2 else xi l 20
noncomputable def pushG_23 (x : List GC) (l : List GC) (y : List GC) (a0 : Int) (a1 : Int) (tr : Bool) (op : Bool) (cl : Bool) (en : Bool) (mo : Bool) (la0 : Int) (la1 : Int) (la2 : Int) (er : Int) : Bool :=
  bif er == 0 then take_22 (nrm x) (nrm l) (nrm y) a0 a1 tr op cl en mo la0 la1 la2 else xb l 21
noncomputable def pushG_24 (x : List GC) (l : List GC) (y : List GC) (a0 : Int) (a1 : Int) (tr : Bool) (op : Bool) (cl : Bool) (en : Bool) (mo : Bool) (la0 : Int) (la1 : Int) (la2 : Int) (er : Int) : Int :=
  bif er == 0 then take_23 (nrm x) (nrm l) (nrm y) a0 a1 tr op cl en mo la0 la1 la2 else xi y 0
noncomputable def pushG_25 (x : List GC) (l : List GC) (y : List GC) (a0 : Int) (a1 : Int) (tr : Bool) (op : Bool) (cl : Bool) (en : Bool) (mo : Bool) (la0 : Int) (la1 : Int) (la2 : Int) (er : Int) : Int :=
  bif er == 0 then take_24 (nrm x) (nrm l) (nrm y) a0 a1 tr op cl en mo la0 la1 la2 else xi y 1
noncomputable def pushG_26 (x : List GC) (l : List GC) (y : List GC) (a0 : Int) (a1 : Int) (tr : Bool) (op : Bool) (cl : Bool) (en : Bool) (mo : Bool) (la0 : Int) (la1 : Int) (la2 : Int) (er : Int) : Int :=
  bif er == 0 then take_25 (nrm x) (nrm l) (nrm y) a0 a1 tr op cl en mo la0 la1 la2 else xi y 2
noncomputable def pushG_27 (x : List GC) (l : List GC) (y : List GC) (a0 : Int) (a1 : Int) (tr : Bool) (op : Bool) (cl : Bool) (en : Bool) (mo : Bool) (la0 : Int) (la1 : Int) (la2 : Int) (er : Int) : Int :=
  bif er == 0 then take_26 (nrm x) (nrm l) (nrm y) a0 a1 tr op cl en mo la0 la1 la2 else xi y 3
noncomputable def pushG_28 (x : List GC) (l : List GC) (y : List GC) (a0 : Int) (a1 : Int) (tr : Bool) (op : Bool) (cl : Bool) (en : Bool) (mo : Bool) (la0 : Int) (la1 : Int) (la2 : Int) (er : Int) : Int :=
  bif er == 0 then take_27 (nrm x) (nrm l) (nrm y) a0 a1 tr op cl en mo la0 la1 la2 else xi y 4
noncomputable def pushG_29 (x : List GC) (l : List GC) (y : List GC) (a0 : Int) (a1 : Int) (tr : Bool) (op : Bool) (cl : Bool) (en : Bool) (mo : Bool) (la0 : Int) (la1 : Int) (la2 : Int) (er : Int) : Int :=
  bif er == 0 then take_28 (nrm x) (nrm l) (nrm y) a0 a1 tr op cl en mo la0 la1 la2 else xi y 5
noncomputable def pushG_30 (x : List GC) (l : List GC) (y : List GC) (a0 : Int) (a1 : Int) (tr : Bool) (op : Bool) (cl : Bool) (en : Bool) (mo : Bool) (la0 : Int) (la1 : Int) (la2 : Int) (er : Int) : Int :=
  bif er == 0 then take_29 (nrm x) (nrm l) (nrm y) a0 a1 tr op cl en mo la0 la1 la2 else xi y 6
noncomputable def pushG_31 (x : List GC) (l : List GC) (y : List GC) (a0 : Int) (a1 : Int) (tr : Bool) (op : Bool) (cl : Bool) (en : Bool) (mo : Bool) (la0 : Int) (la1 : Int) (la2 : Int) (er : Int) : Int :=
  bif er == 0 then take_30 (nrm x) (nrm l) (nrm y) a0 a1 tr op cl en mo la0 la1 la2 else xi y 7
noncomputable def pushG_32 (x : List GC) (l : List GC) (y : List GC) (a0 : Int) (a1 : Int) (tr : Bool) (op : Bool) (cl : Bool) (en : Bool) (mo : Bool) (la0 : Int) (la1 : Int) (la2 : Int) (er : Int) : Int :=
  bif er == 0 then take_31 (nrm x) (nrm l) (nrm y) a0 a1 tr op cl en mo la0 la1 la2 else xi y 8
noncomputable def pushG_33 (x : List GC) (l : List GC) (y : List GC) (a0 : Int) (a1 : Int) (tr : Bool) (op : Bool) (cl : Bool) (en : Bool) (mo : Bool) (la0 : Int) (la1 : Int) (la2 : Int) (er : Int) : Int :=
  bif er == 0 then take_32 (nrm x) (nrm l) (nrm y) a0 a1 tr op cl en mo la0 la1 la2 else xi y 9
noncomputable def pushG_34 (x : List GC) (l : List GC) (y : List GC) (a0 : Int) (a1 : Int) (tr : Bool) (op : Bool) (cl : Bool) (en : Bool) (mo : Bool) (la0 : Int) (la1 : Int) (la2 : Int) (er : Int) : Int :=
  bif er == 0 then take_33 (nrm x) (nrm l) (nrm y) a0 a1 tr op cl en mo la0 la1 la2 else xi y 10
noncomputable def pushG_35 (x : List GC) (l : List GC) (y : List GC) (a0 : Int) (a1 : Int) (tr : Bool) (op : Bool) (cl : Bool) (en : Bool) (mo : Bool) (la0 : Int) (la1 : Int) (la2 : Int) (er : Int) : Int :=
  bif er == 0 then take_34 (nrm x) (nrm l) (nrm y) a0 a1 tr op cl en mo la0 la1 la2 else xi y 11
noncomputable def pushG_36 (x : List GC) (l : List GC) (y : List GC) (a0 : Int) (a1 : Int) (tr : Bool) (op : Bool) (cl : Bool) (en : Bool) (mo : Bool) (la0 : Int) (la1 : Int) (la2 : Int) (er : Int) : Int :=
  bif er == 0 then take_35 (nrm x) (nrm l) (nrm y) a0 a1 tr op cl en mo la0 la1 la2 else xi y 12
noncomputable def pushG_37 (x : List GC) (l : List GC) (y : List GC) (a0 : Int) (a1 : Int) (tr : Bool) (op : Bool) (cl : Bool) (en : Bool) (mo : Bool) (la0 : Int) (la1 : Int) (la2 : Int) (er : Int) : Bool :=
  bif er == 0 then take_36 (nrm x) (nrm l) (nrm y) a0 a1 tr op cl en mo la0 la1 la2 else xb y 13
noncomputable def pushG_38 (x : List GC) (l : List GC) (y : List GC) (a0 : Int) (a1 : Int) (tr : Bool) (op : Bool) (cl : Bool) (en : Bool) (mo : Bool) (la0 : Int) (la1 : Int) (la2 : Int) (er : Int) : Int :=
  bif er == 0 then take_37 (nrm x) (nrm l) (nrm y) a0 a1 tr op cl en mo la0 la1 la2 else xi y 14
noncomputable def pushG_39 (x : List GC) (l : List GC) (y : List GC) (a0 : Int) (a1 : Int) (tr : Bool) (op : Bool) (cl : Bool) (en : Bool) (mo : Bool) (la0 : Int) (la1 : Int) (la2 : Int) (er : Int) : Bool :=
  bif er == 0 then take_38 (nrm x) (nrm l) (nrm y) a0 a1 tr op cl en mo la0 la1 la2 else xb y 15
noncomputable def pushG_40 (x : List GC) (l : List GC) (y : List GC) (a0 : Int) (a1 : Int) (tr : Bool) (op : Bool) (cl : Bool) (en : Bool) (mo : Bool) (la0 : Int) (la1 : Int) (la2 : Int) (er : Int) : Int :=
  bif er == 0 then take_39 (nrm x) (nrm l) (nrm y) a0 a1 tr op cl en mo la0 la1 la2 else xi y 16
noncomputable def pushG_41 (x : List GC) (l : List GC) (y : List GC) (a0 : Int) (a1 : Int) (tr : Bool) (op : Bool) (cl : Bool) (en : Bool) (mo : Bool) (la0 : Int) (la1 : Int) (la2 : Int) (er : Int) : Int :=
  bif er == 0 then take_40 (nrm x) (nrm l) (nrm y) a0 a1 tr op cl en mo la0 la1 la2 else xi y 17
noncomputable def pushG_42 (x : List GC) (l : List GC) (y : List GC) (a0 : Int) (a1 : Int) (tr : Bool) (op : Bool) (cl : Bool) (en : Bool) (mo : Bool) (la0 : Int) (la1 : Int) (la2 : Int) (er : Int) : Int :=
  bif er == 0 then take_41 (nrm x) (nrm l) (nrm y) a0 a1 tr op cl en mo la0 la1 la2 else xi y 18
noncomputable def pushG_43 (x : List GC) (l : List GC) (y : List GC) (a0 : Int) (a1 : Int) (tr : Bool) (op : Bool) (cl : Bool) (en : Bool) (mo : Bool) (la0 : Int) (la1 : Int) (la2 : Int) (er : Int) : Int :=
  bif er == 0 then take_42 (nrm x) (nrm l) (nrm y) a0 a1 tr op cl en mo la0 la1 la2 else xi y 19
noncomputable def pushG_44 (x : List GC) (l : List GC) (y : List GC) (a0 : Int) (a1 : Int) (tr : Bool) (op : Bool) (cl : Bool) (en : Bool) (mo : Bool) (la0 : Int) (la1 : Int) (la2 : Int) (er : Int) : Int :=
  bif er == 0 then take_43 (nrm x) (nrm l) (nrm y) a0 a1 tr op cl en mo la0 la1 la2 else xi y 20
noncomputable def pushG_45 (x : List GC) (l : List GC) (y : List GC) (a0 : Int) (a1 : Int) (tr : Bool) (op : Bool) (cl : Bool) (en : Bool) (mo : Bool) (la0 : Int) (la1 : Int) (la2 : Int) (er : Int) : Bool :=
  bif er == 0 then take_44 (nrm x) (nrm l) (nrm y) a0 a1 tr op cl en mo la0 la1 la2 else xb y 21
noncomputable def pushG_46 (x : List GC) (l : List GC) (y : List GC) (a0 : Int) (a1 : Int) (tr : Bool) (op : Bool) (cl : Bool) (en : Bool) (mo : Bool) (la0 : Int) (la1 : Int) (la2 : Int) (er : Int) : Int :=
  bif er == 0 then take_45 (nrm x) (nrm l) (nrm y) a0 a1 tr op cl en mo la0 la1 la2 else a0
noncomputable def pushG_47 (x : List GC) (l : List GC) (y : List GC) (a0 : Int) (a1 : Int) (tr : Bool) (op : Bool) (cl : Bool) (en : Bool) (mo : Bool) (la0 : Int) (la1 : Int) (la2 : Int) (er : Int) : Int :=
  bif er == 0 then take_46 (nrm x) (nrm l) (nrm y) a0 a1 tr op cl en mo la0 la1 la2 else a1
noncomputable def pushG_48 (x : List GC) (l : List GC) (y : List GC) (a0 : Int) (a1 : Int) (tr : Bool) (op : Bool) (cl : Bool) (en : Bool) (mo : Bool) (la0 : Int) (la1 : Int) (la2 : Int) (er : Int) : Bool :=
  bif er == 0 then take_47 (nrm x) (nrm l) (nrm y) a0 a1 tr op cl en mo la0 la1 la2 else tr
noncomputable def pushG_49 (x : List GC) (l : List GC) (y : List GC) (a0 : Int) (a1 : Int) (tr : Bool) (op : Bool) (cl : Bool) (en : Bool) (mo : Bool) (la0 : Int) (la1 : Int) (la2 : Int) (er : Int) : Bool :=
  bif er == 0 then take_48 (nrm x) (nrm l) (nrm y) a0 a1 tr op cl en mo la0 la1 la2 else op
noncomputable def pushG_50 (x : List GC) (cl : Bool) (en : Bool) (mo : Bool) (la0 : Int) (la1 : Int) (la2 : Int) (er : Int) : Bool :=
  bif er == 0 then take_49 (nrm x) cl en mo la0 la1 la2 else en
noncomputable def pushG_51 (x : List GC) (cl : Bool) (en : Bool) (mo : Bool) (la0 : Int) (la1 : Int) (la2 : Int) (er : Int) : Bool :=
  bif er == 0 then take_50 (nrm x) cl en mo la0 la1 la2 else mo
noncomputable def pushG_52 (x : List GC) (cl : Bool) (en : Bool) (mo : Bool) (la0 : Int) (la1 : Int) (la2 : Int) (er : Int) : Int :=
  bif er == 0 then take_51 (nrm x) cl en mo la0 la1 la2 else la0
noncomputable def pushG_53 (x : List GC) (cl : Bool) (en : Bool) (mo : Bool) (la0 : Int) (la1 : Int) (la2 : Int) (er : Int) : Int :=
  bif er == 0 then take_52 (nrm x) cl en mo la0 la1 la2 else la1
noncomputable def pushG_54 (x : List GC) (cl : Bool) (en : Bool) (mo : Bool) (la0 : Int) (la1 : Int) (la2 : Int) (er : Int) : Int :=
  bif er == 0 then take_53 (nrm x) cl en mo la0 la1 la2 else la2
noncomputable def pushG_55 (x : List GC) (l : List GC) (y : List GC) (a0 : Int) (a1 : Int) (tr : Bool) (op : Bool) (cl : Bool) (en : Bool) (mo : Bool) (la0 : Int) (la1 : Int) (la2 : Int) (er : Int) (C : List (List Int)) : Int :=
  bif er == 0 then take_0 (nrm x) (nrm l) (nrm y) a0 a1 tr op cl en mo la0 la1 la2 C else er
noncomputable def pushG_56 (x : List GC) (l : List GC) (y : List GC) (a0 : Int) (a1 : Int) (tr : Bool) (op : Bool) (cl : Bool) (en : Bool) (mo : Bool) (la0 : Int) (la1 : Int) (la2 : Int) (er : Int) (C : List (List Int)) : List (List Int) :=
  bif er == 0 then take_55 (nrm x) (nrm l) (nrm y) a0 a1 tr op cl en mo la0 la1 la2 C else C
noncomputable def pushG_needs (er : Int) (C : List (List Int)) : List Prop :=
  [(er == 0) = true → C.length ≤ 1000 ∧ 0 ≤ 800000]
theorem pushG_weak {er : Int} {C : List (List Int)} (hW : ∀ q ∈ ([C.length ≤ 1000] : List Prop), q) : ∀ q ∈ (pushG_needs er C), q := by
  simp only [List.mem_cons, List.not_mem_nil, or_false, forall_eq_or_imp, forall_eq] at hW
  unfold pushG_needs
  simp only [List.forall_mem_cons, List.not_mem_nil, false_implies, implies_true, and_true]
  exact fun _ => ⟨hW, by simp⟩
set_option maxRecDepth 1000000 in
theorem pushG_runs (x l y : List GC) (a0 a1 : Int) (tr op cl en mo : Bool) (la0 la1 la2 er : Int) (C : List (List Int)) (hNeeds : ∀ pN ∈ (pushG_needs er C), pN) : Runs (runG (sums K_settlG) L_same 19) (pushG_tpl.args (spread pushG_sp [.v x, .v l, .v y, .i a0, .i a1, .b tr, .b op, .b cl, .b en, .b mo, .i la0, .i la1, .i la2, .i er])) (pushG_tpl.memo (spread pushG_sp [.v x, .v l, .v y, .i a0, .i a1, .b tr, .b op, .b cl, .b en, .b mo, .i la0, .i la1, .i la2, .i er]) [C]) pushG_tpl.n (SV.tup [(false, [SC.wh 103047]), (false, [SC.int IntKind.i64 (SI.v (pushG_0 x l y a0 a1 tr op cl en mo la0 la1 la2 er C))])])
    ([(103047,
     Obj.row false 32 22
     (RowC.lst 103046
     [CK.int IntKind.i64, CK.int IntKind.i64, CK.int IntKind.i64, CK.int IntKind.i64, CK.int IntKind.i64, CK.int IntKind.i64, CK.int IntKind.i64, CK.int IntKind.i64, CK.int IntKind.i64,
     CK.int IntKind.i64, CK.int IntKind.i64, CK.int IntKind.i64, CK.int IntKind.i64, CK.bool, CK.int IntKind.i64, CK.bool, CK.int IntKind.i64, CK.int IntKind.i64, CK.int IntKind.i64,
     CK.int IntKind.i64, CK.int IntKind.i64, CK.bool]
     (pushG_1 x l y a0 a1 tr op cl en mo la0 la1 la2 er C))),
    (0,
     Obj.blk 66
     [(103049, SC.int IntKind.i64 (SI.v (pushG_2 x l y a0 a1 tr op cl en mo la0 la1 la2 er))), (103050, SC.int IntKind.i64 (SI.v (pushG_3 x l y a0 a1 tr op cl en mo la0 la1 la2 er))),
     (103051, SC.int IntKind.i64 (SI.v (pushG_4 x l y a0 a1 tr op cl en mo la0 la1 la2 er))), (103052, SC.int IntKind.i64 (SI.v (pushG_5 x l y a0 a1 tr op cl en mo la0 la1 la2 er))),
     (103053, SC.int IntKind.i64 (SI.v (pushG_6 x l y a0 a1 tr op cl en mo la0 la1 la2 er))), (103054, SC.int IntKind.i64 (SI.v (pushG_7 x l y a0 a1 tr op cl en mo la0 la1 la2 er))),
     (103055, SC.int IntKind.i64 (SI.v (pushG_8 x l y a0 a1 tr op cl en mo la0 la1 la2 er))), (103056, SC.int IntKind.i64 (SI.v (pushG_9 x l y a0 a1 tr op cl en mo la0 la1 la2 er))),
     (103057, SC.int IntKind.i64 (SI.v (pushG_10 x l y a0 a1 tr op cl en mo la0 la1 la2 er))), (103058, SC.int IntKind.i64 (SI.v (pushG_11 x l y a0 a1 tr op cl en mo la0 la1 la2 er))),
     (103059, SC.int IntKind.i64 (SI.v (pushG_12 x l y a0 a1 tr op cl en mo la0 la1 la2 er))), (103060, SC.int IntKind.i64 (SI.v (pushG_13 x l y a0 a1 tr op cl en mo la0 la1 la2 er))),
     (103061, SC.int IntKind.i64 (SI.v (pushG_14 x l y a0 a1 tr op cl en mo la0 la1 la2 er))), (103062, SC.bool (SB.v (pushG_15 x l y a0 a1 tr op cl en mo la0 la1 la2 er))),
     (103063, SC.int IntKind.i64 (SI.v (pushG_16 x l y a0 a1 tr op cl en mo la0 la1 la2 er))), (103064, SC.bool (SB.v (pushG_17 x l y a0 a1 tr op cl en mo la0 la1 la2 er))),
     (103065, SC.int IntKind.i64 (SI.v (pushG_18 x l y a0 a1 tr op cl en mo la0 la1 la2 er))), (103066, SC.int IntKind.i64 (SI.v (pushG_19 x l y a0 a1 tr op cl en mo la0 la1 la2 er))),
     (103067, SC.int IntKind.i64 (SI.v (pushG_20 x l y a0 a1 tr op cl en mo la0 la1 la2 er))), (103068, SC.int IntKind.i64 (SI.v (pushG_21 x l y a0 a1 tr op cl en mo la0 la1 la2 er))),
     (103069, SC.int IntKind.i64 (SI.v (pushG_22 x l y a0 a1 tr op cl en mo la0 la1 la2 er))), (103070, SC.bool (SB.v (pushG_23 x l y a0 a1 tr op cl en mo la0 la1 la2 er))),
     (103071, SC.int IntKind.i64 (SI.v (pushG_24 x l y a0 a1 tr op cl en mo la0 la1 la2 er))), (103072, SC.int IntKind.i64 (SI.v (pushG_25 x l y a0 a1 tr op cl en mo la0 la1 la2 er))),
     (103073, SC.int IntKind.i64 (SI.v (pushG_26 x l y a0 a1 tr op cl en mo la0 la1 la2 er))), (103074, SC.int IntKind.i64 (SI.v (pushG_27 x l y a0 a1 tr op cl en mo la0 la1 la2 er))),
     (103075, SC.int IntKind.i64 (SI.v (pushG_28 x l y a0 a1 tr op cl en mo la0 la1 la2 er))), (103076, SC.int IntKind.i64 (SI.v (pushG_29 x l y a0 a1 tr op cl en mo la0 la1 la2 er))),
     (103077, SC.int IntKind.i64 (SI.v (pushG_30 x l y a0 a1 tr op cl en mo la0 la1 la2 er))), (103078, SC.int IntKind.i64 (SI.v (pushG_31 x l y a0 a1 tr op cl en mo la0 la1 la2 er))),
     (103079, SC.int IntKind.i64 (SI.v (pushG_32 x l y a0 a1 tr op cl en mo la0 la1 la2 er))), (103080, SC.int IntKind.i64 (SI.v (pushG_33 x l y a0 a1 tr op cl en mo la0 la1 la2 er))),
     (103081, SC.int IntKind.i64 (SI.v (pushG_34 x l y a0 a1 tr op cl en mo la0 la1 la2 er))), (103082, SC.int IntKind.i64 (SI.v (pushG_35 x l y a0 a1 tr op cl en mo la0 la1 la2 er))),
     (103083, SC.int IntKind.i64 (SI.v (pushG_36 x l y a0 a1 tr op cl en mo la0 la1 la2 er))), (103084, SC.bool (SB.v (pushG_37 x l y a0 a1 tr op cl en mo la0 la1 la2 er))),
     (103085, SC.int IntKind.i64 (SI.v (pushG_38 x l y a0 a1 tr op cl en mo la0 la1 la2 er))), (103086, SC.bool (SB.v (pushG_39 x l y a0 a1 tr op cl en mo la0 la1 la2 er))),
     (103087, SC.int IntKind.i64 (SI.v (pushG_40 x l y a0 a1 tr op cl en mo la0 la1 la2 er))), (103088, SC.int IntKind.i64 (SI.v (pushG_41 x l y a0 a1 tr op cl en mo la0 la1 la2 er))),
     (103089, SC.int IntKind.i64 (SI.v (pushG_42 x l y a0 a1 tr op cl en mo la0 la1 la2 er))), (103090, SC.int IntKind.i64 (SI.v (pushG_43 x l y a0 a1 tr op cl en mo la0 la1 la2 er))),
     (103091, SC.int IntKind.i64 (SI.v (pushG_44 x l y a0 a1 tr op cl en mo la0 la1 la2 er))), (103092, SC.bool (SB.v (pushG_45 x l y a0 a1 tr op cl en mo la0 la1 la2 er))),
     (103093, SC.int IntKind.i64 (SI.v (pushG_46 x l y a0 a1 tr op cl en mo la0 la1 la2 er))), (103094, SC.int IntKind.i64 (SI.v (pushG_47 x l y a0 a1 tr op cl en mo la0 la1 la2 er))),
     (103095, SC.bool (SB.v (pushG_48 x l y a0 a1 tr op cl en mo la0 la1 la2 er))), (103045, SC.wh 103043), (103096, SC.bool (SB.v (pushG_49 x l y a0 a1 tr op cl en mo la0 la1 la2 er))),
     (51, SC.bool (SB.v cl)), (103097, SC.bool (SB.v (pushG_50 x cl en mo la0 la1 la2 er))), (103098, SC.bool (SB.v (pushG_51 x cl en mo la0 la1 la2 er))),
     (103099, SC.int IntKind.i64 (SI.v (pushG_52 x cl en mo la0 la1 la2 er))), (103100, SC.int IntKind.i64 (SI.v (pushG_53 x cl en mo la0 la1 la2 er))),
     (103101, SC.int IntKind.i64 (SI.v (pushG_54 x cl en mo la0 la1 la2 er))), (103102, SC.nilsl), (103103, SC.int IntKind.i64 (SI.v (pushG_55 x l y a0 a1 tr op cl en mo la0 la1 la2 er C)))]),
    (103043,
     Obj.row false 32 22
     (RowC.lst 103048
     [CK.int IntKind.i64, CK.int IntKind.i64, CK.int IntKind.i64, CK.int IntKind.i64, CK.int IntKind.i64, CK.int IntKind.i64, CK.int IntKind.i64, CK.int IntKind.i64, CK.int IntKind.i64,
     CK.int IntKind.i64, CK.int IntKind.i64, CK.int IntKind.i64, CK.int IntKind.i64, CK.bool, CK.int IntKind.i64, CK.bool, CK.int IntKind.i64, CK.int IntKind.i64, CK.int IntKind.i64,
     CK.int IntKind.i64, CK.int IntKind.i64, CK.bool]
     (pushG_56 x l y a0 a1 tr op cl en mo la0 la1 la2 er C)))]) :=
  Runs.of1 (ps := (pushG_needs er C)) (by kernel_rfl) hNeeds
noncomputable def pushG_out : List Gm → Lss → Option CRes
  | [.v x, .v l, .v y, .i a0, .i a1, .b tr, .b op, .b cl, .b en, .b mo, .i la0, .i la1, .i la2, .i er], [C] => some ⟨SV.tup [(false, [SC.wh 103047]), (false, [SC.int IntKind.i64 (SI.v (pushG_0 x l y a0 a1 tr op cl en mo la0 la1 la2 er C))])],
    [(103047,
     Obj.row false 32 22
     (RowC.lst 103046
     [CK.int IntKind.i64, CK.int IntKind.i64, CK.int IntKind.i64, CK.int IntKind.i64, CK.int IntKind.i64, CK.int IntKind.i64, CK.int IntKind.i64, CK.int IntKind.i64, CK.int IntKind.i64,
     CK.int IntKind.i64, CK.int IntKind.i64, CK.int IntKind.i64, CK.int IntKind.i64, CK.bool, CK.int IntKind.i64, CK.bool, CK.int IntKind.i64, CK.int IntKind.i64, CK.int IntKind.i64,
     CK.int IntKind.i64, CK.int IntKind.i64, CK.bool]
     (pushG_1 x l y a0 a1 tr op cl en mo la0 la1 la2 er C))),
    (0,
     Obj.blk 66
     [(103049, SC.int IntKind.i64 (SI.v (pushG_2 x l y a0 a1 tr op cl en mo la0 la1 la2 er))), (103050, SC.int IntKind.i64 (SI.v (pushG_3 x l y a0 a1 tr op cl en mo la0 la1 la2 er))),
     (103051, SC.int IntKind.i64 (SI.v (pushG_4 x l y a0 a1 tr op cl en mo la0 la1 la2 er))), (103052, SC.int IntKind.i64 (SI.v (pushG_5 x l y a0 a1 tr op cl en mo la0 la1 la2 er))),
     (103053, SC.int IntKind.i64 (SI.v (pushG_6 x l y a0 a1 tr op cl en mo la0 la1 la2 er))), (103054, SC.int IntKind.i64 (SI.v (pushG_7 x l y a0 a1 tr op cl en mo la0 la1 la2 er))),
     (103055, SC.int IntKind.i64 (SI.v (pushG_8 x l y a0 a1 tr op cl en mo la0 la1 la2 er))), (103056, SC.int IntKind.i64 (SI.v (pushG_9 x l y a0 a1 tr op cl en mo la0 la1 la2 er))),
     (103057, SC.int IntKind.i64 (SI.v (pushG_10 x l y a0 a1 tr op cl en mo la0 la1 la2 er))), (103058, SC.int IntKind.i64 (SI.v (pushG_11 x l y a0 a1 tr op cl en mo la0 la1 la2 er))),
     (103059, SC.int IntKind.i64 (SI.v (pushG_12 x l y a0 a1 tr op cl en mo la0 la1 la2 er))), (103060, SC.int IntKind.i64 (SI.v (pushG_13 x l y a0 a1 tr op cl en mo la0 la1 la2 er))),
     (103061, SC.int IntKind.i64 (SI.v (pushG_14 x l y a0 a1 tr op cl en mo la0 la1 la2 er))), (103062, SC.bool (SB.v (pushG_15 x l y a0 a1 tr op cl en mo la0 la1 la2 er))),
     (103063, SC.int IntKind.i64 (SI.v (pushG_16 x l y a0 a1 tr op cl en mo la0 la1 la2 er))), (103064, SC.bool (SB.v (pushG_17 x l y a0 a1 tr op cl en mo la0 la1 la2 er))),
     (103065, SC.int IntKind.i64 (SI.v (pushG_18 x l y a0 a1 tr op cl en mo la0 la1 la2 er))), (103066, SC.int IntKind.i64 (SI.v (pushG_19 x l y a0 a1 tr op cl en mo la0 la1 la2 er))),
     (103067, SC.int IntKind.i64 (SI.v (pushG_20 x l y a0 a1 tr op cl en mo la0 la1 la2 er))), (103068, SC.int IntKind.i64 (SI.v (pushG_21 x l y a0 a1 tr op cl en mo la0 la1 la2 er))),
     (103069, SC.int IntKind.i64 (SI.v (pushG_22 x l y a0 a1 tr op cl en mo la0 la1 la2 er))), (103070, SC.bool (SB.v (pushG_23 x l y a0 a1 tr op cl en mo la0 la1 la2 er))),
     (103071, SC.int IntKind.i64 (SI.v (pushG_24 x l y a0 a1 tr op cl en mo la0 la1 la2 er))), (103072, SC.int IntKind.i64 (SI.v (pushG_25 x l y a0 a1 tr op cl en mo la0 la1 la2 er))),
     (103073, SC.int IntKind.i64 (SI.v (pushG_26 x l y a0 a1 tr op cl en mo la0 la1 la2 er))), (103074, SC.int IntKind.i64 (SI.v (pushG_27 x l y a0 a1 tr op cl en mo la0 la1 la2 er))),
     (103075, SC.int IntKind.i64 (SI.v (pushG_28 x l y a0 a1 tr op cl en mo la0 la1 la2 er))), (103076, SC.int IntKind.i64 (SI.v (pushG_29 x l y a0 a1 tr op cl en mo la0 la1 la2 er))),
     (103077, SC.int IntKind.i64 (SI.v (pushG_30 x l y a0 a1 tr op cl en mo la0 la1 la2 er))), (103078, SC.int IntKind.i64 (SI.v (pushG_31 x l y a0 a1 tr op cl en mo la0 la1 la2 er))),
     (103079, SC.int IntKind.i64 (SI.v (pushG_32 x l y a0 a1 tr op cl en mo la0 la1 la2 er))), (103080, SC.int IntKind.i64 (SI.v (pushG_33 x l y a0 a1 tr op cl en mo la0 la1 la2 er))),
     (103081, SC.int IntKind.i64 (SI.v (pushG_34 x l y a0 a1 tr op cl en mo la0 la1 la2 er))), (103082, SC.int IntKind.i64 (SI.v (pushG_35 x l y a0 a1 tr op cl en mo la0 la1 la2 er))),
     (103083, SC.int IntKind.i64 (SI.v (pushG_36 x l y a0 a1 tr op cl en mo la0 la1 la2 er))), (103084, SC.bool (SB.v (pushG_37 x l y a0 a1 tr op cl en mo la0 la1 la2 er))),
     (103085, SC.int IntKind.i64 (SI.v (pushG_38 x l y a0 a1 tr op cl en mo la0 la1 la2 er))), (103086, SC.bool (SB.v (pushG_39 x l y a0 a1 tr op cl en mo la0 la1 la2 er))),
     (103087, SC.int IntKind.i64 (SI.v (pushG_40 x l y a0 a1 tr op cl en mo la0 la1 la2 er))), (103088, SC.int IntKind.i64 (SI.v (pushG_41 x l y a0 a1 tr op cl en mo la0 la1 la2 er))),
     (103089, SC.int IntKind.i64 (SI.v (pushG_42 x l y a0 a1 tr op cl en mo la0 la1 la2 er))), (103090, SC.int IntKind.i64 (SI.v (pushG_43 x l y a0 a1 tr op cl en mo la0 la1 la2 er))),
     (103091, SC.int IntKind.i64 (SI.v (pushG_44 x l y a0 a1 tr op cl en mo la0 la1 la2 er))), (103092, SC.bool (SB.v (pushG_45 x l y a0 a1 tr op cl en mo la0 la1 la2 er))),
     (103093, SC.int IntKind.i64 (SI.v (pushG_46 x l y a0 a1 tr op cl en mo la0 la1 la2 er))), (103094, SC.int IntKind.i64 (SI.v (pushG_47 x l y a0 a1 tr op cl en mo la0 la1 la2 er))),
     (103095, SC.bool (SB.v (pushG_48 x l y a0 a1 tr op cl en mo la0 la1 la2 er))), (103045, SC.wh 103043), (103096, SC.bool (SB.v (pushG_49 x l y a0 a1 tr op cl en mo la0 la1 la2 er))),
     (51, SC.bool (SB.v cl)), (103097, SC.bool (SB.v (pushG_50 x cl en mo la0 la1 la2 er))), (103098, SC.bool (SB.v (pushG_51 x cl en mo la0 la1 la2 er))),
     (103099, SC.int IntKind.i64 (SI.v (pushG_52 x cl en mo la0 la1 la2 er))), (103100, SC.int IntKind.i64 (SI.v (pushG_53 x cl en mo la0 la1 la2 er))),
     (103101, SC.int IntKind.i64 (SI.v (pushG_54 x cl en mo la0 la1 la2 er))), (103102, SC.nilsl), (103103, SC.int IntKind.i64 (SI.v (pushG_55 x l y a0 a1 tr op cl en mo la0 la1 la2 er C)))]),
    (103043,
     Obj.row false 32 22
     (RowC.lst 103048
     [CK.int IntKind.i64, CK.int IntKind.i64, CK.int IntKind.i64, CK.int IntKind.i64, CK.int IntKind.i64, CK.int IntKind.i64, CK.int IntKind.i64, CK.int IntKind.i64, CK.int IntKind.i64,
     CK.int IntKind.i64, CK.int IntKind.i64, CK.int IntKind.i64, CK.int IntKind.i64, CK.bool, CK.int IntKind.i64, CK.bool, CK.int IntKind.i64, CK.int IntKind.i64, CK.int IntKind.i64,
     CK.int IntKind.i64, CK.int IntKind.i64, CK.bool]
     (pushG_56 x l y a0 a1 tr op cl en mo la0 la1 la2 er C)))],
    [C.length ≤ 1000], [], 103104⟩
  | _, _ => none
theorem pushG_ok : FOk Try.prog 19 (tplG pushG_sp pushG_tpl pushG_out) := by
  refine tplG_ok (runG_ok known_settlG 19) fun ps ls r hr hn _ => ?_
  unfold pushG_out at hr
  split at hr
  · cases hr; exact ⟨_, pushG_runs _ _ _ _ _ _ _ _ _ _ _ _ _ _ _ (pushG_weak (by exact hn)), fun _ => rfl⟩
  · cases hr
noncomputable def K_pushG : List (Nat × Summ) := (19, tplG pushG_sp pushG_tpl pushG_out) :: K_settlG
theorem known_pushG : Known Try.prog (sums K_pushG) L_same := known_cons known_settlG pushG_ok
noncomputable def closeG_tpl : Tpl := ⟨[.one (.ptr 0 0)], [(0, .blk 66 [(2, .int .i64), (3, .int .i64), (4, .int .i64), (5, .int .i64), (6, .int .i64), (7, .int .i64), (8, .int .i64), (9, .int .i64), (10, .int .i64), (11, .int .i64), (12, .int .i64), (13, .int .i64), (14, .int .i64), (15, .bool), (16, .int .i64), (17, .bool), (18, .int .i64), (19, .int .i64), (20, .int .i64), (21, .int .i64), (22, .int .i64), (23, .bool), (24, .int .i64), (25, .int .i64), (26, .int .i64), (27, .int .i64), (28, .int .i64), (29, .int .i64), (30, .int .i64), (31, .int .i64), (32, .int .i64), (33, .int .i64), (34, .int .i64), (35, .int .i64), (36, .int .i64), (37, .bool), (38, .int .i64), (39, .bool), (40, .int .i64), (41, .int .i64), (42, .int .i64), (43, .int .i64), (44, .int .i64), (45, .bool), (46, .int .i64), (47, .int .i64), (48, .bool), (49, .wh 1), (50, .bool), (51, .bool), (52, .bool), (53, .bool), (54, .int .i64), (55, .int .i64), (56, .int .i64), (57, .nilsl), (58, .int .i64)]), (1, .row false 32 22 59 [.int .i64, .int .i64, .int .i64, .int .i64, .int .i64, .int .i64, .int .i64, .int .i64, .int .i64, .int .i64, .int .i64, .int .i64, .int .i64, .bool, .int .i64, .bool, .int .i64, .int .i64, .int .i64, .int .i64, .int .i64, .bool])], 60⟩
noncomputable def closeG_sp : List GK := [.v itemB, .v itemB, .i, .i, .b, .b, .b, .b, .b, .i, .i, .i, .i]
noncomputable def closeG_s0 (op : Bool) (cl : Bool) (er : Int) : Int :=
  bif er == 0 && (cl || op) then 13 else er
noncomputable def closeG_0 (op : Bool) (cl : Bool) (er : Int) : Int :=
  bif closeG_s0 op cl er != 0 then closeG_s0 op cl er else 0
set_option maxRecDepth 1000000 in
theorem closeG_runs (l y : List GC) (a0 a1 : Int) (tr op cl en mo : Bool) (la0 la1 la2 er : Int) (C : List (List Int)) : Runs (runG (sums K_pushG) L_same 22) (closeG_tpl.args (spread closeG_sp [.v l, .v y, .i a0, .i a1, .b tr, .b op, .b cl, .b en, .b mo, .i la0, .i la1, .i la2, .i er])) (closeG_tpl.memo (spread closeG_sp [.v l, .v y, .i a0, .i a1, .b tr, .b op, .b cl, .b en, .b mo, .i la0, .i la1, .i la2, .i er]) [C]) closeG_tpl.n (SV.tup [(false, [SC.nilsl]), (false, [SC.int IntKind.i64 (SI.v (closeG_0 op cl er))])])
    ([(0,
     Obj.blk 66
     [(2, SC.int IntKind.i64 (SI.v (xi l 0))), (3, SC.int IntKind.i64 (SI.v (xi l 1))), (4, SC.int IntKind.i64 (SI.v (xi l 2))), (5, SC.int IntKind.i64 (SI.v (xi l 3))),
     (6, SC.int IntKind.i64 (SI.v (xi l 4))), (7, SC.int IntKind.i64 (SI.v (xi l 5))), (8, SC.int IntKind.i64 (SI.v (xi l 6))), (9, SC.int IntKind.i64 (SI.v (xi l 7))),
     (10, SC.int IntKind.i64 (SI.v (xi l 8))), (11, SC.int IntKind.i64 (SI.v (xi l 9))), (12, SC.int IntKind.i64 (SI.v (xi l 10))), (13, SC.int IntKind.i64 (SI.v (xi l 11))),
     (14, SC.int IntKind.i64 (SI.v (xi l 12))), (15, SC.bool (SB.v (xb l 13))), (16, SC.int IntKind.i64 (SI.v (xi l 14))), (17, SC.bool (SB.v (xb l 15))), (18, SC.int IntKind.i64 (SI.v (xi l 16))),
     (19, SC.int IntKind.i64 (SI.v (xi l 17))), (20, SC.int IntKind.i64 (SI.v (xi l 18))), (21, SC.int IntKind.i64 (SI.v (xi l 19))), (22, SC.int IntKind.i64 (SI.v (xi l 20))),
     (23, SC.bool (SB.v (xb l 21))), (24, SC.int IntKind.i64 (SI.v (xi y 0))), (25, SC.int IntKind.i64 (SI.v (xi y 1))), (26, SC.int IntKind.i64 (SI.v (xi y 2))),
     (27, SC.int IntKind.i64 (SI.v (xi y 3))), (28, SC.int IntKind.i64 (SI.v (xi y 4))), (29, SC.int IntKind.i64 (SI.v (xi y 5))), (30, SC.int IntKind.i64 (SI.v (xi y 6))),
     (31, SC.int IntKind.i64 (SI.v (xi y 7))), (32, SC.int IntKind.i64 (SI.v (xi y 8))), (33, SC.int IntKind.i64 (SI.v (xi y 9))), (34, SC.int IntKind.i64 (SI.v (xi y 10))),
     (35, SC.int IntKind.i64 (SI.v (xi y 11))), (36, SC.int IntKind.i64 (SI.v (xi y 12))), (37, SC.bool (SB.v (xb y 13))), (38, SC.int IntKind.i64 (SI.v (xi y 14))), (39, SC.bool (SB.v (xb y 15))),
     (40, SC.int IntKind.i64 (SI.v (xi y 16))), (41, SC.int IntKind.i64 (SI.v (xi y 17))), (42, SC.int IntKind.i64 (SI.v (xi y 18))), (43, SC.int IntKind.i64 (SI.v (xi y 19))),
     (44, SC.int IntKind.i64 (SI.v (xi y 20))), (45, SC.bool (SB.v (xb y 21))), (46, SC.int IntKind.i64 (SI.v a0)), (47, SC.int IntKind.i64 (SI.v a1)), (48, SC.bool (SB.v tr)), (49, SC.wh 1),
     (50, SC.bool (SB.v op)), (88, SC.bool (SB.c true)), (52, SC.bool (SB.v en)), (53, SC.bool (SB.v mo)), (54, SC.int IntKind.i64 (SI.v la0)), (55, SC.int IntKind.i64 (SI.v la1)),
     (56, SC.int IntKind.i64 (SI.v la2)), (161, SC.nilsl), (84, SC.int IntKind.i64 (SI.v (closeG_s0 op cl er)))]),
    (1,
     Obj.row false 32 22
     (RowC.lst 59
     [CK.int IntKind.i64, CK.int IntKind.i64, CK.int IntKind.i64, CK.int IntKind.i64, CK.int IntKind.i64, CK.int IntKind.i64, CK.int IntKind.i64, CK.int IntKind.i64, CK.int IntKind.i64,
     CK.int IntKind.i64, CK.int IntKind.i64, CK.int IntKind.i64, CK.int IntKind.i64, CK.bool, CK.int IntKind.i64, CK.bool, CK.int IntKind.i64, CK.int IntKind.i64, CK.int IntKind.i64,
     CK.int IntKind.i64, CK.int IntKind.i64, CK.bool]
     C))]) :=
  Runs.of1 (ps := []) (by kernel_rfl) (by simp)
noncomputable def closeG_out : List Gm → Lss → Option CRes
  | [.v l, .v y, .i a0, .i a1, .b tr, .b op, .b cl, .b en, .b mo, .i la0, .i la1, .i la2, .i er], [C] => some ⟨SV.tup [(false, [SC.nilsl]), (false, [SC.int IntKind.i64 (SI.v (closeG_0 op cl er))])],
    [(0,
     Obj.blk 66
     [(2, SC.int IntKind.i64 (SI.v (xi l 0))), (3, SC.int IntKind.i64 (SI.v (xi l 1))), (4, SC.int IntKind.i64 (SI.v (xi l 2))), (5, SC.int IntKind.i64 (SI.v (xi l 3))),
     (6, SC.int IntKind.i64 (SI.v (xi l 4))), (7, SC.int IntKind.i64 (SI.v (xi l 5))), (8, SC.int IntKind.i64 (SI.v (xi l 6))), (9, SC.int IntKind.i64 (SI.v (xi l 7))),
     (10, SC.int IntKind.i64 (SI.v (xi l 8))), (11, SC.int IntKind.i64 (SI.v (xi l 9))), (12, SC.int IntKind.i64 (SI.v (xi l 10))), (13, SC.int IntKind.i64 (SI.v (xi l 11))),
     (14, SC.int IntKind.i64 (SI.v (xi l 12))), (15, SC.bool (SB.v (xb l 13))), (16, SC.int IntKind.i64 (SI.v (xi l 14))), (17, SC.bool (SB.v (xb l 15))), (18, SC.int IntKind.i64 (SI.v (xi l 16))),
     (19, SC.int IntKind.i64 (SI.v (xi l 17))), (20, SC.int IntKind.i64 (SI.v (xi l 18))), (21, SC.int IntKind.i64 (SI.v (xi l 19))), (22, SC.int IntKind.i64 (SI.v (xi l 20))),
     (23, SC.bool (SB.v (xb l 21))), (24, SC.int IntKind.i64 (SI.v (xi y 0))), (25, SC.int IntKind.i64 (SI.v (xi y 1))), (26, SC.int IntKind.i64 (SI.v (xi y 2))),
     (27, SC.int IntKind.i64 (SI.v (xi y 3))), (28, SC.int IntKind.i64 (SI.v (xi y 4))), (29, SC.int IntKind.i64 (SI.v (xi y 5))), (30, SC.int IntKind.i64 (SI.v (xi y 6))),
     (31, SC.int IntKind.i64 (SI.v (xi y 7))), (32, SC.int IntKind.i64 (SI.v (xi y 8))), (33, SC.int IntKind.i64 (SI.v (xi y 9))), (34, SC.int IntKind.i64 (SI.v (xi y 10))),
     (35, SC.int IntKind.i64 (SI.v (xi y 11))), (36, SC.int IntKind.i64 (SI.v (xi y 12))), (37, SC.bool (SB.v (xb y 13))), (38, SC.int IntKind.i64 (SI.v (xi y 14))), (39, SC.bool (SB.v (xb y 15))),
     (40, SC.int IntKind.i64 (SI.v (xi y 16))), (41, SC.int IntKind.i64 (SI.v (xi y 17))), (42, SC.int IntKind.i64 (SI.v (xi y 18))), (43, SC.int IntKind.i64 (SI.v (xi y 19))),
     (44, SC.int IntKind.i64 (SI.v (xi y 20))), (45, SC.bool (SB.v (xb y 21))), (46, SC.int IntKind.i64 (SI.v a0)), (47, SC.int IntKind.i64 (SI.v a1)), (48, SC.bool (SB.v tr)), (49, SC.wh 1),
     (50, SC.bool (SB.v op)), (88, SC.bool (SB.c true)), (52, SC.bool (SB.v en)), (53, SC.bool (SB.v mo)), (54, SC.int IntKind.i64 (SI.v la0)), (55, SC.int IntKind.i64 (SI.v la1)),
     (56, SC.int IntKind.i64 (SI.v la2)), (161, SC.nilsl), (84, SC.int IntKind.i64 (SI.v (closeG_s0 op cl er)))]),
    (1,
     Obj.row false 32 22
     (RowC.lst 59
     [CK.int IntKind.i64, CK.int IntKind.i64, CK.int IntKind.i64, CK.int IntKind.i64, CK.int IntKind.i64, CK.int IntKind.i64, CK.int IntKind.i64, CK.int IntKind.i64, CK.int IntKind.i64,
     CK.int IntKind.i64, CK.int IntKind.i64, CK.int IntKind.i64, CK.int IntKind.i64, CK.bool, CK.int IntKind.i64, CK.bool, CK.int IntKind.i64, CK.int IntKind.i64, CK.int IntKind.i64,
     CK.int IntKind.i64, CK.int IntKind.i64, CK.bool]
     C))],
    [], [], 182⟩
  | _, _ => none
theorem closeG_ok : FOk Try.prog 22 (tplG closeG_sp closeG_tpl closeG_out) := by
  refine tplG_ok (runG_ok known_pushG 22) fun ps ls r hr hn _ => ?_
  unfold closeG_out at hr
  split at hr
  · cases hr; exact ⟨_, closeG_runs _ _ _ _ _ _ _ _ _ _ _ _ _ _, fun _ => rfl⟩
  · cases hr
noncomputable def K_closeG : List (Nat × Summ) := (22, tplG closeG_sp closeG_tpl closeG_out) :: K_pushG
theorem known_closeG : Known Try.prog (sums K_closeG) L_same := known_cons known_pushG closeG_ok
noncomputable def pendG_tpl : Tpl := ⟨[.one (.ptr 0 0)], [(0, .blk 66 [(2, .int .i64), (3, .int .i64), (4, .int .i64), (5, .int .i64), (6, .int .i64), (7, .int .i64), (8, .int .i64), (9, .int .i64), (10, .int .i64), (11, .int .i64), (12, .int .i64), (13, .int .i64), (14, .int .i64), (15, .bool), (16, .int .i64), (17, .bool), (18, .int .i64), (19, .int .i64), (20, .int .i64), (21, .int .i64), (22, .int .i64), (23, .bool), (24, .int .i64), (25, .int .i64), (26, .int .i64), (27, .int .i64), (28, .int .i64), (29, .int .i64), (30, .int .i64), (31, .int .i64), (32, .int .i64), (33, .int .i64), (34, .int .i64), (35, .int .i64), (36, .int .i64), (37, .bool), (38, .int .i64), (39, .bool), (40, .int .i64), (41, .int .i64), (42, .int .i64), (43, .int .i64), (44, .int .i64), (45, .bool), (46, .int .i64), (47, .int .i64), (48, .bool), (49, .wh 1), (50, .bool), (51, .bool), (52, .bool), (53, .bool), (54, .int .i64), (55, .int .i64), (56, .int .i64), (57, .nilsl), (58, .int .i64)]), (1, .row false 32 22 59 [.int .i64, .int .i64, .int .i64, .int .i64, .int .i64, .int .i64, .int .i64, .int .i64, .int .i64, .int .i64, .int .i64, .int .i64, .int .i64, .bool, .int .i64, .bool, .int .i64, .int .i64, .int .i64, .int .i64, .int .i64, .bool])], 60⟩
noncomputable def pendG_sp : List GK := [.v itemB, .v itemB, .i, .i, .b, .b, .b, .b, .b, .i, .i, .i, .i]
noncomputable def pendG_0 (op : Bool) (er : Int) (C : List (List Int)) : Int :=
  bif er != 0 || !op then 0 else IntKind.i64.wrap (1 + Int.ofNat C.length)
set_option maxRecDepth 1000000 in
theorem pendG_runs (l y : List GC) (a0 a1 : Int) (tr op cl en mo : Bool) (la0 la1 la2 er : Int) (C : List (List Int)) : Runs (runG (sums K_closeG) L_same 21) (pendG_tpl.args (spread pendG_sp [.v l, .v y, .i a0, .i a1, .b tr, .b op, .b cl, .b en, .b mo, .i la0, .i la1, .i la2, .i er])) (pendG_tpl.memo (spread pendG_sp [.v l, .v y, .i a0, .i a1, .b tr, .b op, .b cl, .b en, .b mo, .i la0, .i la1, .i la2, .i er]) [C]) pendG_tpl.n (SV.one (SC.int IntKind.i64 (SI.v (pendG_0 op er C))))
    ([(0,
     Obj.blk 66
     [(2, SC.int IntKind.i64 (SI.v (xi l 0))), (3, SC.int IntKind.i64 (SI.v (xi l 1))), (4, SC.int IntKind.i64 (SI.v (xi l 2))), (5, SC.int IntKind.i64 (SI.v (xi l 3))),
     (6, SC.int IntKind.i64 (SI.v (xi l 4))), (7, SC.int IntKind.i64 (SI.v (xi l 5))), (8, SC.int IntKind.i64 (SI.v (xi l 6))), (9, SC.int IntKind.i64 (SI.v (xi l 7))),
     (10, SC.int IntKind.i64 (SI.v (xi l 8))), (11, SC.int IntKind.i64 (SI.v (xi l 9))), (12, SC.int IntKind.i64 (SI.v (xi l 10))), (13, SC.int IntKind.i64 (SI.v (xi l 11))),
     (14, SC.int IntKind.i64 (SI.v (xi l 12))), (15, SC.bool (SB.v (xb l 13))), (16, SC.int IntKind.i64 (SI.v (xi l 14))), (17, SC.bool (SB.v (xb l 15))), (18, SC.int IntKind.i64 (SI.v (xi l 16))),
     (19, SC.int IntKind.i64 (SI.v (xi l 17))), (20, SC.int IntKind.i64 (SI.v (xi l 18))), (21, SC.int IntKind.i64 (SI.v (xi l 19))), (22, SC.int IntKind.i64 (SI.v (xi l 20))),
     (23, SC.bool (SB.v (xb l 21))), (24, SC.int IntKind.i64 (SI.v (xi y 0))), (25, SC.int IntKind.i64 (SI.v (xi y 1))), (26, SC.int IntKind.i64 (SI.v (xi y 2))),
     (27, SC.int IntKind.i64 (SI.v (xi y 3))), (28, SC.int IntKind.i64 (SI.v (xi y 4))), (29, SC.int IntKind.i64 (SI.v (xi y 5))), (30, SC.int IntKind.i64 (SI.v (xi y 6))),
     (31, SC.int IntKind.i64 (SI.v (xi y 7))), (32, SC.int IntKind.i64 (SI.v (xi y 8))), (33, SC.int IntKind.i64 (SI.v (xi y 9))), (34, SC.int IntKind.i64 (SI.v (xi y 10))),
     (35, SC.int IntKind.i64 (SI.v (xi y 11))), (36, SC.int IntKind.i64 (SI.v (xi y 12))), (37, SC.bool (SB.v (xb y 13))), (38, SC.int IntKind.i64 (SI.v (xi y 14))), (39, SC.bool (SB.v (xb y 15))),
     (40, SC.int IntKind.i64 (SI.v (xi y 16))), (41, SC.int IntKind.i64 (SI.v (xi y 17))), (42, SC.int IntKind.i64 (SI.v (xi y 18))), (43, SC.int IntKind.i64 (SI.v (xi y 19))),
     (44, SC.int IntKind.i64 (SI.v (xi y 20))), (45, SC.bool (SB.v (xb y 21))), (46, SC.int IntKind.i64 (SI.v a0)), (47, SC.int IntKind.i64 (SI.v a1)), (48, SC.bool (SB.v tr)), (49, SC.wh 1),
     (50, SC.bool (SB.v op)), (51, SC.bool (SB.v cl)), (52, SC.bool (SB.v en)), (53, SC.bool (SB.v mo)), (54, SC.int IntKind.i64 (SI.v la0)), (55, SC.int IntKind.i64 (SI.v la1)),
     (56, SC.int IntKind.i64 (SI.v la2)), (57, SC.nilsl), (58, SC.int IntKind.i64 (SI.v er))]),
    (1,
     Obj.row false 32 22
     (RowC.lst 59
     [CK.int IntKind.i64, CK.int IntKind.i64, CK.int IntKind.i64, CK.int IntKind.i64, CK.int IntKind.i64, CK.int IntKind.i64, CK.int IntKind.i64, CK.int IntKind.i64, CK.int IntKind.i64,
     CK.int IntKind.i64, CK.int IntKind.i64, CK.int IntKind.i64, CK.int IntKind.i64, CK.bool, CK.int IntKind.i64, CK.bool, CK.int IntKind.i64, CK.int IntKind.i64, CK.int IntKind.i64,
     CK.int IntKind.i64, CK.int IntKind.i64, CK.bool]
     C))]) :=
  Runs.of1 (ps := []) (by kernel_rfl) (by simp)
noncomputable def pendG_out : List Gm → Lss → Option CRes
  | [.v l, .v y, .i a0, .i a1, .b tr, .b op, .b cl, .b en, .b mo, .i la0, .i la1, .i la2, .i er], [C] => some ⟨SV.one (SC.int IntKind.i64 (SI.v (pendG_0 op er C))),
    [(0,
     Obj.blk 66
     [(2, SC.int IntKind.i64 (SI.v (xi l 0))), (3, SC.int IntKind.i64 (SI.v (xi l 1))), (4, SC.int IntKind.i64 (SI.v (xi l 2))), (5, SC.int IntKind.i64 (SI.v (xi l 3))),
     (6, SC.int IntKind.i64 (SI.v (xi l 4))), (7, SC.int IntKind.i64 (SI.v (xi l 5))), (8, SC.int IntKind.i64 (SI.v (xi l 6))), (9, SC.int IntKind.i64 (SI.v (xi l 7))),
     (10, SC.int IntKind.i64 (SI.v (xi l 8))), (11, SC.int IntKind.i64 (SI.v (xi l 9))), (12, SC.int IntKind.i64 (SI.v (xi l 10))), (13, SC.int IntKind.i64 (SI.v (xi l 11))),
     (14, SC.int IntKind.i64 (SI.v (xi l 12))), (15, SC.bool (SB.v (xb l 13))), (16, SC.int IntKind.i64 (SI.v (xi l 14))), (17, SC.bool (SB.v (xb l 15))), (18, SC.int IntKind.i64 (SI.v (xi l 16))),
     (19, SC.int IntKind.i64 (SI.v (xi l 17))), (20, SC.int IntKind.i64 (SI.v (xi l 18))), (21, SC.int IntKind.i64 (SI.v (xi l 19))), (22, SC.int IntKind.i64 (SI.v (xi l 20))),
     (23, SC.bool (SB.v (xb l 21))), (24, SC.int IntKind.i64 (SI.v (xi y 0))), (25, SC.int IntKind.i64 (SI.v (xi y 1))), (26, SC.int IntKind.i64 (SI.v (xi y 2))),
     (27, SC.int IntKind.i64 (SI.v (xi y 3))), (28, SC.int IntKind.i64 (SI.v (xi y 4))), (29, SC.int IntKind.i64 (SI.v (xi y 5))), (30, SC.int IntKind.i64 (SI.v (xi y 6))),
     (31, SC.int IntKind.i64 (SI.v (xi y 7))), (32, SC.int IntKind.i64 (SI.v (xi y 8))), (33, SC.int IntKind.i64 (SI.v (xi y 9))), (34, SC.int IntKind.i64 (SI.v (xi y 10))),
     (35, SC.int IntKind.i64 (SI.v (xi y 11))), (36, SC.int IntKind.i64 (SI.v (xi y 12))), (37, SC.bool (SB.v (xb y 13))), (38, SC.int IntKind.i64 (SI.v (xi y 14))), (39, SC.bool (SB.v (xb y 15))),
     (40, SC.int IntKind.i64 (SI.v (xi y 16))), (41, SC.int IntKind.i64 (SI.v (xi y 17))), (42, SC.int IntKind.i64 (SI.v (xi y 18))), (43, SC.int IntKind.i64 (SI.v (xi y 19))),
     (44, SC.int IntKind.i64 (SI.v (xi y 20))), (45, SC.bool (SB.v (xb y 21))), (46, SC.int IntKind.i64 (SI.v a0)), (47, SC.int IntKind.i64 (SI.v a1)), (48, SC.bool (SB.v tr)), (49, SC.wh 1),
     (50, SC.bool (SB.v op)), (51, SC.bool (SB.v cl)), (52, SC.bool (SB.v en)), (53, SC.bool (SB.v mo)), (54, SC.int IntKind.i64 (SI.v la0)), (55, SC.int IntKind.i64 (SI.v la1)),
     (56, SC.int IntKind.i64 (SI.v la2)), (57, SC.nilsl), (58, SC.int IntKind.i64 (SI.v er))]),
    (1,
     Obj.row false 32 22
     (RowC.lst 59
     [CK.int IntKind.i64, CK.int IntKind.i64, CK.int IntKind.i64, CK.int IntKind.i64, CK.int IntKind.i64, CK.int IntKind.i64, CK.int IntKind.i64, CK.int IntKind.i64, CK.int IntKind.i64,
     CK.int IntKind.i64, CK.int IntKind.i64, CK.int IntKind.i64, CK.int IntKind.i64, CK.bool, CK.int IntKind.i64, CK.bool, CK.int IntKind.i64, CK.int IntKind.i64, CK.int IntKind.i64,
     CK.int IntKind.i64, CK.int IntKind.i64, CK.bool]
     C))],
    [], [], 82⟩
  | _, _ => none
theorem pendG_ok : FOk Try.prog 21 (tplG pendG_sp pendG_tpl pendG_out) := by
  refine tplG_ok (runG_ok known_closeG 21) fun ps ls r hr hn _ => ?_
  unfold pendG_out at hr
  split at hr
  · cases hr; exact ⟨_, pendG_runs _ _ _ _ _ _ _ _ _ _ _ _ _ _, fun _ => rfl⟩
  · cases hr
noncomputable def K_pendG : List (Nat × Summ) := (21, tplG pendG_sp pendG_tpl pendG_out) :: K_closeG
theorem known_pendG : Known Try.prog (sums K_pendG) L_same := known_cons known_closeG pendG_ok
noncomputable def newG_tpl : Tpl := ⟨[], [], 0⟩
set_option maxRecDepth 1000000 in
theorem newG_runs : Runs (runG (sums K_pendG) L_same 18) (newG_tpl.args []) (newG_tpl.memo [] []) newG_tpl.n (SV.one (SC.ptr 2 0))
    ([(2,
     Obj.blk 66
     [(3, SC.int IntKind.i64 (SI.c 0)), (4, SC.int IntKind.i64 (SI.c 0)), (5, SC.int IntKind.i64 (SI.c 0)), (6, SC.int IntKind.i64 (SI.c 0)), (7, SC.int IntKind.i64 (SI.c 0)),
     (8, SC.int IntKind.i64 (SI.c 0)), (9, SC.int IntKind.i64 (SI.c 0)), (10, SC.int IntKind.i64 (SI.c 0)), (11, SC.int IntKind.i64 (SI.c 0)), (12, SC.int IntKind.i64 (SI.c 0)),
     (13, SC.int IntKind.i64 (SI.c 0)), (14, SC.int IntKind.i64 (SI.c 0)), (15, SC.int IntKind.i64 (SI.c 0)), (16, SC.bool (SB.c false)), (17, SC.int IntKind.i64 (SI.c 0)),
     (18, SC.bool (SB.c false)), (19, SC.int IntKind.i64 (SI.c 0)), (20, SC.int IntKind.i64 (SI.c 0)), (21, SC.int IntKind.i64 (SI.c 0)), (22, SC.int IntKind.i64 (SI.c 0)),
     (23, SC.int IntKind.i64 (SI.c 0)), (24, SC.bool (SB.c false)), (25, SC.int IntKind.i64 (SI.c 0)), (26, SC.int IntKind.i64 (SI.c 0)), (27, SC.int IntKind.i64 (SI.c 0)),
     (28, SC.int IntKind.i64 (SI.c 0)), (29, SC.int IntKind.i64 (SI.c 0)), (30, SC.int IntKind.i64 (SI.c 0)), (31, SC.int IntKind.i64 (SI.c 0)), (32, SC.int IntKind.i64 (SI.c 0)),
     (33, SC.int IntKind.i64 (SI.c 0)), (34, SC.int IntKind.i64 (SI.c 0)), (35, SC.int IntKind.i64 (SI.c 0)), (36, SC.int IntKind.i64 (SI.c 0)), (37, SC.int IntKind.i64 (SI.c 0)),
     (38, SC.bool (SB.c false)), (39, SC.int IntKind.i64 (SI.c 0)), (40, SC.bool (SB.c false)), (41, SC.int IntKind.i64 (SI.c 0)), (42, SC.int IntKind.i64 (SI.c 0)),
     (43, SC.int IntKind.i64 (SI.c 0)), (44, SC.int IntKind.i64 (SI.c 0)), (45, SC.int IntKind.i64 (SI.c 0)), (46, SC.bool (SB.c false)), (47, SC.int IntKind.i64 (SI.c 0)),
     (48, SC.int IntKind.i64 (SI.c 0)), (49, SC.bool (SB.c false)), (64, SC.wh 62), (51, SC.bool (SB.c false)), (52, SC.bool (SB.c false)), (53, SC.bool (SB.c false)), (54, SC.bool (SB.c false)),
     (55, SC.int IntKind.i64 (SI.c 0)), (56, SC.int IntKind.i64 (SI.c 0)), (57, SC.int IntKind.i64 (SI.c 0)), (58, SC.nilsl), (59, SC.int IntKind.i64 (SI.c 0))]),
    (62, Obj.row false 32 22 (RowC.lit 63 []))]) :=
  Runs.of1 (ps := []) (by kernel_rfl) (by simp)
noncomputable def newG_out : List Pm → Lss → Option CRes
  | [], [] => some ⟨SV.one (SC.ptr 2 0),
    [(2,
     Obj.blk 66
     [(3, SC.int IntKind.i64 (SI.c 0)), (4, SC.int IntKind.i64 (SI.c 0)), (5, SC.int IntKind.i64 (SI.c 0)), (6, SC.int IntKind.i64 (SI.c 0)), (7, SC.int IntKind.i64 (SI.c 0)),
     (8, SC.int IntKind.i64 (SI.c 0)), (9, SC.int IntKind.i64 (SI.c 0)), (10, SC.int IntKind.i64 (SI.c 0)), (11, SC.int IntKind.i64 (SI.c 0)), (12, SC.int IntKind.i64 (SI.c 0)),
     (13, SC.int IntKind.i64 (SI.c 0)), (14, SC.int IntKind.i64 (SI.c 0)), (15, SC.int IntKind.i64 (SI.c 0)), (16, SC.bool (SB.c false)), (17, SC.int IntKind.i64 (SI.c 0)),
     (18, SC.bool (SB.c false)), (19, SC.int IntKind.i64 (SI.c 0)), (20, SC.int IntKind.i64 (SI.c 0)), (21, SC.int IntKind.i64 (SI.c 0)), (22, SC.int IntKind.i64 (SI.c 0)),
     (23, SC.int IntKind.i64 (SI.c 0)), (24, SC.bool (SB.c false)), (25, SC.int IntKind.i64 (SI.c 0)), (26, SC.int IntKind.i64 (SI.c 0)), (27, SC.int IntKind.i64 (SI.c 0)),
     (28, SC.int IntKind.i64 (SI.c 0)), (29, SC.int IntKind.i64 (SI.c 0)), (30, SC.int IntKind.i64 (SI.c 0)), (31, SC.int IntKind.i64 (SI.c 0)), (32, SC.int IntKind.i64 (SI.c 0)),
     (33, SC.int IntKind.i64 (SI.c 0)), (34, SC.int IntKind.i64 (SI.c 0)), (35, SC.int IntKind.i64 (SI.c 0)), (36, SC.int IntKind.i64 (SI.c 0)), (37, SC.int IntKind.i64 (SI.c 0)),
     (38, SC.bool (SB.c false)), (39, SC.int IntKind.i64 (SI.c 0)), (40, SC.bool (SB.c false)), (41, SC.int IntKind.i64 (SI.c 0)), (42, SC.int IntKind.i64 (SI.c 0)),
     (43, SC.int IntKind.i64 (SI.c 0)), (44, SC.int IntKind.i64 (SI.c 0)), (45, SC.int IntKind.i64 (SI.c 0)), (46, SC.bool (SB.c false)), (47, SC.int IntKind.i64 (SI.c 0)),
     (48, SC.int IntKind.i64 (SI.c 0)), (49, SC.bool (SB.c false)), (64, SC.wh 62), (51, SC.bool (SB.c false)), (52, SC.bool (SB.c false)), (53, SC.bool (SB.c false)), (54, SC.bool (SB.c false)),
     (55, SC.int IntKind.i64 (SI.c 0)), (56, SC.int IntKind.i64 (SI.c 0)), (57, SC.int IntKind.i64 (SI.c 0)), (58, SC.nilsl), (59, SC.int IntKind.i64 (SI.c 0))]),
    (62, Obj.row false 32 22 (RowC.lit 63 []))],
    [], [], 65⟩
  | _, _ => none
theorem newG_ok : FOk Try.prog 18 (tplS newG_tpl newG_out) := by
  refine tplS_ok (runG_ok known_pendG 18) fun ps ls r hr hn _ => ?_
  unfold newG_out at hr
  split at hr
  · cases hr; exact ⟨_, newG_runs, fun _ => rfl⟩
  · cases hr
noncomputable def K_newG : List (Nat × Summ) := (18, tplS newG_tpl newG_out) :: K_pendG
theorem known_newG : Known Try.prog (sums K_newG) L_same := known_cons known_pendG newG_ok
noncomputable def copyG_tpl : Tpl := ⟨[.one (.ptr 0 0)], [(0, .blk 66 [(2, .int .i64), (3, .int .i64), (4, .int .i64), (5, .int .i64), (6, .int .i64), (7, .int .i64), (8, .int .i64), (9, .int .i64), (10, .int .i64), (11, .int .i64), (12, .int .i64), (13, .int .i64), (14, .int .i64), (15, .bool), (16, .int .i64), (17, .bool), (18, .int .i64), (19, .int .i64), (20, .int .i64), (21, .int .i64), (22, .int .i64), (23, .bool), (24, .int .i64), (25, .int .i64), (26, .int .i64), (27, .int .i64), (28, .int .i64), (29, .int .i64), (30, .int .i64), (31, .int .i64), (32, .int .i64), (33, .int .i64), (34, .int .i64), (35, .int .i64), (36, .int .i64), (37, .bool), (38, .int .i64), (39, .bool), (40, .int .i64), (41, .int .i64), (42, .int .i64), (43, .int .i64), (44, .int .i64), (45, .bool), (46, .int .i64), (47, .int .i64), (48, .bool), (49, .wh 1), (50, .bool), (51, .bool), (52, .bool), (53, .bool), (54, .int .i64), (55, .int .i64), (56, .int .i64), (57, .nilsl), (58, .int .i64)]), (1, .row false 32 22 59 [.int .i64, .int .i64, .int .i64, .int .i64, .int .i64, .int .i64, .int .i64, .int .i64, .int .i64, .int .i64, .int .i64, .int .i64, .int .i64, .bool, .int .i64, .bool, .int .i64, .int .i64, .int .i64, .int .i64, .int .i64, .bool])], 60⟩
noncomputable def copyG_sp : List GK := [.v itemB, .v itemB, .i, .i, .b, .b, .b, .b, .b, .i, .i, .i, .i]
noncomputable def copyG_needs (C : List (List Int)) : List Prop :=
  [C.length ≤ 1000000]
set_option maxRecDepth 1000000 in
theorem copyG_runs (l y : List GC) (a0 a1 : Int) (tr op cl en mo : Bool) (la0 la1 la2 er : Int) (C : List (List Int)) (hNeeds : ∀ pN ∈ (copyG_needs C), pN) : Runs (runG (sums K_newG) L_same 23) (copyG_tpl.args (spread copyG_sp [.v l, .v y, .i a0, .i a1, .b tr, .b op, .b cl, .b en, .b mo, .i la0, .i la1, .i la2, .i er])) (copyG_tpl.memo (spread copyG_sp [.v l, .v y, .i a0, .i a1, .b tr, .b op, .b cl, .b en, .b mo, .i la0, .i la1, .i la2, .i er]) [C]) copyG_tpl.n (SV.one (SC.ptr 64 0))
    ([(64,
     Obj.blk 66
     [(123, SC.int IntKind.i64 (SI.v (xi l 0))), (124, SC.int IntKind.i64 (SI.v (xi l 1))), (125, SC.int IntKind.i64 (SI.v (xi l 2))), (126, SC.int IntKind.i64 (SI.v (xi l 3))),
     (127, SC.int IntKind.i64 (SI.v (xi l 4))), (128, SC.int IntKind.i64 (SI.v (xi l 5))), (129, SC.int IntKind.i64 (SI.v (xi l 6))), (130, SC.int IntKind.i64 (SI.v (xi l 7))),
     (131, SC.int IntKind.i64 (SI.v (xi l 8))), (132, SC.int IntKind.i64 (SI.v (xi l 9))), (133, SC.int IntKind.i64 (SI.v (xi l 10))), (134, SC.int IntKind.i64 (SI.v (xi l 11))),
     (135, SC.int IntKind.i64 (SI.v (xi l 12))), (136, SC.bool (SB.v (xb l 13))), (137, SC.int IntKind.i64 (SI.v (xi l 14))), (138, SC.bool (SB.v (xb l 15))),
     (139, SC.int IntKind.i64 (SI.v (xi l 16))), (140, SC.int IntKind.i64 (SI.v (xi l 17))), (141, SC.int IntKind.i64 (SI.v (xi l 18))), (142, SC.int IntKind.i64 (SI.v (xi l 19))),
     (143, SC.int IntKind.i64 (SI.v (xi l 20))), (144, SC.bool (SB.v (xb l 21))), (145, SC.int IntKind.i64 (SI.v (xi y 0))), (146, SC.int IntKind.i64 (SI.v (xi y 1))),
     (147, SC.int IntKind.i64 (SI.v (xi y 2))), (148, SC.int IntKind.i64 (SI.v (xi y 3))), (149, SC.int IntKind.i64 (SI.v (xi y 4))), (150, SC.int IntKind.i64 (SI.v (xi y 5))),
     (151, SC.int IntKind.i64 (SI.v (xi y 6))), (152, SC.int IntKind.i64 (SI.v (xi y 7))), (153, SC.int IntKind.i64 (SI.v (xi y 8))), (154, SC.int IntKind.i64 (SI.v (xi y 9))),
     (155, SC.int IntKind.i64 (SI.v (xi y 10))), (156, SC.int IntKind.i64 (SI.v (xi y 11))), (157, SC.int IntKind.i64 (SI.v (xi y 12))), (158, SC.bool (SB.v (xb y 13))),
     (159, SC.int IntKind.i64 (SI.v (xi y 14))), (160, SC.bool (SB.v (xb y 15))), (161, SC.int IntKind.i64 (SI.v (xi y 16))), (162, SC.int IntKind.i64 (SI.v (xi y 17))),
     (163, SC.int IntKind.i64 (SI.v (xi y 18))), (164, SC.int IntKind.i64 (SI.v (xi y 19))), (165, SC.int IntKind.i64 (SI.v (xi y 20))), (166, SC.bool (SB.v (xb y 21))),
     (167, SC.int IntKind.i64 (SI.v a0)), (168, SC.int IntKind.i64 (SI.v a1)), (169, SC.bool (SB.v tr)), (193, SC.wh 188), (171, SC.bool (SB.v op)), (172, SC.bool (SB.v cl)),
     (173, SC.bool (SB.v en)), (174, SC.bool (SB.v mo)), (175, SC.int IntKind.i64 (SI.v la0)), (176, SC.int IntKind.i64 (SI.v la1)), (177, SC.int IntKind.i64 (SI.v la2)), (178, SC.nilsl),
     (179, SC.int IntKind.i64 (SI.v er))]),
    (188,
     Obj.row false 32 22
     (RowC.lst 189
     [CK.int IntKind.i64, CK.int IntKind.i64, CK.int IntKind.i64, CK.int IntKind.i64, CK.int IntKind.i64, CK.int IntKind.i64, CK.int IntKind.i64, CK.int IntKind.i64, CK.int IntKind.i64,
     CK.int IntKind.i64, CK.int IntKind.i64, CK.int IntKind.i64, CK.int IntKind.i64, CK.bool, CK.int IntKind.i64, CK.bool, CK.int IntKind.i64, CK.int IntKind.i64, CK.int IntKind.i64,
     CK.int IntKind.i64, CK.int IntKind.i64, CK.bool]
     C)),
    (1,
     Obj.row false 32 22
     (RowC.lst 59
     [CK.int IntKind.i64, CK.int IntKind.i64, CK.int IntKind.i64, CK.int IntKind.i64, CK.int IntKind.i64, CK.int IntKind.i64, CK.int IntKind.i64, CK.int IntKind.i64, CK.int IntKind.i64,
     CK.int IntKind.i64, CK.int IntKind.i64, CK.int IntKind.i64, CK.int IntKind.i64, CK.bool, CK.int IntKind.i64, CK.bool, CK.int IntKind.i64, CK.int IntKind.i64, CK.int IntKind.i64,
     CK.int IntKind.i64, CK.int IntKind.i64, CK.bool]
     C)),
    (0,
     Obj.blk 66
     [(2, SC.int IntKind.i64 (SI.v (xi l 0))), (3, SC.int IntKind.i64 (SI.v (xi l 1))), (4, SC.int IntKind.i64 (SI.v (xi l 2))), (5, SC.int IntKind.i64 (SI.v (xi l 3))),
     (6, SC.int IntKind.i64 (SI.v (xi l 4))), (7, SC.int IntKind.i64 (SI.v (xi l 5))), (8, SC.int IntKind.i64 (SI.v (xi l 6))), (9, SC.int IntKind.i64 (SI.v (xi l 7))),
     (10, SC.int IntKind.i64 (SI.v (xi l 8))), (11, SC.int IntKind.i64 (SI.v (xi l 9))), (12, SC.int IntKind.i64 (SI.v (xi l 10))), (13, SC.int IntKind.i64 (SI.v (xi l 11))),
     (14, SC.int IntKind.i64 (SI.v (xi l 12))), (15, SC.bool (SB.v (xb l 13))), (16, SC.int IntKind.i64 (SI.v (xi l 14))), (17, SC.bool (SB.v (xb l 15))), (18, SC.int IntKind.i64 (SI.v (xi l 16))),
     (19, SC.int IntKind.i64 (SI.v (xi l 17))), (20, SC.int IntKind.i64 (SI.v (xi l 18))), (21, SC.int IntKind.i64 (SI.v (xi l 19))), (22, SC.int IntKind.i64 (SI.v (xi l 20))),
     (23, SC.bool (SB.v (xb l 21))), (24, SC.int IntKind.i64 (SI.v (xi y 0))), (25, SC.int IntKind.i64 (SI.v (xi y 1))), (26, SC.int IntKind.i64 (SI.v (xi y 2))),
     (27, SC.int IntKind.i64 (SI.v (xi y 3))), (28, SC.int IntKind.i64 (SI.v (xi y 4))), (29, SC.int IntKind.i64 (SI.v (xi y 5))), (30, SC.int IntKind.i64 (SI.v (xi y 6))),
     (31, SC.int IntKind.i64 (SI.v (xi y 7))), (32, SC.int IntKind.i64 (SI.v (xi y 8))), (33, SC.int IntKind.i64 (SI.v (xi y 9))), (34, SC.int IntKind.i64 (SI.v (xi y 10))),
     (35, SC.int IntKind.i64 (SI.v (xi y 11))), (36, SC.int IntKind.i64 (SI.v (xi y 12))), (37, SC.bool (SB.v (xb y 13))), (38, SC.int IntKind.i64 (SI.v (xi y 14))), (39, SC.bool (SB.v (xb y 15))),
     (40, SC.int IntKind.i64 (SI.v (xi y 16))), (41, SC.int IntKind.i64 (SI.v (xi y 17))), (42, SC.int IntKind.i64 (SI.v (xi y 18))), (43, SC.int IntKind.i64 (SI.v (xi y 19))),
     (44, SC.int IntKind.i64 (SI.v (xi y 20))), (45, SC.bool (SB.v (xb y 21))), (46, SC.int IntKind.i64 (SI.v a0)), (47, SC.int IntKind.i64 (SI.v a1)), (48, SC.bool (SB.v tr)), (49, SC.wh 1),
     (50, SC.bool (SB.v op)), (51, SC.bool (SB.v cl)), (52, SC.bool (SB.v en)), (53, SC.bool (SB.v mo)), (54, SC.int IntKind.i64 (SI.v la0)), (55, SC.int IntKind.i64 (SI.v la1)),
     (56, SC.int IntKind.i64 (SI.v la2)), (57, SC.nilsl), (58, SC.int IntKind.i64 (SI.v er))])]) :=
  Runs.of1 (ps := (copyG_needs C)) (by kernel_rfl) hNeeds
noncomputable def copyG_out : List Gm → Lss → Option CRes
  | [.v l, .v y, .i a0, .i a1, .b tr, .b op, .b cl, .b en, .b mo, .i la0, .i la1, .i la2, .i er], [C] => some ⟨SV.one (SC.ptr 64 0),
    [(64,
     Obj.blk 66
     [(123, SC.int IntKind.i64 (SI.v (xi l 0))), (124, SC.int IntKind.i64 (SI.v (xi l 1))), (125, SC.int IntKind.i64 (SI.v (xi l 2))), (126, SC.int IntKind.i64 (SI.v (xi l 3))),
     (127, SC.int IntKind.i64 (SI.v (xi l 4))), (128, SC.int IntKind.i64 (SI.v (xi l 5))), (129, SC.int IntKind.i64 (SI.v (xi l 6))), (130, SC.int IntKind.i64 (SI.v (xi l 7))),
     (131, SC.int IntKind.i64 (SI.v (xi l 8))), (132, SC.int IntKind.i64 (SI.v (xi l 9))), (133, SC.int IntKind.i64 (SI.v (xi l 10))), (134, SC.int IntKind.i64 (SI.v (xi l 11))),
     (135, SC.int IntKind.i64 (SI.v (xi l 12))), (136, SC.bool (SB.v (xb l 13))), (137, SC.int IntKind.i64 (SI.v (xi l 14))), (138, SC.bool (SB.v (xb l 15))),
     (139, SC.int IntKind.i64 (SI.v (xi l 16))), (140, SC.int IntKind.i64 (SI.v (xi l 17))), (141, SC.int IntKind.i64 (SI.v (xi l 18))), (142, SC.int IntKind.i64 (SI.v (xi l 19))),
     (143, SC.int IntKind.i64 (SI.v (xi l 20))), (144, SC.bool (SB.v (xb l 21))), (145, SC.int IntKind.i64 (SI.v (xi y 0))), (146, SC.int IntKind.i64 (SI.v (xi y 1))),
     (147, SC.int IntKind.i64 (SI.v (xi y 2))), (148, SC.int IntKind.i64 (SI.v (xi y 3))), (149, SC.int IntKind.i64 (SI.v (xi y 4))), (150, SC.int IntKind.i64 (SI.v (xi y 5))),
     (151, SC.int IntKind.i64 (SI.v (xi y 6))), (152, SC.int IntKind.i64 (SI.v (xi y 7))), (153, SC.int IntKind.i64 (SI.v (xi y 8))), (154, SC.int IntKind.i64 (SI.v (xi y 9))),
     (155, SC.int IntKind.i64 (SI.v (xi y 10))), (156, SC.int IntKind.i64 (SI.v (xi y 11))), (157, SC.int IntKind.i64 (SI.v (xi y 12))), (158, SC.bool (SB.v (xb y 13))),
     (159, SC.int IntKind.i64 (SI.v (xi y 14))), (160, SC.bool (SB.v (xb y 15))), (161, SC.int IntKind.i64 (SI.v (xi y 16))), (162, SC.int IntKind.i64 (SI.v (xi y 17))),
     (163, SC.int IntKind.i64 (SI.v (xi y 18))), (164, SC.int IntKind.i64 (SI.v (xi y 19))), (165, SC.int IntKind.i64 (SI.v (xi y 20))), (166, SC.bool (SB.v (xb y 21))),
     (167, SC.int IntKind.i64 (SI.v a0)), (168, SC.int IntKind.i64 (SI.v a1)), (169, SC.bool (SB.v tr)), (193, SC.wh 188), (171, SC.bool (SB.v op)), (172, SC.bool (SB.v cl)),
     (173, SC.bool (SB.v en)), (174, SC.bool (SB.v mo)), (175, SC.int IntKind.i64 (SI.v la0)), (176, SC.int IntKind.i64 (SI.v la1)), (177, SC.int IntKind.i64 (SI.v la2)), (178, SC.nilsl),
     (179, SC.int IntKind.i64 (SI.v er))]),
    (188,
     Obj.row false 32 22
     (RowC.lst 189
     [CK.int IntKind.i64, CK.int IntKind.i64, CK.int IntKind.i64, CK.int IntKind.i64, CK.int IntKind.i64, CK.int IntKind.i64, CK.int IntKind.i64, CK.int IntKind.i64, CK.int IntKind.i64,
     CK.int IntKind.i64, CK.int IntKind.i64, CK.int IntKind.i64, CK.int IntKind.i64, CK.bool, CK.int IntKind.i64, CK.bool, CK.int IntKind.i64, CK.int IntKind.i64, CK.int IntKind.i64,
     CK.int IntKind.i64, CK.int IntKind.i64, CK.bool]
     C)),
    (1,
     Obj.row false 32 22
     (RowC.lst 59
     [CK.int IntKind.i64, CK.int IntKind.i64, CK.int IntKind.i64, CK.int IntKind.i64, CK.int IntKind.i64, CK.int IntKind.i64, CK.int IntKind.i64, CK.int IntKind.i64, CK.int IntKind.i64,
     CK.int IntKind.i64, CK.int IntKind.i64, CK.int IntKind.i64, CK.int IntKind.i64, CK.bool, CK.int IntKind.i64, CK.bool, CK.int IntKind.i64, CK.int IntKind.i64, CK.int IntKind.i64,
     CK.int IntKind.i64, CK.int IntKind.i64, CK.bool]
     C)),
    (0,
     Obj.blk 66
     [(2, SC.int IntKind.i64 (SI.v (xi l 0))), (3, SC.int IntKind.i64 (SI.v (xi l 1))), (4, SC.int IntKind.i64 (SI.v (xi l 2))), (5, SC.int IntKind.i64 (SI.v (xi l 3))),
     (6, SC.int IntKind.i64 (SI.v (xi l 4))), (7, SC.int IntKind.i64 (SI.v (xi l 5))), (8, SC.int IntKind.i64 (SI.v (xi l 6))), (9, SC.int IntKind.i64 (SI.v (xi l 7))),
     (10, SC.int IntKind.i64 (SI.v (xi l 8))), (11, SC.int IntKind.i64 (SI.v (xi l 9))), (12, SC.int IntKind.i64 (SI.v (xi l 10))), (13, SC.int IntKind.i64 (SI.v (xi l 11))),
     (14, SC.int IntKind.i64 (SI.v (xi l 12))), (15, SC.bool (SB.v (xb l 13))), (16, SC.int IntKind.i64 (SI.v (xi l 14))), (17, SC.bool (SB.v (xb l 15))), (18, SC.int IntKind.i64 (SI.v (xi l 16))),
     (19, SC.int IntKind.i64 (SI.v (xi l 17))), (20, SC.int IntKind.i64 (SI.v (xi l 18))), (21, SC.int IntKind.i64 (SI.v (xi l 19))), (22, SC.int IntKind.i64 (SI.v (xi l 20))),
     (23, SC.bool (SB.v (xb l 21))), (24, SC.int IntKind.i64 (SI.v (xi y 0))), (25, SC.int IntKind.i64 (SI.v (xi y 1))), (26, SC.int IntKind.i64 (SI.v (xi y 2))),
     (27, SC.int IntKind.i64 (SI.v (xi y 3))), (28, SC.int IntKind.i64 (SI.v (xi y 4))), (29, SC.int IntKind.i64 (SI.v (xi y 5))), (30, SC.int IntKind.i64 (SI.v (xi y 6))),
     (31, SC.int IntKind.i64 (SI.v (xi y 7))), (32, SC.int IntKind.i64 (SI.v (xi y 8))), (33, SC.int IntKind.i64 (SI.v (xi y 9))), (34, SC.int IntKind.i64 (SI.v (xi y 10))),
     (35, SC.int IntKind.i64 (SI.v (xi y 11))), (36, SC.int IntKind.i64 (SI.v (xi y 12))), (37, SC.bool (SB.v (xb y 13))), (38, SC.int IntKind.i64 (SI.v (xi y 14))), (39, SC.bool (SB.v (xb y 15))),
     (40, SC.int IntKind.i64 (SI.v (xi y 16))), (41, SC.int IntKind.i64 (SI.v (xi y 17))), (42, SC.int IntKind.i64 (SI.v (xi y 18))), (43, SC.int IntKind.i64 (SI.v (xi y 19))),
     (44, SC.int IntKind.i64 (SI.v (xi y 20))), (45, SC.bool (SB.v (xb y 21))), (46, SC.int IntKind.i64 (SI.v a0)), (47, SC.int IntKind.i64 (SI.v a1)), (48, SC.bool (SB.v tr)), (49, SC.wh 1),
     (50, SC.bool (SB.v op)), (51, SC.bool (SB.v cl)), (52, SC.bool (SB.v en)), (53, SC.bool (SB.v mo)), (54, SC.int IntKind.i64 (SI.v la0)), (55, SC.int IntKind.i64 (SI.v la1)),
     (56, SC.int IntKind.i64 (SI.v la2)), (57, SC.nilsl), (58, SC.int IntKind.i64 (SI.v er))])],
    (copyG_needs C), [], 196⟩
  | _, _ => none
theorem copyG_ok : FOk Try.prog 23 (tplG copyG_sp copyG_tpl copyG_out) := by
  refine tplG_ok (runG_ok known_newG 23) fun ps ls r hr hn _ => ?_
  unfold copyG_out at hr
  split at hr
  · cases hr; exact ⟨_, copyG_runs _ _ _ _ _ _ _ _ _ _ _ _ _ _ hn, fun _ => rfl⟩
  · cases hr
noncomputable def K_copyG : List (Nat × Summ) := (23, tplG copyG_sp copyG_tpl copyG_out) :: K_newG
theorem known_copyG : Known Try.prog (sums K_copyG) L_same := known_cons known_newG copyG_ok
end Go.Proofs.Ytmbfbhimdkjkoaa
namespace Go.Proofs.Ytmbfbhimdkjkoaa
open Go.SX Go.RowKit
/-- A filter is given the items from one on, so many. -/
noncomputable def frN (X : List (List Int)) : Nat → AS → AS
  | 0, a => a
  | k + 1, a => frN X k ⟨a.i + 1, pushS (ofRow (X.getD a.i [])) a.s, []⟩
noncomputable def fiG (k : Nat) : Nat := 1000000100 + k
noncomputable def fiH (k : Nat) : Nat := 3330 + k
noncomputable def fiF (X : List (List Int)) (k : Int) : Fam AS AS where
  k := 200
  E a := [(8, ent 1000000000 (.one (I (Int.ofNat a.i)))), (7, ent 2298 (.one (.ptr 2231 0))), (6, ent 2228 (.one (I k))), (5, ent 2209 (.one (.wh 2203)))]
  M a := [(2231, .blk 66 (stCells fiG a.s 3400 3401)), rowI 3400 1000000200 a.s.C, rowI 3401 1000000201 [], rowI 2203 2205 X]
  out t := .leaf (.exit 0) [(7, ent 2298 (.one (.ptr 2231 0))), (6, ent 2228 (.one (I k))), (5, ent 2209 (.one (.wh 2203)))] [(2231, .blk 66 (stCells fiH t.s 3400 3401)), rowI 3400 3402 t.s.C, rowI 3401 3403 [], rowI 2203 2205 X]
  fin a := frN X (k.toNat - a.i) a
  next a _ := ⟨a.i + 1, pushS (ofRow (X.getD a.i [])) a.s, []⟩
  J a := 0 ≤ k ∧ a.i ≤ k.toNat ∧ k.toNat ≤ X.length ∧ X.length ≤ 1000 ∧ a.s.C.length ≤ 8
  μ a := k.toNat - a.i
noncomputable def fi_needs (X : List (List Int)) (k : Int) (a : AS) : List Prop := [decide (Int.ofNat a.i < k) = true → 0 ≤ Int.ofNat a.i ∧ (Int.ofNat a.i).toNat < X.length ∧ (Int.ofNat a.i).toNat < X.length ∧ a.s.C.length ≤ 1000 ∧ 0 ≤ 800000, decide (Int.ofNat a.i < k) = true →
   (0 ≤ k ∧ ((fiF X k).next a 0).i ≤ k.toNat ∧ k.toNat ≤ X.length ∧ X.length ≤ 1000 ∧ ((fiF X k).next a 0).s.C.length ≤ 8) ∧ (fiF X k).μ ((fiF X k).next a 0) < (fiF X k).μ a ∧ (fiF X k).fin ((fiF X
   k).next a 0) = (fiF X k).fin a ∧ Int.ofNat ((fiF X k).next a 0).i = IntKind.i64.wrap (Int.ofNat a.i + 1) ∧ xi ((fiF X k).next a 0).s.l 0 = push_2 (ofRow (X.getD (Int.ofNat a.i).toNat [])) (nrm a.s.l)
   (nrm a.s.y) a.s.a0 a.s.a1 a.s.tr a.s.op a.s.cl a.s.en a.s.mo a.s.la0 a.s.la1 a.s.la2 a.s.er ∧ xi ((fiF X k).next a 0).s.l 1 = push_3 (ofRow (X.getD (Int.ofNat a.i).toNat [])) (nrm a.s.l) (nrm a.s.y)
   a.s.a0 a.s.a1 a.s.tr a.s.op a.s.cl a.s.en a.s.mo a.s.la0 a.s.la1 a.s.la2 a.s.er ∧ xi ((fiF X k).next a 0).s.l 2 = push_4 (ofRow (X.getD (Int.ofNat a.i).toNat [])) (nrm a.s.l) (nrm a.s.y) a.s.a0
   a.s.a1 a.s.tr a.s.op a.s.cl a.s.en a.s.mo a.s.la0 a.s.la1 a.s.la2 a.s.er ∧ xi ((fiF X k).next a 0).s.l 3 = push_5 (ofRow (X.getD (Int.ofNat a.i).toNat [])) (nrm a.s.l) (nrm a.s.y) a.s.a0 a.s.a1
   a.s.tr a.s.op a.s.cl a.s.en a.s.mo a.s.la0 a.s.la1 a.s.la2 a.s.er ∧ xi ((fiF X k).next a 0).s.l 4 = push_6 (ofRow (X.getD (Int.ofNat a.i).toNat [])) (nrm a.s.l) (nrm a.s.y) a.s.a0 a.s.a1 a.s.tr
   a.s.op a.s.cl a.s.en a.s.mo a.s.la0 a.s.la1 a.s.la2 a.s.er ∧ xi ((fiF X k).next a 0).s.l 5 = push_7 (ofRow (X.getD (Int.ofNat a.i).toNat [])) (nrm a.s.l) (nrm a.s.y) a.s.a0 a.s.a1 a.s.tr a.s.op
   a.s.cl a.s.en a.s.mo a.s.la0 a.s.la1 a.s.la2 a.s.er ∧ xi ((fiF X k).next a 0).s.l 6 = push_8 (ofRow (X.getD (Int.ofNat a.i).toNat [])) (nrm a.s.l) (nrm a.s.y) a.s.a0 a.s.a1 a.s.tr a.s.op a.s.cl
   a.s.en a.s.mo a.s.la0 a.s.la1 a.s.la2 a.s.er ∧ xi ((fiF X k).next a 0).s.l 7 = push_9 (ofRow (X.getD (Int.ofNat a.i).toNat [])) (nrm a.s.l) (nrm a.s.y) a.s.a0 a.s.a1 a.s.tr a.s.op a.s.cl a.s.en
   a.s.mo a.s.la0 a.s.la1 a.s.la2 a.s.er ∧ xi ((fiF X k).next a 0).s.l 8 = push_10 (ofRow (X.getD (Int.ofNat a.i).toNat [])) (nrm a.s.l) (nrm a.s.y) a.s.a0 a.s.a1 a.s.tr a.s.op a.s.cl a.s.en a.s.mo
   a.s.la0 a.s.la1 a.s.la2 a.s.er ∧ xi ((fiF X k).next a 0).s.l 9 = push_11 (ofRow (X.getD (Int.ofNat a.i).toNat [])) (nrm a.s.l) (nrm a.s.y) a.s.a0 a.s.a1 a.s.tr a.s.op a.s.cl a.s.en a.s.mo a.s.la0
   a.s.la1 a.s.la2 a.s.er ∧ xi ((fiF X k).next a 0).s.l 10 = push_12 (ofRow (X.getD (Int.ofNat a.i).toNat [])) (nrm a.s.l) (nrm a.s.y) a.s.a0 a.s.a1 a.s.tr a.s.op a.s.cl a.s.en a.s.mo a.s.la0 a.s.la1
   a.s.la2 a.s.er ∧ xi ((fiF X k).next a 0).s.l 11 = push_13 (ofRow (X.getD (Int.ofNat a.i).toNat [])) (nrm a.s.l) (nrm a.s.y) a.s.a0 a.s.a1 a.s.tr a.s.op a.s.cl a.s.en a.s.mo a.s.la0 a.s.la1 a.s.la2
   a.s.er ∧ xi ((fiF X k).next a 0).s.l 12 = push_14 (ofRow (X.getD (Int.ofNat a.i).toNat [])) (nrm a.s.l) (nrm a.s.y) a.s.a0 a.s.a1 a.s.tr a.s.op a.s.cl a.s.en a.s.mo a.s.la0 a.s.la1 a.s.la2 a.s.er ∧
   xb ((fiF X k).next a 0).s.l 13 = push_15 (ofRow (X.getD (Int.ofNat a.i).toNat [])) (nrm a.s.l) (nrm a.s.y) a.s.a0 a.s.a1 a.s.tr a.s.op a.s.cl a.s.en a.s.mo a.s.la0 a.s.la1 a.s.la2 a.s.er ∧ xi ((fiF X
   k).next a 0).s.l 14 = push_16 (ofRow (X.getD (Int.ofNat a.i).toNat [])) (nrm a.s.l) (nrm a.s.y) a.s.a0 a.s.a1 a.s.tr a.s.op a.s.cl a.s.en a.s.mo a.s.la0 a.s.la1 a.s.la2 a.s.er ∧ xb ((fiF X k).next a
   0).s.l 15 = push_17 (ofRow (X.getD (Int.ofNat a.i).toNat [])) (nrm a.s.l) (nrm a.s.y) a.s.a0 a.s.a1 a.s.tr a.s.op a.s.cl a.s.en a.s.mo a.s.la0 a.s.la1 a.s.la2 a.s.er ∧ xi ((fiF X k).next a 0).s.l 16
   = push_18 (ofRow (X.getD (Int.ofNat a.i).toNat [])) (nrm a.s.l) (nrm a.s.y) a.s.a0 a.s.a1 a.s.tr a.s.op a.s.cl a.s.en a.s.mo a.s.la0 a.s.la1 a.s.la2 a.s.er ∧ xi ((fiF X k).next a 0).s.l 17 = push_19
   (ofRow (X.getD (Int.ofNat a.i).toNat [])) (nrm a.s.l) (nrm a.s.y) a.s.a0 a.s.a1 a.s.tr a.s.op a.s.cl a.s.en a.s.mo a.s.la0 a.s.la1 a.s.la2 a.s.er ∧ xi ((fiF X k).next a 0).s.l 18 = push_20 (ofRow
   (X.getD (Int.ofNat a.i).toNat [])) (nrm a.s.l) (nrm a.s.y) a.s.a0 a.s.a1 a.s.tr a.s.op a.s.cl a.s.en a.s.mo a.s.la0 a.s.la1 a.s.la2 a.s.er ∧ xi ((fiF X k).next a 0).s.l 19 = push_21 (ofRow (X.getD
   (Int.ofNat a.i).toNat [])) (nrm a.s.l) (nrm a.s.y) a.s.a0 a.s.a1 a.s.tr a.s.op a.s.cl a.s.en a.s.mo a.s.la0 a.s.la1 a.s.la2 a.s.er ∧ xi ((fiF X k).next a 0).s.l 20 = push_22 (ofRow (X.getD (Int.ofNat
   a.i).toNat [])) (nrm a.s.l) (nrm a.s.y) a.s.a0 a.s.a1 a.s.tr a.s.op a.s.cl a.s.en a.s.mo a.s.la0 a.s.la1 a.s.la2 a.s.er ∧ xb ((fiF X k).next a 0).s.l 21 = push_23 (ofRow (X.getD (Int.ofNat a.i).toNat
   [])) (nrm a.s.l) (nrm a.s.y) a.s.a0 a.s.a1 a.s.tr a.s.op a.s.cl a.s.en a.s.mo a.s.la0 a.s.la1 a.s.la2 a.s.er ∧ xi ((fiF X k).next a 0).s.y 0 = push_24 (ofRow (X.getD (Int.ofNat a.i).toNat [])) (nrm
   a.s.l) (nrm a.s.y) a.s.a0 a.s.a1 a.s.tr a.s.op a.s.cl a.s.en a.s.mo a.s.la0 a.s.la1 a.s.la2 a.s.er ∧ xi ((fiF X k).next a 0).s.y 1 = push_25 (ofRow (X.getD (Int.ofNat a.i).toNat [])) (nrm a.s.l) (nrm
   a.s.y) a.s.a0 a.s.a1 a.s.tr a.s.op a.s.cl a.s.en a.s.mo a.s.la0 a.s.la1 a.s.la2 a.s.er ∧ xi ((fiF X k).next a 0).s.y 2 = push_26 (ofRow (X.getD (Int.ofNat a.i).toNat [])) (nrm a.s.l) (nrm a.s.y)
   a.s.a0 a.s.a1 a.s.tr a.s.op a.s.cl a.s.en a.s.mo a.s.la0 a.s.la1 a.s.la2 a.s.er ∧ xi ((fiF X k).next a 0).s.y 3 = push_27 (ofRow (X.getD (Int.ofNat a.i).toNat [])) (nrm a.s.l) (nrm a.s.y) a.s.a0
   a.s.a1 a.s.tr a.s.op a.s.cl a.s.en a.s.mo a.s.la0 a.s.la1 a.s.la2 a.s.er ∧ xi ((fiF X k).next a 0).s.y 4 = push_28 (ofRow (X.getD (Int.ofNat a.i).toNat [])) (nrm a.s.l) (nrm a.s.y) a.s.a0 a.s.a1
   a.s.tr a.s.op a.s.cl a.s.en a.s.mo a.s.la0 a.s.la1 a.s.la2 a.s.er ∧ xi ((fiF X k).next a 0).s.y 5 = push_29 (ofRow (X.getD (Int.ofNat a.i).toNat [])) (nrm a.s.l) (nrm a.s.y) a.s.a0 a.s.a1 a.s.tr
   a.s.op a.s.cl a.s.en a.s.mo a.s.la0 a.s.la1 a.s.la2 a.s.er ∧ xi ((fiF X k).next a 0).s.y 6 = push_30 (ofRow (X.getD (Int.ofNat a.i).toNat [])) (nrm a.s.l) (nrm a.s.y) a.s.a0 a.s.a1 a.s.tr a.s.op
   a.s.cl a.s.en a.s.mo a.s.la0 a.s.la1 a.s.la2 a.s.er ∧ xi ((fiF X k).next a 0).s.y 7 = push_31 (ofRow (X.getD (Int.ofNat a.i).toNat [])) (nrm a.s.l) (nrm a.s.y) a.s.a0 a.s.a1 a.s.tr a.s.op a.s.cl
   a.s.en a.s.mo a.s.la0 a.s.la1 a.s.la2 a.s.er ∧ xi ((fiF X k).next a 0).s.y 8 = push_32 (ofRow (X.getD (Int.ofNat a.i).toNat [])) (nrm a.s.l) (nrm a.s.y) a.s.a0 a.s.a1 a.s.tr a.s.op a.s.cl a.s.en
   a.s.mo a.s.la0 a.s.la1 a.s.la2 a.s.er ∧ xi ((fiF X k).next a 0).s.y 9 = push_33 (ofRow (X.getD (Int.ofNat a.i).toNat [])) (nrm a.s.l) (nrm a.s.y) a.s.a0 a.s.a1 a.s.tr a.s.op a.s.cl a.s.en a.s.mo
   a.s.la0 a.s.la1 a.s.la2 a.s.er ∧ xi ((fiF X k).next a 0).s.y 10 = push_34 (ofRow (X.getD (Int.ofNat a.i).toNat [])) (nrm a.s.l) (nrm a.s.y) a.s.a0 a.s.a1 a.s.tr a.s.op a.s.cl a.s.en a.s.mo a.s.la0
   a.s.la1 a.s.la2 a.s.er ∧ xi ((fiF X k).next a 0).s.y 11 = push_35 (ofRow (X.getD (Int.ofNat a.i).toNat [])) (nrm a.s.l) (nrm a.s.y) a.s.a0 a.s.a1 a.s.tr a.s.op a.s.cl a.s.en a.s.mo a.s.la0 a.s.la1
   a.s.la2 a.s.er ∧ xi ((fiF X k).next a 0).s.y 12 = push_36 (ofRow (X.getD (Int.ofNat a.i).toNat [])) (nrm a.s.l) (nrm a.s.y) a.s.a0 a.s.a1 a.s.tr a.s.op a.s.cl a.s.en a.s.mo a.s.la0 a.s.la1 a.s.la2
   a.s.er ∧ xb ((fiF X k).next a 0).s.y 13 = push_37 (ofRow (X.getD (Int.ofNat a.i).toNat [])) (nrm a.s.l) (nrm a.s.y) a.s.a0 a.s.a1 a.s.tr a.s.op a.s.cl a.s.en a.s.mo a.s.la0 a.s.la1 a.s.la2 a.s.er ∧
   xi ((fiF X k).next a 0).s.y 14 = push_38 (ofRow (X.getD (Int.ofNat a.i).toNat [])) (nrm a.s.l) (nrm a.s.y) a.s.a0 a.s.a1 a.s.tr a.s.op a.s.cl a.s.en a.s.mo a.s.la0 a.s.la1 a.s.la2 a.s.er ∧ xb ((fiF X
   k).next a 0).s.y 15 = push_39 (ofRow (X.getD (Int.ofNat a.i).toNat [])) (nrm a.s.l) (nrm a.s.y) a.s.a0 a.s.a1 a.s.tr a.s.op a.s.cl a.s.en a.s.mo a.s.la0 a.s.la1 a.s.la2 a.s.er ∧ xi ((fiF X k).next a
   0).s.y 16 = push_40 (ofRow (X.getD (Int.ofNat a.i).toNat [])) (nrm a.s.l) (nrm a.s.y) a.s.a0 a.s.a1 a.s.tr a.s.op a.s.cl a.s.en a.s.mo a.s.la0 a.s.la1 a.s.la2 a.s.er ∧ xi ((fiF X k).next a 0).s.y 17
   = push_41 (ofRow (X.getD (Int.ofNat a.i).toNat [])) (nrm a.s.l) (nrm a.s.y) a.s.a0 a.s.a1 a.s.tr a.s.op a.s.cl a.s.en a.s.mo a.s.la0 a.s.la1 a.s.la2 a.s.er ∧ xi ((fiF X k).next a 0).s.y 18 = push_42
   (ofRow (X.getD (Int.ofNat a.i).toNat [])) (nrm a.s.l) (nrm a.s.y) a.s.a0 a.s.a1 a.s.tr a.s.op a.s.cl a.s.en a.s.mo a.s.la0 a.s.la1 a.s.la2 a.s.er ∧ xi ((fiF X k).next a 0).s.y 19 = push_43 (ofRow
   (X.getD (Int.ofNat a.i).toNat [])) (nrm a.s.l) (nrm a.s.y) a.s.a0 a.s.a1 a.s.tr a.s.op a.s.cl a.s.en a.s.mo a.s.la0 a.s.la1 a.s.la2 a.s.er ∧ xi ((fiF X k).next a 0).s.y 20 = push_44 (ofRow (X.getD
   (Int.ofNat a.i).toNat [])) (nrm a.s.l) (nrm a.s.y) a.s.a0 a.s.a1 a.s.tr a.s.op a.s.cl a.s.en a.s.mo a.s.la0 a.s.la1 a.s.la2 a.s.er ∧ xb ((fiF X k).next a 0).s.y 21 = push_45 (ofRow (X.getD (Int.ofNat
   a.i).toNat [])) (nrm a.s.l) (nrm a.s.y) a.s.a0 a.s.a1 a.s.tr a.s.op a.s.cl a.s.en a.s.mo a.s.la0 a.s.la1 a.s.la2 a.s.er ∧ ((fiF X k).next a 0).s.a0 = push_46 (ofRow (X.getD (Int.ofNat a.i).toNat []))
   (nrm a.s.l) (nrm a.s.y) a.s.a0 a.s.a1 a.s.tr a.s.op a.s.cl a.s.en a.s.mo a.s.la0 a.s.la1 a.s.la2 a.s.er ∧ ((fiF X k).next a 0).s.a1 = push_47 (ofRow (X.getD (Int.ofNat a.i).toNat [])) (nrm a.s.l)
   (nrm a.s.y) a.s.a0 a.s.a1 a.s.tr a.s.op a.s.cl a.s.en a.s.mo a.s.la0 a.s.la1 a.s.la2 a.s.er ∧ ((fiF X k).next a 0).s.tr = push_48 (ofRow (X.getD (Int.ofNat a.i).toNat [])) (nrm a.s.l) (nrm a.s.y)
   a.s.a0 a.s.a1 a.s.tr a.s.op a.s.cl a.s.en a.s.mo a.s.la0 a.s.la1 a.s.la2 a.s.er ∧ ((fiF X k).next a 0).s.op = push_49 (ofRow (X.getD (Int.ofNat a.i).toNat [])) (nrm a.s.l) (nrm a.s.y) a.s.a0 a.s.a1
   a.s.tr a.s.op a.s.cl a.s.en a.s.mo a.s.la0 a.s.la1 a.s.la2 a.s.er ∧ ((fiF X k).next a 0).s.cl = a.s.cl ∧ ((fiF X k).next a 0).s.en = push_50 (ofRow (X.getD (Int.ofNat a.i).toNat [])) a.s.cl a.s.en
   a.s.mo a.s.la0 a.s.la1 a.s.la2 a.s.er ∧ ((fiF X k).next a 0).s.mo = push_51 (ofRow (X.getD (Int.ofNat a.i).toNat [])) a.s.cl a.s.en a.s.mo a.s.la0 a.s.la1 a.s.la2 a.s.er ∧ ((fiF X k).next a 0).s.la0
   = push_52 (ofRow (X.getD (Int.ofNat a.i).toNat [])) a.s.cl a.s.en a.s.mo a.s.la0 a.s.la1 a.s.la2 a.s.er ∧ ((fiF X k).next a 0).s.la1 = push_53 (ofRow (X.getD (Int.ofNat a.i).toNat [])) a.s.cl a.s.en
   a.s.mo a.s.la0 a.s.la1 a.s.la2 a.s.er ∧ ((fiF X k).next a 0).s.la2 = push_54 (ofRow (X.getD (Int.ofNat a.i).toNat [])) a.s.cl a.s.en a.s.mo a.s.la0 a.s.la1 a.s.la2 a.s.er ∧ ((fiF X k).next a 0).s.er
   = push_55 (ofRow (X.getD (Int.ofNat a.i).toNat [])) (nrm a.s.l) (nrm a.s.y) a.s.a0 a.s.a1 a.s.tr a.s.op a.s.cl a.s.en a.s.mo a.s.la0 a.s.la1 a.s.la2 a.s.er a.s.C ∧ ((fiF X k).next a 0).s.C = push_56
   (ofRow (X.getD (Int.ofNat a.i).toNat [])) (nrm a.s.l) (nrm a.s.y) a.s.a0 a.s.a1 a.s.tr a.s.op a.s.cl a.s.en a.s.mo a.s.la0 a.s.la1 a.s.la2 a.s.er a.s.C ∧ ([] : List (List Int)) = [], decide
   (Int.ofNat a.i < k) = false → xi ((fiF X k).fin a).s.l 0 = xi a.s.l 0 ∧ xi ((fiF X k).fin a).s.l 1 = xi a.s.l 1 ∧ xi ((fiF X k).fin a).s.l 2 = xi a.s.l 2 ∧ xi ((fiF X k).fin a).s.l 3 = xi a.s.l 3 ∧
   xi ((fiF X k).fin a).s.l 4 = xi a.s.l 4 ∧ xi ((fiF X k).fin a).s.l 5 = xi a.s.l 5 ∧ xi ((fiF X k).fin a).s.l 6 = xi a.s.l 6 ∧ xi ((fiF X k).fin a).s.l 7 = xi a.s.l 7 ∧ xi ((fiF X k).fin a).s.l 8 = xi
   a.s.l 8 ∧ xi ((fiF X k).fin a).s.l 9 = xi a.s.l 9 ∧ xi ((fiF X k).fin a).s.l 10 = xi a.s.l 10 ∧ xi ((fiF X k).fin a).s.l 11 = xi a.s.l 11 ∧ xi ((fiF X k).fin a).s.l 12 = xi a.s.l 12 ∧ xb ((fiF X
   k).fin a).s.l 13 = xb a.s.l 13 ∧ xi ((fiF X k).fin a).s.l 14 = xi a.s.l 14 ∧ xb ((fiF X k).fin a).s.l 15 = xb a.s.l 15 ∧ xi ((fiF X k).fin a).s.l 16 = xi a.s.l 16 ∧ xi ((fiF X k).fin a).s.l 17 = xi
   a.s.l 17 ∧ xi ((fiF X k).fin a).s.l 18 = xi a.s.l 18 ∧ xi ((fiF X k).fin a).s.l 19 = xi a.s.l 19 ∧ xi ((fiF X k).fin a).s.l 20 = xi a.s.l 20 ∧ xb ((fiF X k).fin a).s.l 21 = xb a.s.l 21 ∧ xi ((fiF X
   k).fin a).s.y 0 = xi a.s.y 0 ∧ xi ((fiF X k).fin a).s.y 1 = xi a.s.y 1 ∧ xi ((fiF X k).fin a).s.y 2 = xi a.s.y 2 ∧ xi ((fiF X k).fin a).s.y 3 = xi a.s.y 3 ∧ xi ((fiF X k).fin a).s.y 4 = xi a.s.y 4 ∧
   xi ((fiF X k).fin a).s.y 5 = xi a.s.y 5 ∧ xi ((fiF X k).fin a).s.y 6 = xi a.s.y 6 ∧ xi ((fiF X k).fin a).s.y 7 = xi a.s.y 7 ∧ xi ((fiF X k).fin a).s.y 8 = xi a.s.y 8 ∧ xi ((fiF X k).fin a).s.y 9 = xi
   a.s.y 9 ∧ xi ((fiF X k).fin a).s.y 10 = xi a.s.y 10 ∧ xi ((fiF X k).fin a).s.y 11 = xi a.s.y 11 ∧ xi ((fiF X k).fin a).s.y 12 = xi a.s.y 12 ∧ xb ((fiF X k).fin a).s.y 13 = xb a.s.y 13 ∧ xi ((fiF X
   k).fin a).s.y 14 = xi a.s.y 14 ∧ xb ((fiF X k).fin a).s.y 15 = xb a.s.y 15 ∧ xi ((fiF X k).fin a).s.y 16 = xi a.s.y 16 ∧ xi ((fiF X k).fin a).s.y 17 = xi a.s.y 17 ∧ xi ((fiF X k).fin a).s.y 18 = xi
   a.s.y 18 ∧ xi ((fiF X k).fin a).s.y 19 = xi a.s.y 19 ∧ xi ((fiF X k).fin a).s.y 20 = xi a.s.y 20 ∧ xb ((fiF X k).fin a).s.y 21 = xb a.s.y 21 ∧ ((fiF X k).fin a).s.a0 = a.s.a0 ∧ ((fiF X k).fin a).s.a1
   = a.s.a1 ∧ ((fiF X k).fin a).s.tr = a.s.tr ∧ ((fiF X k).fin a).s.op = a.s.op ∧ ((fiF X k).fin a).s.cl = a.s.cl ∧ ((fiF X k).fin a).s.en = a.s.en ∧ ((fiF X k).fin a).s.mo = a.s.mo ∧ ((fiF X k).fin
   a).s.la0 = a.s.la0 ∧ ((fiF X k).fin a).s.la1 = a.s.la1 ∧ ((fiF X k).fin a).s.la2 = a.s.la2 ∧ ((fiF X k).fin a).s.er = a.s.er ∧ ((fiF X k).fin a).s.C = a.s.C ∧ ([] : List (List Int)) = []]
theorem frN_step {X : List (List Int)} {n : Nat} {a : AS} (h : a.i < n) : frN X (n - a.i) a = frN X (n - (a.i + 1)) ⟨a.i + 1, pushS (ofRow (X.getD a.i [])) a.s, []⟩ := by
  have e : n - a.i = (n - (a.i + 1)) + 1 := by omega
  rw [e]; rfl
noncomputable def fiLp : LoopS := fun env mem m => match SX.look env 6, SX.look mem 2203 with
  | some ⟨_, _, _, .one (.int _ k)⟩, some (.row _ _ _ (.lst _ _ X)) => famS (fiF X k.val) 3325 (fun _ _ => some ⟨0, St0, []⟩) env mem m
  | _, _ => none
noncomputable def L_fi : FuncId → Nat → Option LoopS := addL L_ap 6 9 fiLp
end Go.Proofs.Ytmbfbhimdkjkoaa
namespace Go.Proofs.Ytmbfbhimdkjkoaa
open Go.SX Go.RowKit
noncomputable def ncells (g : Nat → Nat) (l y : List GC) (a0 a1 : Int) (tr : Bool) (c : Nat) (op cl en mo : Bool) (la0 la1 la2 : Int) (er : Int) : List (Nat × SC) :=
  [(g 0, I (xi l 0)), (g 1, I (xi l 1)), (g 2, I (xi l 2)), (g 3, I (xi l 3)), (g 4, I (xi l 4)), (g 5, I (xi l 5)), (g 6, I (xi l 6)), (g 7, I (xi l 7)), (g 8, I (xi l 8)), (g 9, I (xi l 9)), (g 10, I (xi l 10)), (g 11, I (xi l 11)), (g 12, I (xi l 12)), (g 13, B (xb l 13)), (g 14, I (xi l 14)), (g 15, B (xb l 15)), (g 16, I (xi l 16)), (g 17, I (xi l 17)), (g 18, I (xi l 18)), (g 19, I (xi l 19)), (g 20, I (xi l 20)), (g 21, B (xb l 21)), (g 22, I (xi y 0)), (g 23, I (xi y 1)), (g 24, I (xi y 2)), (g 25, I (xi y 3)), (g 26, I (xi y 4)), (g 27, I (xi y 5)), (g 28, I (xi y 6)), (g 29, I (xi y 7)), (g 30, I (xi y 8)), (g 31, I (xi y 9)), (g 32, I (xi y 10)), (g 33, I (xi y 11)), (g 34, I (xi y 12)), (g 35, B (xb y 13)), (g 36, I (xi y 14)), (g 37, B (xb y 15)), (g 38, I (xi y 16)), (g 39, I (xi y 17)), (g 40, I (xi y 18)), (g 41, I (xi y 19)), (g 42, I (xi y 20)), (g 43, B (xb y 21)), (g 44, I a0), (g 45, I a1), (g 46, B tr), (g 47, .wh c), (g 48, B op), (g 49, B cl), (g 50, B en), (g 51, B mo), (g 52, I la0), (g 53, I la1), (g 54, I la2), (g 55, .nilsl), (g 56, I er)]
noncomputable def nCells (g : Nat → Nat) (s : St) (c : Nat) : List (Nat × SC) := ncells g s.l s.y s.a0 s.a1 s.tr c s.op s.cl s.en s.mo s.la0 s.la1 s.la2 s.er
noncomputable def caG (k : Nat) : Nat := 1000000100 + k
noncomputable def caH (k : Nat) : Nat := 3330 + k
noncomputable def caF (X : List (List Int)) (k : Int) : Fam AS AS where
  k := 200
  E a := [(8, ent 1000000000 (.one (I (Int.ofNat a.i)))), (7, ent 2296 (.one (.ptr 2232 0))), (6, ent 2229 (.one (I k))), (5, ent 2209 (.one (.wh 2203)))]
  M a := [(2232, .blk 66 (nCells caG a.s 3400)), rowI 3400 1000000200 a.s.C, rowI 2203 2205 X]
  out t := .leaf (.exit 0) [(7, ent 2296 (.one (.ptr 2232 0))), (6, ent 2229 (.one (I k))), (5, ent 2209 (.one (.wh 2203)))] [(2232, .blk 66 (nCells caH t.s 3400)), rowI 3400 3402 t.s.C, rowI 2203 2205 X]
  fin a := frN X (k.toNat - a.i) a
  next a _ := ⟨a.i + 1, pushS (ofRow (X.getD a.i [])) a.s, []⟩
  J a := 0 ≤ k ∧ a.i ≤ k.toNat ∧ k.toNat ≤ X.length ∧ X.length ≤ 1000 ∧ a.s.C.length ≤ 8
  μ a := k.toNat - a.i
noncomputable def ca_needs (X : List (List Int)) (k : Int) (a : AS) : List Prop :=
  [decide (Int.ofNat a.i < k) = true → 0 ≤ Int.ofNat a.i ∧ (Int.ofNat a.i).toNat < X.length ∧ (Int.ofNat a.i).toNat < X.length ∧ a.s.C.length ≤ 1000,
    decide (Int.ofNat a.i < k) = true →
     (0 ≤ k ∧ ((caF X k).next a 0).i ≤ k.toNat ∧ k.toNat ≤ X.length ∧ X.length ≤ 1000 ∧ ((caF X k).next a 0).s.C.length ≤ 8) ∧
     (caF X k).μ ((caF X k).next a 0) < (caF X k).μ a ∧
     (caF X k).fin ((caF X k).next a 0) = (caF X k).fin a ∧
     Int.ofNat ((caF X k).next a 0).i = IntKind.i64.wrap (Int.ofNat a.i + 1) ∧
     xi ((caF X k).next a 0).s.l 0 = pushG_2 (ofRow (X.getD (Int.ofNat a.i).toNat [])) (nrm a.s.l) (nrm a.s.y) a.s.a0 a.s.a1 a.s.tr a.s.op a.s.cl a.s.en a.s.mo a.s.la0 a.s.la1 a.s.la2 a.s.er ∧
     xi ((caF X k).next a 0).s.l 1 =
     pushG_3 (ofRow (X.getD (Int.ofNat a.i).toNat [])) (nrm a.s.l) (nrm a.s.y) a.s.a0 a.s.a1 a.s.tr a.s.op a.s.cl a.s.en a.s.mo a.s.la0 a.s.la1 a.s.la2 a.s.er ∧
     xi ((caF X k).next a 0).s.l 2 =
     pushG_4 (ofRow (X.getD (Int.ofNat a.i).toNat [])) (nrm a.s.l) (nrm a.s.y) a.s.a0 a.s.a1 a.s.tr a.s.op a.s.cl a.s.en a.s.mo a.s.la0 a.s.la1 a.s.la2 a.s.er ∧
     xi ((caF X k).next a 0).s.l 3 =
     pushG_5 (ofRow (X.getD (Int.ofNat a.i).toNat [])) (nrm a.s.l) (nrm a.s.y) a.s.a0 a.s.a1 a.s.tr a.s.op a.s.cl a.s.en a.s.mo a.s.la0 a.s.la1 a.s.la2 a.s.er ∧
     xi ((caF X k).next a 0).s.l 4 =
     pushG_6 (ofRow (X.getD (Int.ofNat a.i).toNat [])) (nrm a.s.l) (nrm a.s.y) a.s.a0 a.s.a1 a.s.tr a.s.op a.s.cl a.s.en a.s.mo a.s.la0 a.s.la1 a.s.la2 a.s.er ∧
     xi ((caF X k).next a 0).s.l 5 =
     pushG_7 (ofRow (X.getD (Int.ofNat a.i).toNat [])) (nrm a.s.l) (nrm a.s.y) a.s.a0 a.s.a1 a.s.tr a.s.op a.s.cl a.s.en a.s.mo a.s.la0 a.s.la1 a.s.la2 a.s.er ∧
     xi ((caF X k).next a 0).s.l 6 =
     pushG_8 (ofRow (X.getD (Int.ofNat a.i).toNat [])) (nrm a.s.l) (nrm a.s.y) a.s.a0 a.s.a1 a.s.tr a.s.op a.s.cl a.s.en a.s.mo a.s.la0 a.s.la1 a.s.la2 a.s.er ∧
     xi ((caF X k).next a 0).s.l 7 =
     pushG_9 (ofRow (X.getD (Int.ofNat a.i).toNat [])) (nrm a.s.l) (nrm a.s.y) a.s.a0 a.s.a1 a.s.tr a.s.op a.s.cl a.s.en a.s.mo a.s.la0 a.s.la1 a.s.la2 a.s.er ∧
     xi ((caF X k).next a 0).s.l 8 =
     pushG_10 (ofRow (X.getD (Int.ofNat a.i).toNat [])) (nrm a.s.l) (nrm a.s.y) a.s.a0 a.s.a1 a.s.tr a.s.op a.s.cl a.s.en a.s.mo a.s.la0 a.s.la1 a.s.la2 a.s.er ∧
     xi ((caF X k).next a 0).s.l 9 =
     pushG_11 (ofRow (X.getD (Int.ofNat a.i).toNat [])) (nrm a.s.l) (nrm a.s.y) a.s.a0 a.s.a1 a.s.tr a.s.op a.s.cl a.s.en a.s.mo a.s.la0 a.s.la1 a.s.la2 a.s.er ∧
     xi ((caF X k).next a 0).s.l 10 =
     pushG_12 (ofRow (X.getD (Int.ofNat a.i).toNat [])) (nrm a.s.l) (nrm a.s.y) a.s.a0 a.s.a1 a.s.tr a.s.op a.s.cl a.s.en a.s.mo a.s.la0 a.s.la1 a.s.la2 a.s.er ∧
     xi ((caF X k).next a 0).s.l 11 =
     pushG_13 (ofRow (X.getD (Int.ofNat a.i).toNat [])) (nrm a.s.l) (nrm a.s.y) a.s.a0 a.s.a1 a.s.tr a.s.op a.s.cl a.s.en a.s.mo a.s.la0 a.s.la1 a.s.la2 a.s.er ∧
     xi ((caF X k).next a 0).s.l 12 =
     pushG_14 (ofRow (X.getD (Int.ofNat a.i).toNat [])) (nrm a.s.l) (nrm a.s.y) a.s.a0 a.s.a1 a.s.tr a.s.op a.s.cl a.s.en a.s.mo a.s.la0 a.s.la1 a.s.la2 a.s.er ∧
     xb ((caF X k).next a 0).s.l 13 =
     pushG_15 (ofRow (X.getD (Int.ofNat a.i).toNat [])) (nrm a.s.l) (nrm a.s.y) a.s.a0 a.s.a1 a.s.tr a.s.op a.s.cl a.s.en a.s.mo a.s.la0 a.s.la1 a.s.la2 a.s.er ∧
     xi ((caF X k).next a 0).s.l 14 =
     pushG_16 (ofRow (X.getD (Int.ofNat a.i).toNat [])) (nrm a.s.l) (nrm a.s.y) a.s.a0 a.s.a1 a.s.tr a.s.op a.s.cl a.s.en a.s.mo a.s.la0 a.s.la1 a.s.la2 a.s.er ∧
     xb ((caF X k).next a 0).s.l 15 =
     pushG_17 (ofRow (X.getD (Int.ofNat a.i).toNat [])) (nrm a.s.l) (nrm a.s.y) a.s.a0 a.s.a1 a.s.tr a.s.op a.s.cl a.s.en a.s.mo a.s.la0 a.s.la1 a.s.la2
     a.s.er ∧
     xi ((caF X k).next a 0).s.l 16 =
     pushG_18 (ofRow (X.getD (Int.ofNat a.i).toNat [])) (nrm a.s.l) (nrm a.s.y) a.s.a0 a.s.a1 a.s.tr a.s.op a.s.cl a.s.en a.s.mo a.s.la0 a.s.la1 a.s.la2
     a.s.er ∧
     xi ((caF X k).next a 0).s.l 17 =
     pushG_19 (ofRow (X.getD (Int.ofNat a.i).toNat [])) (nrm a.s.l) (nrm a.s.y) a.s.a0 a.s.a1 a.s.tr a.s.op a.s.cl a.s.en a.s.mo a.s.la0 a.s.la1 a.s.la2
     a.s.er ∧
     xi ((caF X k).next a 0).s.l 18 =
     pushG_20 (ofRow (X.getD (Int.ofNat a.i).toNat [])) (nrm a.s.l) (nrm a.s.y) a.s.a0 a.s.a1 a.s.tr a.s.op a.s.cl a.s.en a.s.mo a.s.la0 a.s.la1 a.s.la2
     a.s.er ∧
     xi ((caF X k).next a 0).s.l 19 =
     pushG_21 (ofRow (X.getD (Int.ofNat a.i).toNat [])) (nrm a.s.l) (nrm a.s.y) a.s.a0 a.s.a1 a.s.tr a.s.op a.s.cl a.s.en a.s.mo a.s.la0 a.s.la1
     a.s.la2 a.s.er ∧
     xi ((caF X k).next a 0).s.l 20 =
     pushG_22 (ofRow (X.getD (Int.ofNat a.i).toNat [])) (nrm a.s.l) (nrm a.s.y) a.s.a0 a.s.a1 a.s.tr a.s.op a.s.cl a.s.en a.s.mo a.s.la0 a.s.la1
     a.s.la2 a.s.er ∧
     xb ((caF X k).next a 0).s.l 21 =
     pushG_23 (ofRow (X.getD (Int.ofNat a.i).toNat [])) (nrm a.s.l) (nrm a.s.y) a.s.a0 a.s.a1 a.s.tr a.s.op a.s.cl a.s.en a.s.mo a.s.la0 a.s.la1
     a.s.la2 a.s.er ∧
     xi ((caF X k).next a 0).s.y 0 =
     pushG_24 (ofRow (X.getD (Int.ofNat a.i).toNat [])) (nrm a.s.l) (nrm a.s.y) a.s.a0 a.s.a1 a.s.tr a.s.op a.s.cl a.s.en a.s.mo a.s.la0 a.s.la1
     a.s.la2 a.s.er ∧
     xi ((caF X k).next a 0).s.y 1 =
     pushG_25 (ofRow (X.getD (Int.ofNat a.i).toNat [])) (nrm a.s.l) (nrm a.s.y) a.s.a0 a.s.a1 a.s.tr a.s.op a.s.cl a.s.en a.s.mo a.s.la0
     a.s.la1 a.s.la2 a.s.er ∧
     xi ((caF X k).next a 0).s.y 2 =
     pushG_26 (ofRow (X.getD (Int.ofNat a.i).toNat [])) (nrm a.s.l) (nrm a.s.y) a.s.a0 a.s.a1 a.s.tr a.s.op a.s.cl a.s.en a.s.mo a.s.la0
     a.s.la1 a.s.la2 a.s.er ∧
     xi ((caF X k).next a 0).s.y 3 =
     pushG_27 (ofRow (X.getD (Int.ofNat a.i).toNat [])) (nrm a.s.l) (nrm a.s.y) a.s.a0 a.s.a1 a.s.tr a.s.op a.s.cl a.s.en a.s.mo a.s.la0
     a.s.la1 a.s.la2 a.s.er ∧
     xi ((caF X k).next a 0).s.y 4 =
     pushG_28 (ofRow (X.getD (Int.ofNat a.i).toNat [])) (nrm a.s.l) (nrm a.s.y) a.s.a0 a.s.a1 a.s.tr a.s.op a.s.cl a.s.en a.s.mo a.s.la0
     a.s.la1 a.s.la2 a.s.er ∧
     xi ((caF X k).next a 0).s.y 5 =
     pushG_29 (ofRow (X.getD (Int.ofNat a.i).toNat [])) (nrm a.s.l) (nrm a.s.y) a.s.a0 a.s.a1 a.s.tr a.s.op a.s.cl a.s.en a.s.mo
     a.s.la0 a.s.la1 a.s.la2 a.s.er ∧
     xi ((caF X k).next a 0).s.y 6 =
     pushG_30 (ofRow (X.getD (Int.ofNat a.i).toNat [])) (nrm a.s.l) (nrm a.s.y) a.s.a0 a.s.a1 a.s.tr a.s.op a.s.cl a.s.en a.s.mo
     a.s.la0 a.s.la1 a.s.la2 a.s.er ∧
     xi ((caF X k).next a 0).s.y 7 =
     pushG_31 (ofRow (X.getD (Int.ofNat a.i).toNat [])) (nrm a.s.l) (nrm a.s.y) a.s.a0 a.s.a1 a.s.tr a.s.op a.s.cl a.s.en a.s.mo
     a.s.la0 a.s.la1 a.s.la2 a.s.er ∧
     xi ((caF X k).next a 0).s.y 8 =
     pushG_32 (ofRow (X.getD (Int.ofNat a.i).toNat [])) (nrm a.s.l) (nrm a.s.y) a.s.a0 a.s.a1 a.s.tr a.s.op a.s.cl a.s.en a.s.mo
     a.s.la0 a.s.la1 a.s.la2 a.s.er ∧
     xi ((caF X k).next a 0).s.y 9 =
     pushG_33 (ofRow (X.getD (Int.ofNat a.i).toNat [])) (nrm a.s.l) (nrm a.s.y) a.s.a0 a.s.a1 a.s.tr a.s.op a.s.cl a.s.en
     a.s.mo a.s.la0 a.s.la1 a.s.la2 a.s.er ∧
     xi ((caF X k).next a 0).s.y 10 =
     pushG_34 (ofRow (X.getD (Int.ofNat a.i).toNat [])) (nrm a.s.l) (nrm a.s.y) a.s.a0 a.s.a1 a.s.tr a.s.op a.s.cl a.s.en
     a.s.mo a.s.la0 a.s.la1 a.s.la2 a.s.er ∧
     xi ((caF X k).next a 0).s.y 11 =
     pushG_35 (ofRow (X.getD (Int.ofNat a.i).toNat [])) (nrm a.s.l) (nrm a.s.y) a.s.a0 a.s.a1 a.s.tr a.s.op a.s.cl a.s.en
     a.s.mo a.s.la0 a.s.la1 a.s.la2 a.s.er ∧
     xi ((caF X k).next a 0).s.y 12 =
     pushG_36 (ofRow (X.getD (Int.ofNat a.i).toNat [])) (nrm a.s.l) (nrm a.s.y) a.s.a0 a.s.a1 a.s.tr a.s.op a.s.cl a.s.en
     a.s.mo a.s.la0 a.s.la1 a.s.la2 a.s.er ∧
     xb ((caF X k).next a 0).s.y 13 =
     pushG_37 (ofRow (X.getD (Int.ofNat a.i).toNat [])) (nrm a.s.l) (nrm a.s.y) a.s.a0 a.s.a1 a.s.tr a.s.op a.s.cl
     a.s.en a.s.mo a.s.la0 a.s.la1 a.s.la2 a.s.er ∧
     xi ((caF X k).next a 0).s.y 14 =
     pushG_38 (ofRow (X.getD (Int.ofNat a.i).toNat [])) (nrm a.s.l) (nrm a.s.y) a.s.a0 a.s.a1 a.s.tr a.s.op a.s.cl
     a.s.en a.s.mo a.s.la0 a.s.la1 a.s.la2 a.s.er ∧
     xb ((caF X k).next a 0).s.y 15 =
     pushG_39 (ofRow (X.getD (Int.ofNat a.i).toNat [])) (nrm a.s.l) (nrm a.s.y) a.s.a0 a.s.a1 a.s.tr a.s.op a.s.cl
     a.s.en a.s.mo a.s.la0 a.s.la1 a.s.la2 a.s.er ∧
     xi ((caF X k).next a 0).s.y 16 =
     pushG_40 (ofRow (X.getD (Int.ofNat a.i).toNat [])) (nrm a.s.l) (nrm a.s.y) a.s.a0 a.s.a1 a.s.tr a.s.op
     a.s.cl a.s.en a.s.mo a.s.la0 a.s.la1 a.s.la2 a.s.er ∧
     xi ((caF X k).next a 0).s.y 17 =
     pushG_41 (ofRow (X.getD (Int.ofNat a.i).toNat [])) (nrm a.s.l) (nrm a.s.y) a.s.a0 a.s.a1 a.s.tr a.s.op
     a.s.cl a.s.en a.s.mo a.s.la0 a.s.la1 a.s.la2 a.s.er ∧
     xi ((caF X k).next a 0).s.y 18 =
     pushG_42 (ofRow (X.getD (Int.ofNat a.i).toNat [])) (nrm a.s.l) (nrm a.s.y) a.s.a0 a.s.a1 a.s.tr a.s.op
     a.s.cl a.s.en a.s.mo a.s.la0 a.s.la1 a.s.la2 a.s.er ∧
     xi ((caF X k).next a 0).s.y 19 =
     pushG_43 (ofRow (X.getD (Int.ofNat a.i).toNat [])) (nrm a.s.l) (nrm a.s.y) a.s.a0 a.s.a1 a.s.tr a.s.op
     a.s.cl a.s.en a.s.mo a.s.la0 a.s.la1 a.s.la2 a.s.er ∧
     xi ((caF X k).next a 0).s.y 20 =
     pushG_44 (ofRow (X.getD (Int.ofNat a.i).toNat [])) (nrm a.s.l) (nrm a.s.y) a.s.a0 a.s.a1 a.s.tr
     a.s.op a.s.cl a.s.en a.s.mo a.s.la0 a.s.la1 a.s.la2 a.s.er ∧
     xb ((caF X k).next a 0).s.y 21 =
     pushG_45 (ofRow (X.getD (Int.ofNat a.i).toNat [])) (nrm a.s.l) (nrm a.s.y) a.s.a0 a.s.a1 a.s.tr
     a.s.op a.s.cl a.s.en a.s.mo a.s.la0 a.s.la1 a.s.la2 a.s.er ∧
     ((caF X k).next a 0).s.a0 =
     pushG_46 (ofRow (X.getD (Int.ofNat a.i).toNat [])) (nrm a.s.l) (nrm a.s.y) a.s.a0 a.s.a1 a.s.tr
     a.s.op a.s.cl a.s.en a.s.mo a.s.la0 a.s.la1 a.s.la2 a.s.er ∧
     ((caF X k).next a 0).s.a1 =
     pushG_47 (ofRow (X.getD (Int.ofNat a.i).toNat [])) (nrm a.s.l) (nrm a.s.y) a.s.a0 a.s.a1
     a.s.tr a.s.op a.s.cl a.s.en a.s.mo a.s.la0 a.s.la1 a.s.la2 a.s.er ∧
     ((caF X k).next a 0).s.tr =
     pushG_48 (ofRow (X.getD (Int.ofNat a.i).toNat [])) (nrm a.s.l) (nrm a.s.y) a.s.a0 a.s.a1
     a.s.tr a.s.op a.s.cl a.s.en a.s.mo a.s.la0 a.s.la1 a.s.la2 a.s.er ∧
     ((caF X k).next a 0).s.op =
     pushG_49 (ofRow (X.getD (Int.ofNat a.i).toNat [])) (nrm a.s.l) (nrm a.s.y) a.s.a0 a.s.a1
     a.s.tr a.s.op a.s.cl a.s.en a.s.mo a.s.la0 a.s.la1 a.s.la2 a.s.er ∧
     ((caF X k).next a 0).s.cl = a.s.cl ∧
     ((caF X k).next a 0).s.en =
     pushG_50 (ofRow (X.getD (Int.ofNat a.i).toNat [])) a.s.cl a.s.en a.s.mo a.s.la0
     a.s.la1 a.s.la2 a.s.er ∧
     ((caF X k).next a 0).s.mo =
     pushG_51 (ofRow (X.getD (Int.ofNat a.i).toNat [])) a.s.cl a.s.en a.s.mo a.s.la0
     a.s.la1 a.s.la2 a.s.er ∧
     ((caF X k).next a 0).s.la0 =
     pushG_52 (ofRow (X.getD (Int.ofNat a.i).toNat [])) a.s.cl a.s.en a.s.mo a.s.la0
     a.s.la1 a.s.la2 a.s.er ∧
     ((caF X k).next a 0).s.la1 =
     pushG_53 (ofRow (X.getD (Int.ofNat a.i).toNat [])) a.s.cl a.s.en a.s.mo a.s.la0
     a.s.la1 a.s.la2 a.s.er ∧
     ((caF X k).next a 0).s.la2 =
     pushG_54 (ofRow (X.getD (Int.ofNat a.i).toNat [])) a.s.cl a.s.en a.s.mo
     a.s.la0 a.s.la1 a.s.la2 a.s.er ∧
     ((caF X k).next a 0).s.er =
     pushG_55 (ofRow (X.getD (Int.ofNat a.i).toNat [])) (nrm a.s.l) (nrm a.s.y)
     a.s.a0 a.s.a1 a.s.tr a.s.op a.s.cl a.s.en a.s.mo a.s.la0 a.s.la1 a.s.la2
     a.s.er a.s.C ∧
     ((caF X k).next a 0).s.C =
     pushG_56 (ofRow (X.getD (Int.ofNat a.i).toNat [])) (nrm a.s.l) (nrm a.s.y)
     a.s.a0 a.s.a1 a.s.tr a.s.op a.s.cl a.s.en a.s.mo a.s.la0 a.s.la1 a.s.la2
     a.s.er a.s.C,
    decide (Int.ofNat a.i < k) = false →
     xi ((caF X k).fin a).s.l 0 = xi a.s.l 0 ∧
     xi ((caF X k).fin a).s.l 1 = xi a.s.l 1 ∧
     xi ((caF X k).fin a).s.l 2 = xi a.s.l 2 ∧
     xi ((caF X k).fin a).s.l 3 = xi a.s.l 3 ∧
     xi ((caF X k).fin a).s.l 4 = xi a.s.l 4 ∧
     xi ((caF X k).fin a).s.l 5 = xi a.s.l 5 ∧
     xi ((caF X k).fin a).s.l 6 = xi a.s.l 6 ∧
     xi ((caF X k).fin a).s.l 7 = xi a.s.l 7 ∧
     xi ((caF X k).fin a).s.l 8 = xi a.s.l 8 ∧
     xi ((caF X k).fin a).s.l 9 = xi a.s.l 9 ∧
     xi ((caF X k).fin a).s.l 10 = xi a.s.l 10 ∧
     xi ((caF X k).fin a).s.l 11 = xi a.s.l 11 ∧
     xi ((caF X k).fin a).s.l 12 = xi a.s.l 12 ∧
     xb ((caF X k).fin a).s.l 13 = xb a.s.l 13 ∧
     xi ((caF X k).fin a).s.l 14 = xi a.s.l 14 ∧
     xb ((caF X k).fin a).s.l 15 = xb a.s.l 15 ∧
     xi ((caF X k).fin a).s.l 16 = xi a.s.l 16 ∧
     xi ((caF X k).fin a).s.l 17 = xi a.s.l 17 ∧
     xi ((caF X k).fin a).s.l 18 = xi a.s.l 18 ∧
     xi ((caF X k).fin a).s.l 19 = xi a.s.l 19 ∧
     xi ((caF X k).fin a).s.l 20 = xi a.s.l 20 ∧
     xb ((caF X k).fin a).s.l 21 = xb a.s.l 21 ∧
     xi ((caF X k).fin a).s.y 0 = xi a.s.y 0 ∧
     xi ((caF X k).fin a).s.y 1 = xi a.s.y 1 ∧
     xi ((caF X k).fin a).s.y 2 = xi a.s.y 2 ∧
     xi ((caF X k).fin a).s.y 3 = xi a.s.y 3 ∧
     xi ((caF X k).fin a).s.y 4 = xi a.s.y 4 ∧
     xi ((caF X k).fin a).s.y 5 = xi a.s.y 5 ∧
     xi ((caF X k).fin a).s.y 6 = xi a.s.y 6 ∧
     xi ((caF X k).fin a).s.y 7 = xi a.s.y 7 ∧
     xi ((caF X k).fin a).s.y 8 = xi a.s.y 8 ∧
     xi ((caF X k).fin a).s.y 9 = xi a.s.y 9 ∧
     xi ((caF X k).fin a).s.y 10 = xi a.s.y 10 ∧
     xi ((caF X k).fin a).s.y 11 = xi a.s.y 11 ∧
     xi ((caF X k).fin a).s.y 12 = xi a.s.y 12 ∧
     xb ((caF X k).fin a).s.y 13 = xb a.s.y 13 ∧
     xi ((caF X k).fin a).s.y 14 = xi a.s.y 14 ∧
     xb ((caF X k).fin a).s.y 15 = xb a.s.y 15 ∧
     xi ((caF X k).fin a).s.y 16 = xi a.s.y 16 ∧
     xi ((caF X k).fin a).s.y 17 = xi a.s.y 17 ∧
     xi ((caF X k).fin a).s.y 18 = xi a.s.y 18 ∧
     xi ((caF X k).fin a).s.y 19 = xi a.s.y 19 ∧
     xi ((caF X k).fin a).s.y 20 = xi a.s.y 20 ∧
     xb ((caF X k).fin a).s.y 21 = xb a.s.y 21 ∧
     ((caF X k).fin a).s.a0 = a.s.a0 ∧
     ((caF X k).fin a).s.a1 = a.s.a1 ∧
     ((caF X k).fin a).s.tr = a.s.tr ∧
     ((caF X k).fin a).s.op = a.s.op ∧
     ((caF X k).fin a).s.cl = a.s.cl ∧
     ((caF X k).fin a).s.en = a.s.en ∧
     ((caF X k).fin a).s.mo = a.s.mo ∧
     ((caF X k).fin a).s.la0 = a.s.la0 ∧
     ((caF X k).fin a).s.la1 = a.s.la1 ∧
     ((caF X k).fin a).s.la2 = a.s.la2 ∧
     ((caF X k).fin a).s.er = a.s.er ∧ ((caF X k).fin a).s.C = a.s.C]
theorem ca_round (X : List (List Int)) (k : Int) (a : AS) (hNeeds : ∀ pN ∈ (ca_needs X k a), pN) : RoundOk (roundC (caF X k) (bodyOf Try.prog (sums K_copyG) L_same 7 0) 3323 a) :=
  RoundOk.of (ps := (ca_needs X k a)) (by kernel_rfl) (by kernel_rfl) hNeeds
theorem ca_rounds (X : List (List Int)) (k : Int) : RoundsOk (caF X k) (bodyOf Try.prog (sums K_copyG) L_same 7 0) 3323 := by
  intro a hJ
  obtain ⟨h0, h1, h2, h2', h3⟩ : 0 ≤ k ∧ a.i ≤ k.toNat ∧ k.toNat ≤ X.length ∧ X.length ≤ 1000 ∧ a.s.C.length ≤ 8 := hJ
  have hc := pushS_C (ofRow (X.getD a.i [])) a.s h3
  have e6 : IntKind.i64.wrap (Int.ofNat a.i + 1) = Int.ofNat (a.i + 1) := wrI (by simp; omega) (by simp; omega)
  refine ca_round X k a ?_
  unfold ca_needs
  simp only [List.forall_mem_cons, List.not_mem_nil, false_implies, implies_true, and_true]
  have lt : decide (Int.ofNat a.i < k) = true → a.i < k.toNat := fun h => by simp at h; omega
  refine ⟨fun h => ⟨by simp, by have := lt h; show a.i < _; omega, by have := lt h; show a.i < _; omega, by omega⟩, fun h => ⟨⟨h0, by have := lt h; show a.i + 1 ≤ _; omega, h2, h2', hc⟩, ?_, ?_, e6.symm, ?_⟩, fun h => ?_⟩
  · have := lt h
    show k.toNat - (a.i + 1) < k.toNat - a.i; omega
  · show frN X (k.toNat - (a.i + 1)) _ = frN X (k.toNat - a.i) a
    rw [frN_step (lt h)]; rfl
  · repeat' first | refine ⟨by kernel_rfl, ?_⟩ | kernel_rfl | exact trivial | refine ⟨trivial, ?_⟩
  · have hi : a.i = k.toNat := by simp at h; omega
    have e : (caF X k).fin a = a := by
      show frN X (k.toNat - a.i) a = a
      rw [hi, Nat.sub_self]; rfl
    rw [e]
    repeat' first | refine ⟨by kernel_rfl, ?_⟩ | kernel_rfl | exact trivial | refine ⟨trivial, ?_⟩
noncomputable def caLp : LoopS := fun env mem m => match SX.look env 6, SX.look mem 2203 with
  | some ⟨_, _, _, .one (.int _ k)⟩, some (.row _ _ _ (.lst _ _ X)) => famS (caF X k.val) 3323 (fun _ _ => some ⟨0, St0, []⟩) env mem m
  | _, _ => none
noncomputable def L_ca : FuncId → Nat → Option LoopS := addL L_same 7 9 caLp
theorem known_caL : Known Try.prog (sums K_copyG) L_ca := by
  refine known_addL 0 known_copyG (by kernel_rfl) (codeOk_of fun env mem m x h => ?_)
  unfold caLp at h
  have hlen : (loopList Try.prog 7).length = 3 := by kernel_rfl
  split at h
  · exact ⟨_, fam_ok (bodyOf_ok plainN known_copyG (by omega)) (ca_rounds _ _), h⟩
  · cases h
end Go.Proofs.Ytmbfbhimdkjkoaa
namespace Go.Proofs.Ytmbfbhimdkjkoaa
open Go.SX Go.RowKit
structure BS where
  i : Nat
  s : St
  R : List (List Int)
  ES : List (List Int)
/-- The filter that is copied. -/
noncomputable def cpS (X : List (List Int)) (k : Int) : St := (frN X (k.toNat - 0) ⟨0, St0, []⟩).s
noncomputable def bA (X : List (List Int)) (a : BS) : BS := ⟨a.i + 1, pushS (ofRow (X.getD a.i [])) a.s, a.R ++ pushO (ofRow (X.getD a.i [])) a.s, a.ES ++ [[pushE (ofRow (X.getD a.i [])) a.s]]⟩
noncomputable def bN (X : List (List Int)) : Nat → BS → BS
  | 0, a => a
  | n + 1, a => bN X n (bA X a)
noncomputable def cpG (k : Nat) : Nat := bif Nat.beq k 47 then 3717 else 3647 + k
noncomputable def cbG (k : Nat) : Nat := 1000000100 + k
noncomputable def cbH (k : Nat) : Nat := 4300 + k
noncomputable def cbF (X : List (List Int)) (k : Int) : Fam BS BS where
  k := 600
  E a := [(12, ent 1000000000 (.one (I (Int.ofNat a.i)))), (11, ent 1000000001 (.one (.wh 4201))), (10, ent 1000000002 (.one (.wh 4202))), (9, ent 3721 (.one (.ptr 3588 0))), (7, ent 2296 (.one (.ptr 2232 0))), (6, ent 2229 (.one (I k))), (5, ent 2209 (.one (.wh 2203)))]
  M a := [(2232, .blk 66 (nCells cbG a.s 4203)), rowI 4203 1000000200 a.s.C, (3588, .blk 66 (nCells cpG (cpS X k) 3712)), rowI 3712 3713 (cpS X k).C, rowI 4202 1000000201 a.R, (4201, .row false 33 1 (.lst 1000000202 [.int .i64] a.ES)), rowI 2203 2205 X]
  out t := .leaf (.exit 2) [(11, ent 3901 (.one (.wh 4201))), (10, ent 3902 (.one (.wh 4202))), (9, ent 3721 (.one (.ptr 3588 0))), (7, ent 2296 (.one (.ptr 2232 0))), (6, ent 2229 (.one (I k))), (5, ent 2209 (.one (.wh 2203)))] [(2232, .blk 66 (nCells cbH t.s 4203)), rowI 4203 4210 t.s.C, (3588, .blk 66 (nCells cpG (cpS X k) 3712)), rowI 3712 3713 (cpS X k).C, rowI 4202 4211 t.R, (4201, .row false 33 1 (.lst 4212 [.int .i64] t.ES)), rowI 2203 2205 X]
  fin a := bN X (X.length - a.i) a
  next a _ := bA X a
  J a := a.i ≤ X.length ∧ X.length ≤ 1000 ∧ a.s.C.length ≤ 8 ∧ a.R.length ≤ 11 * a.i ∧ a.ES.length ≤ a.i
  μ a := X.length - a.i
noncomputable def cb_s0 (X : List (List Int)) (a : BS) : Prop :=
  decide (Int.ofNat a.i < Int.ofNat X.length) = true
noncomputable def cb_s1 (X : List (List Int)) (a : BS) : List (List Int) :=
  pushG_1 (ofRow (X.getD (Int.ofNat a.i).toNat [])) (nrm a.s.l) (nrm a.s.y) a.s.a0 a.s.a1 a.s.tr a.s.op a.s.cl a.s.en a.s.mo a.s.la0 a.s.la1 a.s.la2 a.s.er a.s.C
noncomputable def cb_needs (X : List (List Int)) (k : Int) (a : BS) : List Prop :=
  [cb_s0 X a →
     0 ≤ Int.ofNat a.i ∧
     (Int.ofNat a.i).toNat < X.length ∧
     (Int.ofNat a.i).toNat < X.length ∧
     a.s.C.length ≤ 1000 ∧
     (a.R.length + (cb_s1 X a).length) * 176 ≤ 140737488355328 ∧
     a.R.length + (cb_s1 X a).length ≤ 9223372036854775807 ∧ (a.ES.length + 1) * 8 ≤ 140737488355328 ∧ a.ES.length + 1 ≤ 9223372036854775807,
    cb_s0 X a →
     (((cbF X k).next a 0).i ≤ X.length ∧
     X.length ≤ 1000 ∧ ((cbF X k).next a 0).s.C.length ≤ 8 ∧ ((cbF X k).next a 0).R.length ≤ 11 * ((cbF X k).next a 0).i ∧ ((cbF X k).next a 0).ES.length ≤ ((cbF X k).next a 0).i) ∧
     (cbF X k).μ ((cbF X k).next a 0) < (cbF X k).μ a ∧
     (cbF X k).fin ((cbF X k).next a 0) = (cbF X k).fin a ∧
     Int.ofNat ((cbF X k).next a 0).i = IntKind.i64.wrap (Int.ofNat a.i + 1) ∧
     xi ((cbF X k).next a 0).s.l 0 = pushG_2 (ofRow (X.getD (Int.ofNat a.i).toNat [])) (nrm a.s.l) (nrm a.s.y) a.s.a0 a.s.a1 a.s.tr a.s.op a.s.cl a.s.en a.s.mo a.s.la0 a.s.la1 a.s.la2 a.s.er ∧
     xi ((cbF X k).next a 0).s.l 1 =
     pushG_3 (ofRow (X.getD (Int.ofNat a.i).toNat [])) (nrm a.s.l) (nrm a.s.y) a.s.a0 a.s.a1 a.s.tr a.s.op a.s.cl a.s.en a.s.mo a.s.la0 a.s.la1 a.s.la2 a.s.er ∧
     xi ((cbF X k).next a 0).s.l 2 =
     pushG_4 (ofRow (X.getD (Int.ofNat a.i).toNat [])) (nrm a.s.l) (nrm a.s.y) a.s.a0 a.s.a1 a.s.tr a.s.op a.s.cl a.s.en a.s.mo a.s.la0 a.s.la1 a.s.la2 a.s.er ∧
     xi ((cbF X k).next a 0).s.l 3 =
     pushG_5 (ofRow (X.getD (Int.ofNat a.i).toNat [])) (nrm a.s.l) (nrm a.s.y) a.s.a0 a.s.a1 a.s.tr a.s.op a.s.cl a.s.en a.s.mo a.s.la0 a.s.la1 a.s.la2 a.s.er ∧
     xi ((cbF X k).next a 0).s.l 4 =
     pushG_6 (ofRow (X.getD (Int.ofNat a.i).toNat [])) (nrm a.s.l) (nrm a.s.y) a.s.a0 a.s.a1 a.s.tr a.s.op a.s.cl a.s.en a.s.mo a.s.la0 a.s.la1 a.s.la2 a.s.er ∧
     xi ((cbF X k).next a 0).s.l 5 =
     pushG_7 (ofRow (X.getD (Int.ofNat a.i).toNat [])) (nrm a.s.l) (nrm a.s.y) a.s.a0 a.s.a1 a.s.tr a.s.op a.s.cl a.s.en a.s.mo a.s.la0 a.s.la1 a.s.la2 a.s.er ∧
     xi ((cbF X k).next a 0).s.l 6 =
     pushG_8 (ofRow (X.getD (Int.ofNat a.i).toNat [])) (nrm a.s.l) (nrm a.s.y) a.s.a0 a.s.a1 a.s.tr a.s.op a.s.cl a.s.en a.s.mo a.s.la0 a.s.la1 a.s.la2 a.s.er ∧
     xi ((cbF X k).next a 0).s.l 7 =
     pushG_9 (ofRow (X.getD (Int.ofNat a.i).toNat [])) (nrm a.s.l) (nrm a.s.y) a.s.a0 a.s.a1 a.s.tr a.s.op a.s.cl a.s.en a.s.mo a.s.la0 a.s.la1 a.s.la2 a.s.er ∧
     xi ((cbF X k).next a 0).s.l 8 =
     pushG_10 (ofRow (X.getD (Int.ofNat a.i).toNat [])) (nrm a.s.l) (nrm a.s.y) a.s.a0 a.s.a1 a.s.tr a.s.op a.s.cl a.s.en a.s.mo a.s.la0 a.s.la1 a.s.la2 a.s.er ∧
     xi ((cbF X k).next a 0).s.l 9 =
     pushG_11 (ofRow (X.getD (Int.ofNat a.i).toNat [])) (nrm a.s.l) (nrm a.s.y) a.s.a0 a.s.a1 a.s.tr a.s.op a.s.cl a.s.en a.s.mo a.s.la0 a.s.la1 a.s.la2 a.s.er ∧
     xi ((cbF X k).next a 0).s.l 10 =
     pushG_12 (ofRow (X.getD (Int.ofNat a.i).toNat [])) (nrm a.s.l) (nrm a.s.y) a.s.a0 a.s.a1 a.s.tr a.s.op a.s.cl a.s.en a.s.mo a.s.la0 a.s.la1 a.s.la2 a.s.er ∧
     xi ((cbF X k).next a 0).s.l 11 =
     pushG_13 (ofRow (X.getD (Int.ofNat a.i).toNat [])) (nrm a.s.l) (nrm a.s.y) a.s.a0 a.s.a1 a.s.tr a.s.op a.s.cl a.s.en a.s.mo a.s.la0 a.s.la1 a.s.la2 a.s.er ∧
     xi ((cbF X k).next a 0).s.l 12 =
     pushG_14 (ofRow (X.getD (Int.ofNat a.i).toNat [])) (nrm a.s.l) (nrm a.s.y) a.s.a0 a.s.a1 a.s.tr a.s.op a.s.cl a.s.en a.s.mo a.s.la0 a.s.la1 a.s.la2 a.s.er ∧
     xb ((cbF X k).next a 0).s.l 13 =
     pushG_15 (ofRow (X.getD (Int.ofNat a.i).toNat [])) (nrm a.s.l) (nrm a.s.y) a.s.a0 a.s.a1 a.s.tr a.s.op a.s.cl a.s.en a.s.mo a.s.la0 a.s.la1 a.s.la2 a.s.er ∧
     xi ((cbF X k).next a 0).s.l 14 =
     pushG_16 (ofRow (X.getD (Int.ofNat a.i).toNat [])) (nrm a.s.l) (nrm a.s.y) a.s.a0 a.s.a1 a.s.tr a.s.op a.s.cl a.s.en a.s.mo a.s.la0 a.s.la1 a.s.la2 a.s.er ∧
     xb ((cbF X k).next a 0).s.l 15 =
     pushG_17 (ofRow (X.getD (Int.ofNat a.i).toNat [])) (nrm a.s.l) (nrm a.s.y) a.s.a0 a.s.a1 a.s.tr a.s.op a.s.cl a.s.en a.s.mo a.s.la0 a.s.la1 a.s.la2
     a.s.er ∧
     xi ((cbF X k).next a 0).s.l 16 =
     pushG_18 (ofRow (X.getD (Int.ofNat a.i).toNat [])) (nrm a.s.l) (nrm a.s.y) a.s.a0 a.s.a1 a.s.tr a.s.op a.s.cl a.s.en a.s.mo a.s.la0 a.s.la1 a.s.la2
     a.s.er ∧
     xi ((cbF X k).next a 0).s.l 17 =
     pushG_19 (ofRow (X.getD (Int.ofNat a.i).toNat [])) (nrm a.s.l) (nrm a.s.y) a.s.a0 a.s.a1 a.s.tr a.s.op a.s.cl a.s.en a.s.mo a.s.la0 a.s.la1 a.s.la2
     a.s.er ∧
     xi ((cbF X k).next a 0).s.l 18 =
     pushG_20 (ofRow (X.getD (Int.ofNat a.i).toNat [])) (nrm a.s.l) (nrm a.s.y) a.s.a0 a.s.a1 a.s.tr a.s.op a.s.cl a.s.en a.s.mo a.s.la0 a.s.la1 a.s.la2
     a.s.er ∧
     xi ((cbF X k).next a 0).s.l 19 =
     pushG_21 (ofRow (X.getD (Int.ofNat a.i).toNat [])) (nrm a.s.l) (nrm a.s.y) a.s.a0 a.s.a1 a.s.tr a.s.op a.s.cl a.s.en a.s.mo a.s.la0 a.s.la1
     a.s.la2 a.s.er ∧
     xi ((cbF X k).next a 0).s.l 20 =
     pushG_22 (ofRow (X.getD (Int.ofNat a.i).toNat [])) (nrm a.s.l) (nrm a.s.y) a.s.a0 a.s.a1 a.s.tr a.s.op a.s.cl a.s.en a.s.mo a.s.la0 a.s.la1
     a.s.la2 a.s.er ∧
     xb ((cbF X k).next a 0).s.l 21 =
     pushG_23 (ofRow (X.getD (Int.ofNat a.i).toNat [])) (nrm a.s.l) (nrm a.s.y) a.s.a0 a.s.a1 a.s.tr a.s.op a.s.cl a.s.en a.s.mo a.s.la0 a.s.la1
     a.s.la2 a.s.er ∧
     xi ((cbF X k).next a 0).s.y 0 =
     pushG_24 (ofRow (X.getD (Int.ofNat a.i).toNat [])) (nrm a.s.l) (nrm a.s.y) a.s.a0 a.s.a1 a.s.tr a.s.op a.s.cl a.s.en a.s.mo a.s.la0 a.s.la1
     a.s.la2 a.s.er ∧
     xi ((cbF X k).next a 0).s.y 1 =
     pushG_25 (ofRow (X.getD (Int.ofNat a.i).toNat [])) (nrm a.s.l) (nrm a.s.y) a.s.a0 a.s.a1 a.s.tr a.s.op a.s.cl a.s.en a.s.mo a.s.la0
     a.s.la1 a.s.la2 a.s.er ∧
     xi ((cbF X k).next a 0).s.y 2 =
     pushG_26 (ofRow (X.getD (Int.ofNat a.i).toNat [])) (nrm a.s.l) (nrm a.s.y) a.s.a0 a.s.a1 a.s.tr a.s.op a.s.cl a.s.en a.s.mo a.s.la0
     a.s.la1 a.s.la2 a.s.er ∧
     xi ((cbF X k).next a 0).s.y 3 =
     pushG_27 (ofRow (X.getD (Int.ofNat a.i).toNat [])) (nrm a.s.l) (nrm a.s.y) a.s.a0 a.s.a1 a.s.tr a.s.op a.s.cl a.s.en a.s.mo a.s.la0
     a.s.la1 a.s.la2 a.s.er ∧
     xi ((cbF X k).next a 0).s.y 4 =
     pushG_28 (ofRow (X.getD (Int.ofNat a.i).toNat [])) (nrm a.s.l) (nrm a.s.y) a.s.a0 a.s.a1 a.s.tr a.s.op a.s.cl a.s.en a.s.mo a.s.la0
     a.s.la1 a.s.la2 a.s.er ∧
     xi ((cbF X k).next a 0).s.y 5 =
     pushG_29 (ofRow (X.getD (Int.ofNat a.i).toNat [])) (nrm a.s.l) (nrm a.s.y) a.s.a0 a.s.a1 a.s.tr a.s.op a.s.cl a.s.en a.s.mo
     a.s.la0 a.s.la1 a.s.la2 a.s.er ∧
     xi ((cbF X k).next a 0).s.y 6 =
     pushG_30 (ofRow (X.getD (Int.ofNat a.i).toNat [])) (nrm a.s.l) (nrm a.s.y) a.s.a0 a.s.a1 a.s.tr a.s.op a.s.cl a.s.en a.s.mo
     a.s.la0 a.s.la1 a.s.la2 a.s.er ∧
     xi ((cbF X k).next a 0).s.y 7 =
     pushG_31 (ofRow (X.getD (Int.ofNat a.i).toNat [])) (nrm a.s.l) (nrm a.s.y) a.s.a0 a.s.a1 a.s.tr a.s.op a.s.cl a.s.en a.s.mo
     a.s.la0 a.s.la1 a.s.la2 a.s.er ∧
     xi ((cbF X k).next a 0).s.y 8 =
     pushG_32 (ofRow (X.getD (Int.ofNat a.i).toNat [])) (nrm a.s.l) (nrm a.s.y) a.s.a0 a.s.a1 a.s.tr a.s.op a.s.cl a.s.en a.s.mo
     a.s.la0 a.s.la1 a.s.la2 a.s.er ∧
     xi ((cbF X k).next a 0).s.y 9 =
     pushG_33 (ofRow (X.getD (Int.ofNat a.i).toNat [])) (nrm a.s.l) (nrm a.s.y) a.s.a0 a.s.a1 a.s.tr a.s.op a.s.cl a.s.en
     a.s.mo a.s.la0 a.s.la1 a.s.la2 a.s.er ∧
     xi ((cbF X k).next a 0).s.y 10 =
     pushG_34 (ofRow (X.getD (Int.ofNat a.i).toNat [])) (nrm a.s.l) (nrm a.s.y) a.s.a0 a.s.a1 a.s.tr a.s.op a.s.cl a.s.en
     a.s.mo a.s.la0 a.s.la1 a.s.la2 a.s.er ∧
     xi ((cbF X k).next a 0).s.y 11 =
     pushG_35 (ofRow (X.getD (Int.ofNat a.i).toNat [])) (nrm a.s.l) (nrm a.s.y) a.s.a0 a.s.a1 a.s.tr a.s.op a.s.cl a.s.en
     a.s.mo a.s.la0 a.s.la1 a.s.la2 a.s.er ∧
     xi ((cbF X k).next a 0).s.y 12 =
     pushG_36 (ofRow (X.getD (Int.ofNat a.i).toNat [])) (nrm a.s.l) (nrm a.s.y) a.s.a0 a.s.a1 a.s.tr a.s.op a.s.cl a.s.en
     a.s.mo a.s.la0 a.s.la1 a.s.la2 a.s.er ∧
     xb ((cbF X k).next a 0).s.y 13 =
     pushG_37 (ofRow (X.getD (Int.ofNat a.i).toNat [])) (nrm a.s.l) (nrm a.s.y) a.s.a0 a.s.a1 a.s.tr a.s.op a.s.cl
     a.s.en a.s.mo a.s.la0 a.s.la1 a.s.la2 a.s.er ∧
     xi ((cbF X k).next a 0).s.y 14 =
     pushG_38 (ofRow (X.getD (Int.ofNat a.i).toNat [])) (nrm a.s.l) (nrm a.s.y) a.s.a0 a.s.a1 a.s.tr a.s.op a.s.cl
     a.s.en a.s.mo a.s.la0 a.s.la1 a.s.la2 a.s.er ∧
     xb ((cbF X k).next a 0).s.y 15 =
     pushG_39 (ofRow (X.getD (Int.ofNat a.i).toNat [])) (nrm a.s.l) (nrm a.s.y) a.s.a0 a.s.a1 a.s.tr a.s.op a.s.cl
     a.s.en a.s.mo a.s.la0 a.s.la1 a.s.la2 a.s.er ∧
     xi ((cbF X k).next a 0).s.y 16 =
     pushG_40 (ofRow (X.getD (Int.ofNat a.i).toNat [])) (nrm a.s.l) (nrm a.s.y) a.s.a0 a.s.a1 a.s.tr a.s.op
     a.s.cl a.s.en a.s.mo a.s.la0 a.s.la1 a.s.la2 a.s.er ∧
     xi ((cbF X k).next a 0).s.y 17 =
     pushG_41 (ofRow (X.getD (Int.ofNat a.i).toNat [])) (nrm a.s.l) (nrm a.s.y) a.s.a0 a.s.a1 a.s.tr a.s.op
     a.s.cl a.s.en a.s.mo a.s.la0 a.s.la1 a.s.la2 a.s.er ∧
     xi ((cbF X k).next a 0).s.y 18 =
     pushG_42 (ofRow (X.getD (Int.ofNat a.i).toNat [])) (nrm a.s.l) (nrm a.s.y) a.s.a0 a.s.a1 a.s.tr a.s.op
     a.s.cl a.s.en a.s.mo a.s.la0 a.s.la1 a.s.la2 a.s.er ∧
     xi ((cbF X k).next a 0).s.y 19 =
     pushG_43 (ofRow (X.getD (Int.ofNat a.i).toNat [])) (nrm a.s.l) (nrm a.s.y) a.s.a0 a.s.a1 a.s.tr a.s.op
     a.s.cl a.s.en a.s.mo a.s.la0 a.s.la1 a.s.la2 a.s.er ∧
     xi ((cbF X k).next a 0).s.y 20 =
     pushG_44 (ofRow (X.getD (Int.ofNat a.i).toNat [])) (nrm a.s.l) (nrm a.s.y) a.s.a0 a.s.a1 a.s.tr
     a.s.op a.s.cl a.s.en a.s.mo a.s.la0 a.s.la1 a.s.la2 a.s.er ∧
     xb ((cbF X k).next a 0).s.y 21 =
     pushG_45 (ofRow (X.getD (Int.ofNat a.i).toNat [])) (nrm a.s.l) (nrm a.s.y) a.s.a0 a.s.a1 a.s.tr
     a.s.op a.s.cl a.s.en a.s.mo a.s.la0 a.s.la1 a.s.la2 a.s.er ∧
     ((cbF X k).next a 0).s.a0 =
     pushG_46 (ofRow (X.getD (Int.ofNat a.i).toNat [])) (nrm a.s.l) (nrm a.s.y) a.s.a0 a.s.a1 a.s.tr
     a.s.op a.s.cl a.s.en a.s.mo a.s.la0 a.s.la1 a.s.la2 a.s.er ∧
     ((cbF X k).next a 0).s.a1 =
     pushG_47 (ofRow (X.getD (Int.ofNat a.i).toNat [])) (nrm a.s.l) (nrm a.s.y) a.s.a0 a.s.a1
     a.s.tr a.s.op a.s.cl a.s.en a.s.mo a.s.la0 a.s.la1 a.s.la2 a.s.er ∧
     ((cbF X k).next a 0).s.tr =
     pushG_48 (ofRow (X.getD (Int.ofNat a.i).toNat [])) (nrm a.s.l) (nrm a.s.y) a.s.a0 a.s.a1
     a.s.tr a.s.op a.s.cl a.s.en a.s.mo a.s.la0 a.s.la1 a.s.la2 a.s.er ∧
     ((cbF X k).next a 0).s.op =
     pushG_49 (ofRow (X.getD (Int.ofNat a.i).toNat [])) (nrm a.s.l) (nrm a.s.y) a.s.a0 a.s.a1
     a.s.tr a.s.op a.s.cl a.s.en a.s.mo a.s.la0 a.s.la1 a.s.la2 a.s.er ∧
     ((cbF X k).next a 0).s.cl = a.s.cl ∧
     ((cbF X k).next a 0).s.en =
     pushG_50 (ofRow (X.getD (Int.ofNat a.i).toNat [])) a.s.cl a.s.en a.s.mo a.s.la0
     a.s.la1 a.s.la2 a.s.er ∧
     ((cbF X k).next a 0).s.mo =
     pushG_51 (ofRow (X.getD (Int.ofNat a.i).toNat [])) a.s.cl a.s.en a.s.mo a.s.la0
     a.s.la1 a.s.la2 a.s.er ∧
     ((cbF X k).next a 0).s.la0 =
     pushG_52 (ofRow (X.getD (Int.ofNat a.i).toNat [])) a.s.cl a.s.en a.s.mo a.s.la0
     a.s.la1 a.s.la2 a.s.er ∧
     ((cbF X k).next a 0).s.la1 =
     pushG_53 (ofRow (X.getD (Int.ofNat a.i).toNat [])) a.s.cl a.s.en a.s.mo a.s.la0
     a.s.la1 a.s.la2 a.s.er ∧
     ((cbF X k).next a 0).s.la2 =
     pushG_54 (ofRow (X.getD (Int.ofNat a.i).toNat [])) a.s.cl a.s.en a.s.mo
     a.s.la0 a.s.la1 a.s.la2 a.s.er ∧
     ((cbF X k).next a 0).s.er =
     pushG_55 (ofRow (X.getD (Int.ofNat a.i).toNat [])) (nrm a.s.l) (nrm a.s.y)
     a.s.a0 a.s.a1 a.s.tr a.s.op a.s.cl a.s.en a.s.mo a.s.la0 a.s.la1 a.s.la2
     a.s.er a.s.C ∧
     ((cbF X k).next a 0).s.C =
     pushG_56 (ofRow (X.getD (Int.ofNat a.i).toNat [])) (nrm a.s.l) (nrm a.s.y)
     a.s.a0 a.s.a1 a.s.tr a.s.op a.s.cl a.s.en a.s.mo a.s.la0 a.s.la1 a.s.la2
     a.s.er a.s.C ∧
     ((cbF X k).next a 0).R = a.R ++ cb_s1 X a ∧
     ((cbF X k).next a 0).ES =
     a.ES ++
     [[pushG_0 (ofRow (X.getD (Int.ofNat a.i).toNat [])) (nrm a.s.l)
     (nrm a.s.y) a.s.a0 a.s.a1 a.s.tr a.s.op a.s.cl a.s.en a.s.mo
     a.s.la0 a.s.la1 a.s.la2 a.s.er a.s.C]],
    decide (Int.ofNat a.i < Int.ofNat X.length) = false →
     xi ((cbF X k).fin a).s.l 0 = xi a.s.l 0 ∧
     xi ((cbF X k).fin a).s.l 1 = xi a.s.l 1 ∧
     xi ((cbF X k).fin a).s.l 2 = xi a.s.l 2 ∧
     xi ((cbF X k).fin a).s.l 3 = xi a.s.l 3 ∧
     xi ((cbF X k).fin a).s.l 4 = xi a.s.l 4 ∧
     xi ((cbF X k).fin a).s.l 5 = xi a.s.l 5 ∧
     xi ((cbF X k).fin a).s.l 6 = xi a.s.l 6 ∧
     xi ((cbF X k).fin a).s.l 7 = xi a.s.l 7 ∧
     xi ((cbF X k).fin a).s.l 8 = xi a.s.l 8 ∧
     xi ((cbF X k).fin a).s.l 9 = xi a.s.l 9 ∧
     xi ((cbF X k).fin a).s.l 10 = xi a.s.l 10 ∧
     xi ((cbF X k).fin a).s.l 11 = xi a.s.l 11 ∧
     xi ((cbF X k).fin a).s.l 12 = xi a.s.l 12 ∧
     xb ((cbF X k).fin a).s.l 13 = xb a.s.l 13 ∧
     xi ((cbF X k).fin a).s.l 14 = xi a.s.l 14 ∧
     xb ((cbF X k).fin a).s.l 15 = xb a.s.l 15 ∧
     xi ((cbF X k).fin a).s.l 16 = xi a.s.l 16 ∧
     xi ((cbF X k).fin a).s.l 17 = xi a.s.l 17 ∧
     xi ((cbF X k).fin a).s.l 18 = xi a.s.l 18 ∧
     xi ((cbF X k).fin a).s.l 19 = xi a.s.l 19 ∧
     xi ((cbF X k).fin a).s.l 20 = xi a.s.l 20 ∧
     xb ((cbF X k).fin a).s.l 21 = xb a.s.l 21 ∧
     xi ((cbF X k).fin a).s.y 0 = xi a.s.y 0 ∧
     xi ((cbF X k).fin a).s.y 1 = xi a.s.y 1 ∧
     xi ((cbF X k).fin a).s.y 2 = xi a.s.y 2 ∧
     xi ((cbF X k).fin a).s.y 3 = xi a.s.y 3 ∧
     xi ((cbF X k).fin a).s.y 4 = xi a.s.y 4 ∧
     xi ((cbF X k).fin a).s.y 5 = xi a.s.y 5 ∧
     xi ((cbF X k).fin a).s.y 6 = xi a.s.y 6 ∧
     xi ((cbF X k).fin a).s.y 7 = xi a.s.y 7 ∧
     xi ((cbF X k).fin a).s.y 8 = xi a.s.y 8 ∧
     xi ((cbF X k).fin a).s.y 9 = xi a.s.y 9 ∧
     xi ((cbF X k).fin a).s.y 10 = xi a.s.y 10 ∧
     xi ((cbF X k).fin a).s.y 11 = xi a.s.y 11 ∧
     xi ((cbF X k).fin a).s.y 12 = xi a.s.y 12 ∧
     xb ((cbF X k).fin a).s.y 13 = xb a.s.y 13 ∧
     xi ((cbF X k).fin a).s.y 14 = xi a.s.y 14 ∧
     xb ((cbF X k).fin a).s.y 15 = xb a.s.y 15 ∧
     xi ((cbF X k).fin a).s.y 16 = xi a.s.y 16 ∧
     xi ((cbF X k).fin a).s.y 17 = xi a.s.y 17 ∧
     xi ((cbF X k).fin a).s.y 18 = xi a.s.y 18 ∧
     xi ((cbF X k).fin a).s.y 19 = xi a.s.y 19 ∧
     xi ((cbF X k).fin a).s.y 20 = xi a.s.y 20 ∧
     xb ((cbF X k).fin a).s.y 21 = xb a.s.y 21 ∧
     ((cbF X k).fin a).s.a0 = a.s.a0 ∧
     ((cbF X k).fin a).s.a1 = a.s.a1 ∧
     ((cbF X k).fin a).s.tr = a.s.tr ∧
     ((cbF X k).fin a).s.op = a.s.op ∧
     ((cbF X k).fin a).s.cl = a.s.cl ∧
     ((cbF X k).fin a).s.en = a.s.en ∧
     ((cbF X k).fin a).s.mo = a.s.mo ∧
     ((cbF X k).fin a).s.la0 = a.s.la0 ∧
     ((cbF X k).fin a).s.la1 = a.s.la1 ∧
     ((cbF X k).fin a).s.la2 = a.s.la2 ∧
     ((cbF X k).fin a).s.er = a.s.er ∧
     ((cbF X k).fin a).s.C = a.s.C ∧
     ((cbF X k).fin a).R = a.R ∧ ((cbF X k).fin a).ES = a.ES]
theorem cb_round (X : List (List Int)) (k : Int) (a : BS) (hNeeds : ∀ pN ∈ (cb_needs X k a), pN) : RoundOk (roundC (cbF X k) (bodyOf Try.prog (sums K_copyG) L_ca 7 1) 3900 a) :=
  RoundOk.of (ps := (cb_needs X k a)) (by kernel_rfl) (by kernel_rfl) hNeeds
theorem pushG1 (x : List GC) (s : St) : pushG_1 x (nrm s.l) (nrm s.y) s.a0 s.a1 s.tr s.op s.cl s.en s.mo s.la0 s.la1 s.la2 s.er s.C = pushO x s := by
  unfold pushO pushG_1 push_1
  cases s.er == 0
  · show [] = settled_45 s.er []
    unfold settled_45
    cases s.er != 0 <;> rfl
  · kernel_rfl
theorem pushG0 (x : List GC) (s : St) : pushG_0 x (nrm s.l) (nrm s.y) s.a0 s.a1 s.tr s.op s.cl s.en s.mo s.la0 s.la1 s.la2 s.er s.C = pushE x s := by
  kernel_rfl
theorem bN_step {X : List (List Int)} {a : BS} (h : a.i < X.length) : bN X (X.length - a.i) a = bN X (X.length - (a.i + 1)) (bA X a) := by
  have e : X.length - a.i = (X.length - (a.i + 1)) + 1 := by omega
  rw [e]; rfl
theorem cb_rounds (X : List (List Int)) (k : Int) : RoundsOk (cbF X k) (bodyOf Try.prog (sums K_copyG) L_ca 7 1) 3900 := by
  intro a hJ
  obtain ⟨h1, h2, h3, h4, h5⟩ : a.i ≤ X.length ∧ X.length ≤ 1000 ∧ a.s.C.length ≤ 8 ∧ a.R.length ≤ 11 * a.i ∧ a.ES.length ≤ a.i := hJ
  have hc := pushS_C (ofRow (X.getD a.i [])) a.s h3
  have ho := pushO_len (ofRow (X.getD a.i [])) a.s h3
  have e6 : IntKind.i64.wrap (Int.ofNat a.i + 1) = Int.ofNat (a.i + 1) := wrI (by simp; omega) (by simp; omega)
  refine cb_round X k a ?_
  unfold cb_needs
  simp only [List.forall_mem_cons, List.not_mem_nil, false_implies, implies_true, and_true]
  have lt : cb_s0 X a → a.i < X.length := fun h => by unfold cb_s0 at h; simp at h; omega
  have hR : (a.R ++ pushO (ofRow (X.getD a.i [])) a.s).length ≤ 11 * (a.i + 1) := by rw [List.length_append]; omega
  have hE : (a.ES ++ [[pushE (ofRow (X.getD a.i [])) a.s]]).length ≤ a.i + 1 := by rw [List.length_append]; simp; omega
  have e1 : cb_s1 X a = pushO (ofRow (X.getD a.i [])) a.s := pushG1 _ _
  have e0 := pushG0 (ofRow (X.getD (Int.ofNat a.i).toNat [])) a.s
  rw [e0, e1]
  refine ⟨fun h => ⟨by simp, lt h, lt h, by omega, by omega, by omega, by omega, by omega⟩, fun h => ⟨⟨?_, h2, hc, hR, hE⟩, ?_, ?_, e6.symm, ?_⟩, fun h => ?_⟩
  · have := lt h
    show a.i + 1 ≤ _; omega
  · have := lt h
    show X.length - (a.i + 1) < X.length - a.i; omega
  · show bN X (X.length - (a.i + 1)) _ = bN X (X.length - a.i) a
    rw [bN_step (lt h)]; rfl
  · repeat' first | refine ⟨by kernel_rfl, ?_⟩ | kernel_rfl | exact trivial | refine ⟨trivial, ?_⟩
  · have hi : a.i = X.length := by simp at h; omega
    have e : (cbF X k).fin a = a := by
      show bN X (X.length - a.i) a = _
      rw [hi, Nat.sub_self]; rfl
    rw [e]
    repeat' first | refine ⟨by kernel_rfl, ?_⟩ | kernel_rfl | exact trivial | refine ⟨trivial, ?_⟩
noncomputable def cbLp : LoopS := fun env mem m => match SX.look env 6, SX.look mem 2203 with
  | some ⟨_, _, _, .one (.int _ k)⟩, some (.row _ _ _ (.lst _ _ X)) => famS (cbF X k.val) 3900 (fun _ _ => some ⟨k.val.toNat, cpS X k.val, [], []⟩) env mem m
  | _, _ => none
noncomputable def L_cb : FuncId → Nat → Option LoopS := addL L_ca 7 18 cbLp
theorem known_cbL : Known Try.prog (sums K_copyG) L_cb := by
  refine known_addL 1 known_caL (by kernel_rfl) (codeOk_of fun env mem m x h => ?_)
  unfold cbLp at h
  have hlen : (loopList Try.prog 7).length = 3 := by kernel_rfl
  split at h
  · exact ⟨_, fam_ok (bodyOf_ok plainN known_caL (by omega)) (cb_rounds _ _), h⟩
  · cases h
end Go.Proofs.Ytmbfbhimdkjkoaa
namespace Go.Proofs.Ytmbfbhimdkjkoaa
open Go.SX Go.RowKit
structure CcS where
  i : Nat
  s : St
  Q : List (List Int)
structure CcT where
  bad : Bool
  s : St
  Q : List (List Int)
/-- What the original has made of the rest. -/
noncomputable def bT (X : List (List Int)) (k : Int) : BS := (cbF X k).fin ⟨k.toNat, cpS X k, [], []⟩
noncomputable def ccA (X : List (List Int)) (a : CcS) : CcS := ⟨a.i + 1, pushS (ofRow (X.getD a.i [])) a.s, a.Q ++ pushO (ofRow (X.getD a.i [])) a.s⟩
noncomputable def ccB (X : List (List Int)) (k : Int) (a : CcS) : Bool := pushE (ofRow (X.getD a.i [])) a.s != ((bT X k).ES.getD (a.i - k.toNat) []).getD 0 0
noncomputable def ccN (X : List (List Int)) (k : Int) : Nat → CcS → CcT
  | 0, a => ⟨false, a.s, a.Q⟩
  | n + 1, a => bif ccB X k a then ⟨true, a.s, a.Q⟩ else ccN X k n (ccA X a)
noncomputable def ccG (k : Nat) : Nat := 1000000100 + k
noncomputable def ccH (k : Nat) : Nat := 4900 + k
noncomputable def ccF (X : List (List Int)) (k : Int) : Fam CcS CcT where
  k := 600
  E a := [(16, ent 1000000000 (.one (I (Int.ofNat a.i)))), (15, ent 1000000001 (.one (.wh 4801))), (11, ent 3901 (.one (.wh 4201))), (10, ent 3902 (.one (.wh 4202))), (9, ent 3721 (.one (.ptr 3588 0))), (7, ent 2296 (.one (.ptr 2232 0))), (6, ent 2229 (.one (I k))), (5, ent 2209 (.one (.wh 2203)))]
  M a := [(2232, .blk 66 (nCells cbH (bT X k).s 4203)), rowI 4203 4210 (bT X k).s.C, (3588, .blk 66 (nCells ccG a.s 4802)), rowI 4802 1000000200 a.s.C, rowI 4202 4211 (bT X k).R, (4201, .row false 33 1 (.lst 4212 [.int .i64] (bT X k).ES)), rowI 4801 1000000201 a.Q, rowI 2203 2205 X]
  out t := .ite t.bad (.leaf .ret [(4, ent 4504 (.one (.bool (.c false))))] []) (.leaf (.exit 4) [(15, ent 4506 (.one (.wh 4801))), (11, ent 3901 (.one (.wh 4201))), (10, ent 3902 (.one (.wh 4202))), (9, ent 3721 (.one (.ptr 3588 0))), (7, ent 2296 (.one (.ptr 2232 0))), (6, ent 2229 (.one (I k))), (5, ent 2209 (.one (.wh 2203)))] [(2232, .blk 66 (nCells cbH (bT X k).s 4203)), rowI 4203 4210 (bT X k).s.C, (3588, .blk 66 (nCells ccH t.s 4802)), rowI 4802 4810 t.s.C, rowI 4202 4211 (bT X k).R, (4201, .row false 33 1 (.lst 4212 [.int .i64] (bT X k).ES)), rowI 4801 4811 t.Q, rowI 2203 2205 X])
  fin a := ccN X k (X.length - a.i) a
  next a _ := ccA X a
  J a := 0 ≤ k ∧ k.toNat ≤ a.i ∧ a.i ≤ X.length ∧ X.length ≤ 1000 ∧ a.s.C.length ≤ 8 ∧ a.Q.length ≤ 11 * a.i ∧ (bT X k).ES.length = X.length - k.toNat
  μ a := X.length - a.i
noncomputable def cc_s0 (X : List (List Int)) (a : CcS) : Prop :=
  decide (Int.ofNat a.i < Int.ofNat X.length) = true
noncomputable def cc_s1 (X : List (List Int)) (a : CcS) : List (List Int) :=
  pushG_1 (ofRow (X.getD (Int.ofNat a.i).toNat [])) (nrm a.s.l) (nrm a.s.y) a.s.a0 a.s.a1 a.s.tr a.s.op a.s.cl a.s.en a.s.mo a.s.la0 a.s.la1 a.s.la2 a.s.er a.s.C
noncomputable def cc_s2 (X : List (List Int)) (k : Int) (a : CcS) : Prop :=
  (IntKind.i64.wrap (Int.ofNat a.i - k)).toNat < (bT X k).ES.length
noncomputable def cc_needs (X : List (List Int)) (k : Int) (a : CcS) : List Prop :=
  [cc_s0 X a →
     0 ≤ Int.ofNat a.i ∧
     (Int.ofNat a.i).toNat < X.length ∧
     (Int.ofNat a.i).toNat < X.length ∧
     a.s.C.length ≤ 1000 ∧
     (a.Q.length + (cc_s1 X a).length) * 176 ≤ 140737488355328 ∧ a.Q.length + (cc_s1 X a).length ≤ 9223372036854775807 ∧ 0 ≤ IntKind.i64.wrap (Int.ofNat a.i - k) ∧ cc_s2 X k a ∧ cc_s2 X k a,
    cc_s0 X a →
     ((pushG_0 (ofRow (X.getD (Int.ofNat a.i).toNat [])) (nrm a.s.l) (nrm a.s.y) a.s.a0 a.s.a1 a.s.tr a.s.op a.s.cl a.s.en a.s.mo a.s.la0 a.s.la1 a.s.la2 a.s.er a.s.C !=
     ((bT X k).ES.getD (IntKind.i64.wrap (Int.ofNat a.i - k)).toNat []).getD 0 0) =
     true →
     ((ccF X k).fin a).bad = false → False) ∧
     ((pushG_0 (ofRow (X.getD (Int.ofNat a.i).toNat [])) (nrm a.s.l) (nrm a.s.y) a.s.a0 a.s.a1 a.s.tr a.s.op a.s.cl a.s.en a.s.mo a.s.la0 a.s.la1 a.s.la2 a.s.er a.s.C !=
     ((bT X k).ES.getD (IntKind.i64.wrap (Int.ofNat a.i - k)).toNat []).getD 0 0) =
     false →
     (0 ≤ k ∧
     k.toNat ≤ ((ccF X k).next a 1).i ∧
     ((ccF X k).next a 1).i ≤ X.length ∧
     X.length ≤ 1000 ∧ ((ccF X k).next a 1).s.C.length ≤ 8 ∧ ((ccF X k).next a 1).Q.length ≤ 11 * ((ccF X k).next a 1).i ∧ (bT X k).ES.length = X.length - k.toNat) ∧
     (ccF X k).μ ((ccF X k).next a 1) < (ccF X k).μ a ∧
     (ccF X k).fin ((ccF X k).next a 1) = (ccF X k).fin a ∧
     Int.ofNat ((ccF X k).next a 1).i = IntKind.i64.wrap (Int.ofNat a.i + 1) ∧
     xi ((ccF X k).next a 1).s.l 0 =
     pushG_2 (ofRow (X.getD (Int.ofNat a.i).toNat [])) (nrm a.s.l) (nrm a.s.y) a.s.a0 a.s.a1 a.s.tr a.s.op a.s.cl a.s.en a.s.mo a.s.la0 a.s.la1 a.s.la2 a.s.er ∧
     xi ((ccF X k).next a 1).s.l 1 =
     pushG_3 (ofRow (X.getD (Int.ofNat a.i).toNat [])) (nrm a.s.l) (nrm a.s.y) a.s.a0 a.s.a1 a.s.tr a.s.op a.s.cl a.s.en a.s.mo a.s.la0 a.s.la1 a.s.la2 a.s.er ∧
     xi ((ccF X k).next a 1).s.l 2 =
     pushG_4 (ofRow (X.getD (Int.ofNat a.i).toNat [])) (nrm a.s.l) (nrm a.s.y) a.s.a0 a.s.a1 a.s.tr a.s.op a.s.cl a.s.en a.s.mo a.s.la0 a.s.la1 a.s.la2 a.s.er ∧
     xi ((ccF X k).next a 1).s.l 3 =
     pushG_5 (ofRow (X.getD (Int.ofNat a.i).toNat [])) (nrm a.s.l) (nrm a.s.y) a.s.a0 a.s.a1 a.s.tr a.s.op a.s.cl a.s.en a.s.mo a.s.la0 a.s.la1 a.s.la2 a.s.er ∧
     xi ((ccF X k).next a 1).s.l 4 =
     pushG_6 (ofRow (X.getD (Int.ofNat a.i).toNat [])) (nrm a.s.l) (nrm a.s.y) a.s.a0 a.s.a1 a.s.tr a.s.op a.s.cl a.s.en a.s.mo a.s.la0 a.s.la1 a.s.la2 a.s.er ∧
     xi ((ccF X k).next a 1).s.l 5 =
     pushG_7 (ofRow (X.getD (Int.ofNat a.i).toNat [])) (nrm a.s.l) (nrm a.s.y) a.s.a0 a.s.a1 a.s.tr a.s.op a.s.cl a.s.en a.s.mo a.s.la0 a.s.la1 a.s.la2 a.s.er ∧
     xi ((ccF X k).next a 1).s.l 6 =
     pushG_8 (ofRow (X.getD (Int.ofNat a.i).toNat [])) (nrm a.s.l) (nrm a.s.y) a.s.a0 a.s.a1 a.s.tr a.s.op a.s.cl a.s.en a.s.mo a.s.la0 a.s.la1 a.s.la2 a.s.er ∧
     xi ((ccF X k).next a 1).s.l 7 =
     pushG_9 (ofRow (X.getD (Int.ofNat a.i).toNat [])) (nrm a.s.l) (nrm a.s.y) a.s.a0 a.s.a1 a.s.tr a.s.op a.s.cl a.s.en a.s.mo a.s.la0 a.s.la1 a.s.la2 a.s.er ∧
     xi ((ccF X k).next a 1).s.l 8 =
     pushG_10 (ofRow (X.getD (Int.ofNat a.i).toNat [])) (nrm a.s.l) (nrm a.s.y) a.s.a0 a.s.a1 a.s.tr a.s.op a.s.cl a.s.en a.s.mo a.s.la0 a.s.la1 a.s.la2 a.s.er ∧
     xi ((ccF X k).next a 1).s.l 9 =
     pushG_11 (ofRow (X.getD (Int.ofNat a.i).toNat [])) (nrm a.s.l) (nrm a.s.y) a.s.a0 a.s.a1 a.s.tr a.s.op a.s.cl a.s.en a.s.mo a.s.la0 a.s.la1 a.s.la2 a.s.er ∧
     xi ((ccF X k).next a 1).s.l 10 =
     pushG_12 (ofRow (X.getD (Int.ofNat a.i).toNat [])) (nrm a.s.l) (nrm a.s.y) a.s.a0 a.s.a1 a.s.tr a.s.op a.s.cl a.s.en a.s.mo a.s.la0 a.s.la1 a.s.la2 a.s.er ∧
     xi ((ccF X k).next a 1).s.l 11 =
     pushG_13 (ofRow (X.getD (Int.ofNat a.i).toNat [])) (nrm a.s.l) (nrm a.s.y) a.s.a0 a.s.a1 a.s.tr a.s.op a.s.cl a.s.en a.s.mo a.s.la0 a.s.la1 a.s.la2 a.s.er ∧
     xi ((ccF X k).next a 1).s.l 12 =
     pushG_14 (ofRow (X.getD (Int.ofNat a.i).toNat [])) (nrm a.s.l) (nrm a.s.y) a.s.a0 a.s.a1 a.s.tr a.s.op a.s.cl a.s.en a.s.mo a.s.la0 a.s.la1 a.s.la2 a.s.er ∧
     xb ((ccF X k).next a 1).s.l 13 =
     pushG_15 (ofRow (X.getD (Int.ofNat a.i).toNat [])) (nrm a.s.l) (nrm a.s.y) a.s.a0 a.s.a1 a.s.tr a.s.op a.s.cl a.s.en a.s.mo a.s.la0 a.s.la1 a.s.la2
     a.s.er ∧
     xi ((ccF X k).next a 1).s.l 14 =
     pushG_16 (ofRow (X.getD (Int.ofNat a.i).toNat [])) (nrm a.s.l) (nrm a.s.y) a.s.a0 a.s.a1 a.s.tr a.s.op a.s.cl a.s.en a.s.mo a.s.la0 a.s.la1 a.s.la2
     a.s.er ∧
     xb ((ccF X k).next a 1).s.l 15 =
     pushG_17 (ofRow (X.getD (Int.ofNat a.i).toNat [])) (nrm a.s.l) (nrm a.s.y) a.s.a0 a.s.a1 a.s.tr a.s.op a.s.cl a.s.en a.s.mo a.s.la0 a.s.la1 a.s.la2
     a.s.er ∧
     xi ((ccF X k).next a 1).s.l 16 =
     pushG_18 (ofRow (X.getD (Int.ofNat a.i).toNat [])) (nrm a.s.l) (nrm a.s.y) a.s.a0 a.s.a1 a.s.tr a.s.op a.s.cl a.s.en a.s.mo a.s.la0 a.s.la1 a.s.la2
     a.s.er ∧
     xi ((ccF X k).next a 1).s.l 17 =
     pushG_19 (ofRow (X.getD (Int.ofNat a.i).toNat [])) (nrm a.s.l) (nrm a.s.y) a.s.a0 a.s.a1 a.s.tr a.s.op a.s.cl a.s.en a.s.mo a.s.la0 a.s.la1
     a.s.la2 a.s.er ∧
     xi ((ccF X k).next a 1).s.l 18 =
     pushG_20 (ofRow (X.getD (Int.ofNat a.i).toNat [])) (nrm a.s.l) (nrm a.s.y) a.s.a0 a.s.a1 a.s.tr a.s.op a.s.cl a.s.en a.s.mo a.s.la0 a.s.la1
     a.s.la2 a.s.er ∧
     xi ((ccF X k).next a 1).s.l 19 =
     pushG_21 (ofRow (X.getD (Int.ofNat a.i).toNat [])) (nrm a.s.l) (nrm a.s.y) a.s.a0 a.s.a1 a.s.tr a.s.op a.s.cl a.s.en a.s.mo a.s.la0 a.s.la1
     a.s.la2 a.s.er ∧
     xi ((ccF X k).next a 1).s.l 20 =
     pushG_22 (ofRow (X.getD (Int.ofNat a.i).toNat [])) (nrm a.s.l) (nrm a.s.y) a.s.a0 a.s.a1 a.s.tr a.s.op a.s.cl a.s.en a.s.mo a.s.la0 a.s.la1
     a.s.la2 a.s.er ∧
     xb ((ccF X k).next a 1).s.l 21 =
     pushG_23 (ofRow (X.getD (Int.ofNat a.i).toNat [])) (nrm a.s.l) (nrm a.s.y) a.s.a0 a.s.a1 a.s.tr a.s.op a.s.cl a.s.en a.s.mo a.s.la0
     a.s.la1 a.s.la2 a.s.er ∧
     xi ((ccF X k).next a 1).s.y 0 =
     pushG_24 (ofRow (X.getD (Int.ofNat a.i).toNat [])) (nrm a.s.l) (nrm a.s.y) a.s.a0 a.s.a1 a.s.tr a.s.op a.s.cl a.s.en a.s.mo a.s.la0
     a.s.la1 a.s.la2 a.s.er ∧
     xi ((ccF X k).next a 1).s.y 1 =
     pushG_25 (ofRow (X.getD (Int.ofNat a.i).toNat [])) (nrm a.s.l) (nrm a.s.y) a.s.a0 a.s.a1 a.s.tr a.s.op a.s.cl a.s.en a.s.mo a.s.la0
     a.s.la1 a.s.la2 a.s.er ∧
     xi ((ccF X k).next a 1).s.y 2 =
     pushG_26 (ofRow (X.getD (Int.ofNat a.i).toNat [])) (nrm a.s.l) (nrm a.s.y) a.s.a0 a.s.a1 a.s.tr a.s.op a.s.cl a.s.en a.s.mo a.s.la0
     a.s.la1 a.s.la2 a.s.er ∧
     xi ((ccF X k).next a 1).s.y 3 =
     pushG_27 (ofRow (X.getD (Int.ofNat a.i).toNat [])) (nrm a.s.l) (nrm a.s.y) a.s.a0 a.s.a1 a.s.tr a.s.op a.s.cl a.s.en a.s.mo
     a.s.la0 a.s.la1 a.s.la2 a.s.er ∧
     xi ((ccF X k).next a 1).s.y 4 =
     pushG_28 (ofRow (X.getD (Int.ofNat a.i).toNat [])) (nrm a.s.l) (nrm a.s.y) a.s.a0 a.s.a1 a.s.tr a.s.op a.s.cl a.s.en a.s.mo
     a.s.la0 a.s.la1 a.s.la2 a.s.er ∧
     xi ((ccF X k).next a 1).s.y 5 =
     pushG_29 (ofRow (X.getD (Int.ofNat a.i).toNat [])) (nrm a.s.l) (nrm a.s.y) a.s.a0 a.s.a1 a.s.tr a.s.op a.s.cl a.s.en a.s.mo
     a.s.la0 a.s.la1 a.s.la2 a.s.er ∧
     xi ((ccF X k).next a 1).s.y 6 =
     pushG_30 (ofRow (X.getD (Int.ofNat a.i).toNat [])) (nrm a.s.l) (nrm a.s.y) a.s.a0 a.s.a1 a.s.tr a.s.op a.s.cl a.s.en a.s.mo
     a.s.la0 a.s.la1 a.s.la2 a.s.er ∧
     xi ((ccF X k).next a 1).s.y 7 =
     pushG_31 (ofRow (X.getD (Int.ofNat a.i).toNat [])) (nrm a.s.l) (nrm a.s.y) a.s.a0 a.s.a1 a.s.tr a.s.op a.s.cl a.s.en
     a.s.mo a.s.la0 a.s.la1 a.s.la2 a.s.er ∧
     xi ((ccF X k).next a 1).s.y 8 =
     pushG_32 (ofRow (X.getD (Int.ofNat a.i).toNat [])) (nrm a.s.l) (nrm a.s.y) a.s.a0 a.s.a1 a.s.tr a.s.op a.s.cl a.s.en
     a.s.mo a.s.la0 a.s.la1 a.s.la2 a.s.er ∧
     xi ((ccF X k).next a 1).s.y 9 =
     pushG_33 (ofRow (X.getD (Int.ofNat a.i).toNat [])) (nrm a.s.l) (nrm a.s.y) a.s.a0 a.s.a1 a.s.tr a.s.op a.s.cl a.s.en
     a.s.mo a.s.la0 a.s.la1 a.s.la2 a.s.er ∧
     xi ((ccF X k).next a 1).s.y 10 =
     pushG_34 (ofRow (X.getD (Int.ofNat a.i).toNat [])) (nrm a.s.l) (nrm a.s.y) a.s.a0 a.s.a1 a.s.tr a.s.op a.s.cl a.s.en
     a.s.mo a.s.la0 a.s.la1 a.s.la2 a.s.er ∧
     xi ((ccF X k).next a 1).s.y 11 =
     pushG_35 (ofRow (X.getD (Int.ofNat a.i).toNat [])) (nrm a.s.l) (nrm a.s.y) a.s.a0 a.s.a1 a.s.tr a.s.op a.s.cl
     a.s.en a.s.mo a.s.la0 a.s.la1 a.s.la2 a.s.er ∧
     xi ((ccF X k).next a 1).s.y 12 =
     pushG_36 (ofRow (X.getD (Int.ofNat a.i).toNat [])) (nrm a.s.l) (nrm a.s.y) a.s.a0 a.s.a1 a.s.tr a.s.op a.s.cl
     a.s.en a.s.mo a.s.la0 a.s.la1 a.s.la2 a.s.er ∧
     xb ((ccF X k).next a 1).s.y 13 =
     pushG_37 (ofRow (X.getD (Int.ofNat a.i).toNat [])) (nrm a.s.l) (nrm a.s.y) a.s.a0 a.s.a1 a.s.tr a.s.op a.s.cl
     a.s.en a.s.mo a.s.la0 a.s.la1 a.s.la2 a.s.er ∧
     xi ((ccF X k).next a 1).s.y 14 =
     pushG_38 (ofRow (X.getD (Int.ofNat a.i).toNat [])) (nrm a.s.l) (nrm a.s.y) a.s.a0 a.s.a1 a.s.tr a.s.op
     a.s.cl a.s.en a.s.mo a.s.la0 a.s.la1 a.s.la2 a.s.er ∧
     xb ((ccF X k).next a 1).s.y 15 =
     pushG_39 (ofRow (X.getD (Int.ofNat a.i).toNat [])) (nrm a.s.l) (nrm a.s.y) a.s.a0 a.s.a1 a.s.tr a.s.op
     a.s.cl a.s.en a.s.mo a.s.la0 a.s.la1 a.s.la2 a.s.er ∧
     xi ((ccF X k).next a 1).s.y 16 =
     pushG_40 (ofRow (X.getD (Int.ofNat a.i).toNat [])) (nrm a.s.l) (nrm a.s.y) a.s.a0 a.s.a1 a.s.tr a.s.op
     a.s.cl a.s.en a.s.mo a.s.la0 a.s.la1 a.s.la2 a.s.er ∧
     xi ((ccF X k).next a 1).s.y 17 =
     pushG_41 (ofRow (X.getD (Int.ofNat a.i).toNat [])) (nrm a.s.l) (nrm a.s.y) a.s.a0 a.s.a1 a.s.tr a.s.op
     a.s.cl a.s.en a.s.mo a.s.la0 a.s.la1 a.s.la2 a.s.er ∧
     xi ((ccF X k).next a 1).s.y 18 =
     pushG_42 (ofRow (X.getD (Int.ofNat a.i).toNat [])) (nrm a.s.l) (nrm a.s.y) a.s.a0 a.s.a1 a.s.tr
     a.s.op a.s.cl a.s.en a.s.mo a.s.la0 a.s.la1 a.s.la2 a.s.er ∧
     xi ((ccF X k).next a 1).s.y 19 =
     pushG_43 (ofRow (X.getD (Int.ofNat a.i).toNat [])) (nrm a.s.l) (nrm a.s.y) a.s.a0 a.s.a1 a.s.tr
     a.s.op a.s.cl a.s.en a.s.mo a.s.la0 a.s.la1 a.s.la2 a.s.er ∧
     xi ((ccF X k).next a 1).s.y 20 =
     pushG_44 (ofRow (X.getD (Int.ofNat a.i).toNat [])) (nrm a.s.l) (nrm a.s.y) a.s.a0 a.s.a1 a.s.tr
     a.s.op a.s.cl a.s.en a.s.mo a.s.la0 a.s.la1 a.s.la2 a.s.er ∧
     xb ((ccF X k).next a 1).s.y 21 =
     pushG_45 (ofRow (X.getD (Int.ofNat a.i).toNat [])) (nrm a.s.l) (nrm a.s.y) a.s.a0 a.s.a1
     a.s.tr a.s.op a.s.cl a.s.en a.s.mo a.s.la0 a.s.la1 a.s.la2 a.s.er ∧
     ((ccF X k).next a 1).s.a0 =
     pushG_46 (ofRow (X.getD (Int.ofNat a.i).toNat [])) (nrm a.s.l) (nrm a.s.y) a.s.a0 a.s.a1
     a.s.tr a.s.op a.s.cl a.s.en a.s.mo a.s.la0 a.s.la1 a.s.la2 a.s.er ∧
     ((ccF X k).next a 1).s.a1 =
     pushG_47 (ofRow (X.getD (Int.ofNat a.i).toNat [])) (nrm a.s.l) (nrm a.s.y) a.s.a0 a.s.a1
     a.s.tr a.s.op a.s.cl a.s.en a.s.mo a.s.la0 a.s.la1 a.s.la2 a.s.er ∧
     ((ccF X k).next a 1).s.tr =
     pushG_48 (ofRow (X.getD (Int.ofNat a.i).toNat [])) (nrm a.s.l) (nrm a.s.y) a.s.a0 a.s.a1
     a.s.tr a.s.op a.s.cl a.s.en a.s.mo a.s.la0 a.s.la1 a.s.la2 a.s.er ∧
     ((ccF X k).next a 1).s.op =
     pushG_49 (ofRow (X.getD (Int.ofNat a.i).toNat [])) (nrm a.s.l) (nrm a.s.y) a.s.a0
     a.s.a1 a.s.tr a.s.op a.s.cl a.s.en a.s.mo a.s.la0 a.s.la1 a.s.la2 a.s.er ∧
     ((ccF X k).next a 1).s.cl = a.s.cl ∧
     ((ccF X k).next a 1).s.en =
     pushG_50 (ofRow (X.getD (Int.ofNat a.i).toNat [])) a.s.cl a.s.en a.s.mo a.s.la0
     a.s.la1 a.s.la2 a.s.er ∧
     ((ccF X k).next a 1).s.mo =
     pushG_51 (ofRow (X.getD (Int.ofNat a.i).toNat [])) a.s.cl a.s.en a.s.mo a.s.la0
     a.s.la1 a.s.la2 a.s.er ∧
     ((ccF X k).next a 1).s.la0 =
     pushG_52 (ofRow (X.getD (Int.ofNat a.i).toNat [])) a.s.cl a.s.en a.s.mo
     a.s.la0 a.s.la1 a.s.la2 a.s.er ∧
     ((ccF X k).next a 1).s.la1 =
     pushG_53 (ofRow (X.getD (Int.ofNat a.i).toNat [])) a.s.cl a.s.en a.s.mo
     a.s.la0 a.s.la1 a.s.la2 a.s.er ∧
     ((ccF X k).next a 1).s.la2 =
     pushG_54 (ofRow (X.getD (Int.ofNat a.i).toNat [])) a.s.cl a.s.en a.s.mo
     a.s.la0 a.s.la1 a.s.la2 a.s.er ∧
     ((ccF X k).next a 1).s.er =
     pushG_55 (ofRow (X.getD (Int.ofNat a.i).toNat [])) (nrm a.s.l)
     (nrm a.s.y) a.s.a0 a.s.a1 a.s.tr a.s.op a.s.cl a.s.en a.s.mo a.s.la0
     a.s.la1 a.s.la2 a.s.er a.s.C ∧
     ((ccF X k).next a 1).s.C =
     pushG_56 (ofRow (X.getD (Int.ofNat a.i).toNat [])) (nrm a.s.l)
     (nrm a.s.y) a.s.a0 a.s.a1 a.s.tr a.s.op a.s.cl a.s.en a.s.mo a.s.la0
     a.s.la1 a.s.la2 a.s.er a.s.C ∧
     ((ccF X k).next a 1).Q = a.Q ++ cc_s1 X a),
    decide (Int.ofNat a.i < Int.ofNat X.length) = false →
     (((ccF X k).fin a).bad = true → False) ∧
     (((ccF X k).fin a).bad = false →
     xi ((ccF X k).fin a).s.l 0 = xi a.s.l 0 ∧
     xi ((ccF X k).fin a).s.l 1 = xi a.s.l 1 ∧
     xi ((ccF X k).fin a).s.l 2 = xi a.s.l 2 ∧
     xi ((ccF X k).fin a).s.l 3 = xi a.s.l 3 ∧
     xi ((ccF X k).fin a).s.l 4 = xi a.s.l 4 ∧
     xi ((ccF X k).fin a).s.l 5 = xi a.s.l 5 ∧
     xi ((ccF X k).fin a).s.l 6 = xi a.s.l 6 ∧
     xi ((ccF X k).fin a).s.l 7 = xi a.s.l 7 ∧
     xi ((ccF X k).fin a).s.l 8 = xi a.s.l 8 ∧
     xi ((ccF X k).fin a).s.l 9 = xi a.s.l 9 ∧
     xi ((ccF X k).fin a).s.l 10 = xi a.s.l 10 ∧
     xi ((ccF X k).fin a).s.l 11 = xi a.s.l 11 ∧
     xi ((ccF X k).fin a).s.l 12 = xi a.s.l 12 ∧
     xb ((ccF X k).fin a).s.l 13 = xb a.s.l 13 ∧
     xi ((ccF X k).fin a).s.l 14 = xi a.s.l 14 ∧
     xb ((ccF X k).fin a).s.l 15 = xb a.s.l 15 ∧
     xi ((ccF X k).fin a).s.l 16 = xi a.s.l 16 ∧
     xi ((ccF X k).fin a).s.l 17 = xi a.s.l 17 ∧
     xi ((ccF X k).fin a).s.l 18 = xi a.s.l 18 ∧
     xi ((ccF X k).fin a).s.l 19 = xi a.s.l 19 ∧
     xi ((ccF X k).fin a).s.l 20 = xi a.s.l 20 ∧
     xb ((ccF X k).fin a).s.l 21 = xb a.s.l 21 ∧
     xi ((ccF X k).fin a).s.y 0 = xi a.s.y 0 ∧
     xi ((ccF X k).fin a).s.y 1 = xi a.s.y 1 ∧
     xi ((ccF X k).fin a).s.y 2 = xi a.s.y 2 ∧
     xi ((ccF X k).fin a).s.y 3 = xi a.s.y 3 ∧
     xi ((ccF X k).fin a).s.y 4 = xi a.s.y 4 ∧
     xi ((ccF X k).fin a).s.y 5 = xi a.s.y 5 ∧
     xi ((ccF X k).fin a).s.y 6 = xi a.s.y 6 ∧
     xi ((ccF X k).fin a).s.y 7 = xi a.s.y 7 ∧
     xi ((ccF X k).fin a).s.y 8 = xi a.s.y 8 ∧
     xi ((ccF X k).fin a).s.y 9 = xi a.s.y 9 ∧
     xi ((ccF X k).fin a).s.y 10 = xi a.s.y 10 ∧
     xi ((ccF X k).fin a).s.y 11 = xi a.s.y 11 ∧
     xi ((ccF X k).fin a).s.y 12 = xi a.s.y 12 ∧
     xb ((ccF X k).fin a).s.y 13 = xb a.s.y 13 ∧
     xi ((ccF X k).fin a).s.y 14 = xi a.s.y 14 ∧
     xb ((ccF X k).fin a).s.y 15 = xb a.s.y 15 ∧
     xi ((ccF X k).fin a).s.y 16 = xi a.s.y 16 ∧
     xi ((ccF X k).fin a).s.y 17 = xi a.s.y 17 ∧
     xi ((ccF X k).fin a).s.y 18 = xi a.s.y 18 ∧
     xi ((ccF X k).fin a).s.y 19 = xi a.s.y 19 ∧
     xi ((ccF X k).fin a).s.y 20 = xi a.s.y 20 ∧
     xb ((ccF X k).fin a).s.y 21 = xb a.s.y 21 ∧
     ((ccF X k).fin a).s.a0 = a.s.a0 ∧
     ((ccF X k).fin a).s.a1 = a.s.a1 ∧
     ((ccF X k).fin a).s.tr = a.s.tr ∧
     ((ccF X k).fin a).s.op = a.s.op ∧
     ((ccF X k).fin a).s.cl = a.s.cl ∧
     ((ccF X k).fin a).s.en = a.s.en ∧
     ((ccF X k).fin a).s.mo = a.s.mo ∧
     ((ccF X k).fin a).s.la0 = a.s.la0 ∧
     ((ccF X k).fin a).s.la1 = a.s.la1 ∧
     ((ccF X k).fin a).s.la2 = a.s.la2 ∧
     ((ccF X k).fin a).s.er = a.s.er ∧
     ((ccF X k).fin a).s.C = a.s.C ∧ ((ccF X k).fin a).Q = a.Q)]
theorem cc_round (X : List (List Int)) (k : Int) (a : CcS) (hNeeds : ∀ pN ∈ (cc_needs X k a), pN) : RoundOk (roundC (ccF X k) (bodyOf Try.prog (sums K_copyG) L_cb 7 2) 4503 a) :=
  RoundOk.of (ps := (cc_needs X k a)) (by kernel_rfl) (by kernel_rfl) hNeeds
theorem ccN_step {X : List (List Int)} {k : Int} {a : CcS} (h : a.i < X.length) : ccN X k (X.length - a.i) a = bif ccB X k a then ⟨true, a.s, a.Q⟩ else ccN X k (X.length - (a.i + 1)) (ccA X a) := by
  have e : X.length - a.i = (X.length - (a.i + 1)) + 1 := by omega
  rw [e]; rfl
theorem cc_rounds (X : List (List Int)) (k : Int) : RoundsOk (ccF X k) (bodyOf Try.prog (sums K_copyG) L_cb 7 2) 4503 := by
  intro a hJ
  obtain ⟨h0, hk, h1, h2, h3, h4, h5⟩ : 0 ≤ k ∧ k.toNat ≤ a.i ∧ a.i ≤ X.length ∧ X.length ≤ 1000 ∧ a.s.C.length ≤ 8 ∧ a.Q.length ≤ 11 * a.i ∧ (bT X k).ES.length = X.length - k.toNat := hJ
  have hc := pushS_C (ofRow (X.getD a.i [])) a.s h3
  have ho := pushO_len (ofRow (X.getD a.i [])) a.s h3
  have e6 : IntKind.i64.wrap (Int.ofNat a.i + 1) = Int.ofNat (a.i + 1) := wrI (by simp; omega) (by simp; omega)
  have ew : IntKind.i64.wrap (Int.ofNat a.i - k) = Int.ofNat (a.i - k.toNat) := by
    rw [wrI (by simp; omega) (by simp; omega)]
    simp; omega
  refine cc_round X k a ?_
  unfold cc_needs cc_s2
  simp only [List.forall_mem_cons, List.not_mem_nil, false_implies, implies_true, and_true]
  have lt : cc_s0 X a → a.i < X.length := fun h => by unfold cc_s0 at h; simp at h; omega
  have hQ : (a.Q ++ pushO (ofRow (X.getD a.i [])) a.s).length ≤ 11 * (a.i + 1) := by rw [List.length_append]; omega
  have e1 : cc_s1 X a = pushO (ofRow (X.getD a.i [])) a.s := pushG1 _ _
  have e0 := pushG0 (ofRow (X.getD (Int.ofNat a.i).toNat [])) a.s
  rw [e0, e1, ew]
  have idx : cc_s0 X a → (Int.ofNat (a.i - k.toNat)).toNat < (bT X k).ES.length := fun h => by
    have := lt h
    show a.i - k.toNat < _
    rw [h5]; omega
  refine ⟨fun h => ⟨by simp, lt h, lt h, by omega, by omega, by omega, Int.natCast_nonneg _, idx h, idx h⟩, fun h => ⟨fun hb hf => ?_, fun hb => ⟨⟨h0, ?_, ?_, h2, hc, hQ, h5⟩, ?_, ?_, e6.symm, ?_⟩⟩, fun h => ?_⟩
  · have hb' : ccB X k a = true := hb
    have hf' : (ccN X k (X.length - a.i) a).bad = false := hf
    rw [ccN_step (lt h), hb'] at hf'; cases hf'
  · show k.toNat ≤ a.i + 1; omega
  · have := lt h
    show a.i + 1 ≤ _; omega
  · have := lt h
    show X.length - (a.i + 1) < X.length - a.i; omega
  · have hb' : ccB X k a = false := hb
    show ccN X k (X.length - (a.i + 1)) _ = ccN X k (X.length - a.i) a
    rw [ccN_step (lt h), hb']; rfl
  · repeat' first | refine ⟨by kernel_rfl, ?_⟩ | kernel_rfl | exact trivial | refine ⟨trivial, ?_⟩
  · have hi : a.i = X.length := by simp at h; omega
    have e : (ccF X k).fin a = ⟨false, a.s, a.Q⟩ := by
      show ccN X k (X.length - a.i) a = _
      rw [hi, Nat.sub_self]; rfl
    rw [e]
    refine ⟨fun h => (by cases h), fun _ => ?_⟩
    repeat' first | refine ⟨by kernel_rfl, ?_⟩ | kernel_rfl | exact trivial | refine ⟨trivial, ?_⟩
noncomputable def ccLp : LoopS := fun env mem m => match SX.look env 6, SX.look mem 2203 with
  | some ⟨_, _, _, .one (.int _ k)⟩, some (.row _ _ _ (.lst _ _ X)) => famS (ccF X k.val) 4503 (fun _ _ => some ⟨k.val.toNat, cpS X k.val, []⟩) env mem m
  | _, _ => none
noncomputable def L_cc : FuncId → Nat → Option LoopS := addL L_cb 7 24 ccLp
theorem known_ccL : Known Try.prog (sums K_copyG) L_cc := by
  refine known_addL 2 known_cbL (by kernel_rfl) (codeOk_of fun env mem m x h => ?_)
  unfold ccLp at h
  have hlen : (loopList Try.prog 7).length = 3 := by kernel_rfl
  split at h
  · exact ⟨_, fam_ok (bodyOf_ok plainN known_cbL (by omega)) (cc_rounds _ _), h⟩
  · cases h

end Go.Proofs.Ytmbfbhimdkjkoaa
namespace Go.Proofs.Ytmbfbhimdkjkoaa
open Go.SX Go.RowKit
theorem frN_C8 (X : List (List Int)) : ∀ (k : Nat) (a : AS), a.s.C.length ≤ 8 → (frN X k a).s.C.length ≤ 8
  | 0, a, h => h
  | k + 1, a, h => frN_C8 X k _ (pushS_C _ _ h)
theorem cpS_C (X : List (List Int)) (k : Int) : (cpS X k).C.length ≤ 8 := frN_C8 _ _ _ (Nat.zero_le _)
theorem bN_ES (X : List (List Int)) : ∀ (n : Nat) (a : BS), (∃ M, (bN X n a).ES = a.ES ++ M) ∧ (bN X n a).ES.length = a.ES.length + n
  | 0, a => ⟨⟨[], (List.append_nil _).symm⟩, rfl⟩
  | n + 1, a => by
    obtain ⟨⟨M, h1⟩, h2⟩ := bN_ES X n (bA X a)
    refine ⟨⟨[[pushE (ofRow (X.getD a.i [])) a.s]] ++ M, ?_⟩, ?_⟩
    · show (bN X n (bA X a)).ES = _
      rw [h1]
      show (a.ES ++ _) ++ M = _
      rw [List.append_assoc]
    · show (bN X n (bA X a)).ES.length = _
      rw [h2]
      show (a.ES ++ [_]).length + n = _
      rw [List.length_append]
      show a.ES.length + 1 + n = _
      omega
theorem bN_R (X : List (List Int)) : ∀ (n : Nat) (a : BS), a.s.C.length ≤ 8 → (bN X n a).R.length ≤ a.R.length + 11 * n
  | 0, a, h => Nat.le_refl _
  | n + 1, a, h => by
    have h1 := bN_R X n (bA X a) (pushS_C _ _ h)
    have h2 := pushO_len (ofRow (X.getD a.i [])) a.s h
    have h3 : (bA X a).R.length = a.R.length + (pushO (ofRow (X.getD a.i [])) a.s).length := by show (a.R ++ _).length = _; rw [List.length_append]
    show (bN X n (bA X a)).R.length ≤ _
    omega
theorem getD_pre1 (pre M : List (List Int)) (m : List Int) : (pre ++ [m] ++ M).getD pre.length [] = m := by simp [List.getD]
/-- The copy goes on like the original. -/
theorem cc_bN (X : List (List Int)) (k : Int) : ∀ (n : Nat) (a : BS), bN X n a = bT X k → a.ES.length + k.toNat = a.i → ccN X k n ⟨a.i, a.s, a.R⟩ = ⟨false, (bT X k).s, (bT X k).R⟩
  | 0, a, h, he => by rw [← h]; rfl
  | n + 1, a, h, he => by
    have h' : bN X n (bA X a) = bT X k := h
    have hb : ccB X k ⟨a.i, a.s, a.R⟩ = false := by
      obtain ⟨⟨M, h1⟩, _⟩ := bN_ES X n (bA X a)
      rw [h'] at h1
      have h2 : (bT X k).ES = a.ES ++ [[pushE (ofRow (X.getD a.i [])) a.s]] ++ M := h1
      show (pushE (ofRow (X.getD a.i [])) a.s != ((bT X k).ES.getD (a.i - k.toNat) []).getD 0 0) = false
      rw [h2, show a.i - k.toNat = a.ES.length by omega, getD_pre1]
      simp
    unfold ccN
    rw [hb, cond_false]
    exact cc_bN X k n (bA X a) h' (by
      show (a.ES ++ [_]).length + k.toNat = a.i + 1
      rw [List.length_append]
      show a.ES.length + 1 + k.toNat = a.i + 1
      omega)
theorem cc_all {X : List (List Int)} {k : Int} : (ccF X k).fin ⟨k.toNat, cpS X k, []⟩ = ⟨false, (bT X k).s, (bT X k).R⟩ :=
  cc_bN X k (X.length - k.toNat) ⟨k.toNat, cpS X k, [], []⟩ rfl (by show 0 + k.toNat = k.toNat; omega)
noncomputable def lawC_tpl : Tpl := ⟨[.one (.wh 0), .one (.int .i64)], [(0, .row true 3 1 1 [.int .i64])], 2⟩
noncomputable def lawC_s0 (w : Int) (L : List (List Int)) : Int :=
  mod_0 w (IntKind.i64.wrap (Int.ofNat (contL 0 L).length + 1))
noncomputable def lawC_s1 (w : Int) (L : List (List Int)) : Int :=
  pendG_0 ((caF (contL 0 L) (lawC_s0 w L)).fin (AS.mk 0 St0 [])).s.op ((caF (contL 0 L) (lawC_s0 w L)).fin (AS.mk 0 St0 [])).s.er ((caF (contL 0 L) (lawC_s0 w L)).fin (AS.mk 0 St0 [])).s.C
noncomputable def lawC_0 (w : Int) (L : List (List Int)) : Bool :=
  bif !light_0 L then true
  else
   bif false then false
   else
   bif lawC_s1 w L != lawC_s1 w L then false
   else
   bif ((ccF (contL 0 L) (lawC_s0 w L)).fin (CcS.mk (lawC_s0 w L).toNat (cpS (contL 0 L) (lawC_s0 w L)) [])).bad then false
   else
   closeG_0 (bT (contL 0 L) (lawC_s0 w L)).s.op (bT (contL 0 L) (lawC_s0 w L)).s.cl (bT (contL 0 L) (lawC_s0 w L)).s.er ==
   closeG_0 ((ccF (contL 0 L) (lawC_s0 w L)).fin (CcS.mk (lawC_s0 w L).toNat (cpS (contL 0 L) (lawC_s0 w L)) [])).s.op
   ((ccF (contL 0 L) (lawC_s0 w L)).fin (CcS.mk (lawC_s0 w L).toNat (cpS (contL 0 L) (lawC_s0 w L)) [])).s.cl
   ((ccF (contL 0 L) (lawC_s0 w L)).fin (CcS.mk (lawC_s0 w L).toNat (cpS (contL 0 L) (lawC_s0 w L)) [])).s.er
noncomputable def lawC_s2 (L : List (List Int)) : Int :=
  IntKind.i64.wrap (Int.ofNat (contL 0 L).length + 1)
noncomputable def lawC_s3 (w : Int) (L : List (List Int)) : List (List Int) :=
  ((caF (contL 0 L) (mod_0 w (lawC_s2 L))).fin (AS.mk 0 St0 [])).s.C
noncomputable def lawC_s4 (w : Int) (L : List (List Int)) : Bool :=
  ((caF (contL 0 L) (mod_0 w (lawC_s2 L))).fin (AS.mk 0 St0 [])).s.op
noncomputable def lawC_s5 (w : Int) (L : List (List Int)) : Int :=
  ((caF (contL 0 L) (mod_0 w (lawC_s2 L))).fin (AS.mk 0 St0 [])).s.er
noncomputable def lawC_s6 (w : Int) (L : List (List Int)) : List (List Int) :=
  (BS.mk (mod_0 w (lawC_s2 L)).toNat (cpS (contL 0 L) (mod_0 w (lawC_s2 L))) [] []).s.C
noncomputable def lawC_s7 (w : Int) (L : List (List Int)) : List (List Int) :=
  (BS.mk (mod_0 w (lawC_s2 L)).toNat (cpS (contL 0 L) (mod_0 w (lawC_s2 L))) [] []).R
noncomputable def lawC_s8 (w : Int) (L : List (List Int)) : List (List Int) :=
  (BS.mk (mod_0 w (lawC_s2 L)).toNat (cpS (contL 0 L) (mod_0 w (lawC_s2 L))) [] []).ES
noncomputable def lawC_s9 (w : Int) (L : List (List Int)) : List GC :=
  (BS.mk (mod_0 w (lawC_s2 L)).toNat (cpS (contL 0 L) (mod_0 w (lawC_s2 L))) [] []).s.l
noncomputable def lawC_s10 (w : Int) (L : List (List Int)) : List GC :=
  ((caF (contL 0 L) (mod_0 w (lawC_s2 L))).fin (AS.mk 0 St0 [])).s.l
noncomputable def lawC_s11 (w : Int) (L : List (List Int)) : List GC :=
  (BS.mk (mod_0 w (lawC_s2 L)).toNat (cpS (contL 0 L) (mod_0 w (lawC_s2 L))) [] []).s.y
noncomputable def lawC_s12 (w : Int) (L : List (List Int)) : List GC :=
  ((caF (contL 0 L) (mod_0 w (lawC_s2 L))).fin (AS.mk 0 St0 [])).s.y
noncomputable def lawC_s13 (w : Int) (L : List (List Int)) : List (List Int) :=
  (CcS.mk (mod_0 w (lawC_s2 L)).toNat (cpS (contL 0 L) (mod_0 w (lawC_s2 L))) []).s.C
noncomputable def lawC_s14 (w : Int) (L : List (List Int)) : List (List Int) :=
  (CcS.mk (mod_0 w (lawC_s2 L)).toNat (cpS (contL 0 L) (mod_0 w (lawC_s2 L))) []).Q
noncomputable def lawC_s15 (w : Int) (L : List (List Int)) : List GC :=
  (CcS.mk (mod_0 w (lawC_s2 L)).toNat (cpS (contL 0 L) (mod_0 w (lawC_s2 L))) []).s.l
noncomputable def lawC_s16 (w : Int) (L : List (List Int)) : List GC :=
  (CcS.mk (mod_0 w (lawC_s2 L)).toNat (cpS (contL 0 L) (mod_0 w (lawC_s2 L))) []).s.y
noncomputable def lawC_needs (w : Int) (L : List (List Int)) : List Prop :=
  [(!light_0 L) = false →
   Int.ofNat 0 ≤ 0 ∧
   L.length ≤ 1000000 ∧
   lawC_s2 L ≠ 0 ∧
   (false = false →
   (0 ≤ mod_0 w (lawC_s2 L) ∧ 0 ≤ (mod_0 w (lawC_s2 L)).toNat ∧ (mod_0 w (lawC_s2 L)).toNat ≤ (contL 0 L).length ∧ (contL 0 L).length ≤ 1000 ∧ 0 ≤ 8) ∧
   Int.ofNat 0 = 0 ∧
   Int.ofNat 0 = 0 ∧
   Int.ofNat 0 = 0 ∧
   Int.ofNat 0 = 0 ∧
   Int.ofNat 0 = 0 ∧
   Int.ofNat 0 = 0 ∧
   Int.ofNat 0 = 0 ∧
   Int.ofNat 0 = 0 ∧
   Int.ofNat 0 = 0 ∧
   Int.ofNat 0 = 0 ∧
   Int.ofNat 0 = 0 ∧
   Int.ofNat 0 = 0 ∧
   Int.ofNat 0 = 0 ∧
   Int.ofNat 0 = 0 ∧
   false = false ∧
   Int.ofNat 0 = 0 ∧
   false = false ∧
   Int.ofNat 0 = 0 ∧
   Int.ofNat 0 = 0 ∧
   Int.ofNat 0 = 0 ∧
   Int.ofNat 0 = 0 ∧
   Int.ofNat 0 = 0 ∧
   false = false ∧
   Int.ofNat 0 = 0 ∧
   Int.ofNat 0 = 0 ∧
   Int.ofNat 0 = 0 ∧
   Int.ofNat 0 = 0 ∧
   Int.ofNat 0 = 0 ∧
   Int.ofNat 0 = 0 ∧
   Int.ofNat 0 = 0 ∧
   Int.ofNat 0 = 0 ∧
   Int.ofNat 0 = 0 ∧
   Int.ofNat 0 = 0 ∧
   Int.ofNat 0 = 0 ∧
   Int.ofNat 0 = 0 ∧
   Int.ofNat 0 = 0 ∧
   false = false ∧
   Int.ofNat 0 = 0 ∧
   false = false ∧
   Int.ofNat 0 = 0 ∧
   Int.ofNat 0 = 0 ∧
   Int.ofNat 0 = 0 ∧
   Int.ofNat 0 = 0 ∧
   Int.ofNat 0 = 0 ∧
   false = false ∧
   Int.ofNat 0 = 0 ∧
   Int.ofNat 0 = 0 ∧
   false = false ∧
   false = false ∧
   false = false ∧
   false = false ∧
   false = false ∧
   Int.ofNat 0 = 0 ∧
   Int.ofNat 0 = 0 ∧
   Int.ofNat 0 = 0 ∧
   Int.ofNat 0 = 0 ∧
   (AS.mk 0 St0 []).s.C = [] ∧
   (lawC_s3 w L).length ≤ 1000000 ∧
   ((pendG_0 (lawC_s4 w L) (lawC_s5 w L) (lawC_s3 w L) !=
   pendG_0 (lawC_s4 w L) (lawC_s5 w L) (lawC_s3 w L)) =
   false →
   ((BS.mk (mod_0 w (lawC_s2 L)).toNat
   (cpS (contL 0 L) (mod_0 w (lawC_s2 L))) [] []).i ≤
   (contL 0 L).length ∧
   (contL 0 L).length ≤ 1000 ∧
   (lawC_s6 w L).length ≤ 8 ∧
   (lawC_s7 w L).length ≤
   11 *
   (BS.mk (mod_0 w (lawC_s2 L)).toNat
   (cpS (contL 0 L) (mod_0 w (lawC_s2 L))) [] []).i ∧
   (lawC_s8 w L).length ≤
   (BS.mk (mod_0 w (lawC_s2 L)).toNat
   (cpS (contL 0 L) (mod_0 w (lawC_s2 L))) [] []).i) ∧
   Int.ofNat
   (BS.mk (mod_0 w (lawC_s2 L)).toNat
   (cpS (contL 0 L) (mod_0 w (lawC_s2 L))) [] []).i =
   mod_0 w (lawC_s2 L) ∧
   xi (lawC_s9 w L) 0 = xi (lawC_s10 w L) 0 ∧
   xi (lawC_s9 w L) 1 = xi (lawC_s10 w L) 1 ∧
   xi (lawC_s9 w L) 2 = xi (lawC_s10 w L) 2 ∧
   xi (lawC_s9 w L) 3 = xi (lawC_s10 w L) 3 ∧
   xi (lawC_s9 w L) 4 = xi (lawC_s10 w L) 4 ∧
   xi (lawC_s9 w L) 5 = xi (lawC_s10 w L) 5 ∧
   xi (lawC_s9 w L) 6 = xi (lawC_s10 w L) 6 ∧
   xi (lawC_s9 w L) 7 = xi (lawC_s10 w L) 7 ∧
   xi (lawC_s9 w L) 8 = xi (lawC_s10 w L) 8 ∧
   xi (lawC_s9 w L) 9 = xi (lawC_s10 w L) 9 ∧
   xi (lawC_s9 w L) 10 = xi (lawC_s10 w L) 10 ∧
   xi (lawC_s9 w L) 11 =
   xi (lawC_s10 w L) 11 ∧
   xi (lawC_s9 w L) 12 =
   xi (lawC_s10 w L) 12 ∧
   xb (lawC_s9 w L) 13 =
   xb (lawC_s10 w L) 13 ∧
   xi (lawC_s9 w L) 14 =
   xi (lawC_s10 w L) 14 ∧
   xb (lawC_s9 w L) 15 =
   xb (lawC_s10 w L) 15 ∧
   xi (lawC_s9 w L) 16 =
   xi (lawC_s10 w L) 16 ∧
   xi (lawC_s9 w L) 17 =
   xi (lawC_s10 w L) 17 ∧
   xi (lawC_s9 w L) 18 =
   xi (lawC_s10 w L) 18 ∧
   xi (lawC_s9 w L) 19 =
   xi (lawC_s10 w L) 19 ∧
   xi (lawC_s9 w L) 20 =
   xi (lawC_s10 w L)
   20 ∧
   xb (lawC_s9 w L) 21 =
   xb (lawC_s10 w L)
   21 ∧
   xi (lawC_s11 w L)
   0 =
   xi
   (lawC_s12 w L)
   0 ∧
   xi (lawC_s11 w L)
   1 =
   xi
   (lawC_s12 w
   L)
   1 ∧
   xi
   (lawC_s11
   w L)
   2 =
   xi
   (lawC_s12
   w L)
   2 ∧
   xi
   (lawC_s11
   w L)
   3 =
   xi
   (lawC_s12
   w L)
   3 ∧
   xi
   (lawC_s11
   w L)
   4 =
   xi
   (lawC_s12
   w L)
   4 ∧
   xi
   (lawC_s11
   w
   L)
   5 =
   xi
   (lawC_s12
   w
   L)
   5 ∧
   xi
   (lawC_s11
   w
   L)
   6 =
   xi
   (lawC_s12
   w
   L)
   6 ∧
   xi
   (lawC_s11
   w
   L)
   7 =
   xi
   (lawC_s12
   w
   L)
   7 ∧
   xi
   (lawC_s11
   w
   L)
   8 =
   xi
   (lawC_s12
   w
   L)
   8 ∧
   xi
   (lawC_s11
   w
   L)
   9 =
   xi
   (lawC_s12
   w
   L)
   9 ∧
   xi
   (lawC_s11
   w
   L)
   10 =
   xi
   (lawC_s12
   w
   L)
   10 ∧
   xi
   (lawC_s11
   w
   L)
   11 =
   xi
   (lawC_s12
   w
   L)
   11 ∧
   xi
   (lawC_s11
   w
   L)
   12 =
   xi
   (lawC_s12
   w
   L)
   12 ∧
   xb
   (lawC_s11
   w
   L)
   13 =
   xb
   (lawC_s12
   w
   L)
   13 ∧
   xi
   (lawC_s11
   w
   L)
   14 =
   xi
   (lawC_s12
   w
   L)
   14 ∧
   xb
   (lawC_s11
   w
   L)
   15 =
   xb
   (lawC_s12
   w
   L)
   15 ∧
   xi
   (lawC_s11
   w
   L)
   16 =
   xi
   (lawC_s12
   w
   L)
   16 ∧
   xi
   (lawC_s11
   w
   L)
   17 =
   xi
   (lawC_s12
   w
   L)
   17 ∧
   xi
   (lawC_s11
   w
   L)
   18 =
   xi
   (lawC_s12
   w
   L)
   18 ∧
   xi
   (lawC_s11
   w
   L)
   19 =
   xi
   (lawC_s12
   w
   L)
   19 ∧
   xi
   (lawC_s11
   w
   L)
   20 =
   xi
   (lawC_s12
   w
   L)
   20 ∧
   xb
   (lawC_s11
   w
   L)
   21 =
   xb
   (lawC_s12
   w
   L)
   21 ∧
   (BS.mk
   (mod_0
   w
   (lawC_s2
   L)).toNat
   (cpS
   (contL
   0
   L)
   (mod_0
   w
   (lawC_s2
   L)))
   []
   []).s.a0 =
   ((caF
   (contL
   0
   L)
   (mod_0
   w
   (lawC_s2
   L))).fin
   (AS.mk
   0
   St0
   [])).s.a0 ∧
   (BS.mk
   (mod_0
   w
   (lawC_s2
   L)).toNat
   (cpS
   (contL
   0
   L)
   (mod_0
   w
   (lawC_s2
   L)))
   []
   []).s.a1 =
   ((caF
   (contL
   0
   L)
   (mod_0
   w
   (lawC_s2
   L))).fin
   (AS.mk
   0
   St0
   [])).s.a1 ∧
   (BS.mk
   (mod_0
   w
   (lawC_s2
   L)).toNat
   (cpS
   (contL
   0
   L)
   (mod_0
   w
   (lawC_s2
   L)))
   []
   []).s.tr =
   ((caF
   (contL
   0
   L)
   (mod_0
   w
   (lawC_s2
   L))).fin
   (AS.mk
   0
   St0
   [])).s.tr ∧
   (BS.mk
   (mod_0
   w
   (lawC_s2
   L)).toNat
   (cpS
   (contL
   0
   L)
   (mod_0
   w
   (lawC_s2
   L)))
   []
   []).s.op =
   lawC_s4
   w
   L ∧
   (BS.mk
   (mod_0
   w
   (lawC_s2
   L)).toNat
   (cpS
   (contL
   0
   L)
   (mod_0
   w
   (lawC_s2
   L)))
   []
   []).s.cl =
   ((caF
   (contL
   0
   L)
   (mod_0
   w
   (lawC_s2
   L))).fin
   (AS.mk
   0
   St0
   [])).s.cl ∧
   (BS.mk
   (mod_0
   w
   (lawC_s2
   L)).toNat
   (cpS
   (contL
   0
   L)
   (mod_0
   w
   (lawC_s2
   L)))
   []
   []).s.en =
   ((caF
   (contL
   0
   L)
   (mod_0
   w
   (lawC_s2
   L))).fin
   (AS.mk
   0
   St0
   [])).s.en ∧
   (BS.mk
   (mod_0
   w
   (lawC_s2
   L)).toNat
   (cpS
   (contL
   0
   L)
   (mod_0
   w
   (lawC_s2
   L)))
   []
   []).s.mo =
   ((caF
   (contL
   0
   L)
   (mod_0
   w
   (lawC_s2
   L))).fin
   (AS.mk
   0
   St0
   [])).s.mo ∧
   (BS.mk
   (mod_0
   w
   (lawC_s2
   L)).toNat
   (cpS
   (contL
   0
   L)
   (mod_0
   w
   (lawC_s2
   L)))
   []
   []).s.la0 =
   ((caF
   (contL
   0
   L)
   (mod_0
   w
   (lawC_s2
   L))).fin
   (AS.mk
   0
   St0
   [])).s.la0 ∧
   (BS.mk
   (mod_0
   w
   (lawC_s2
   L)).toNat
   (cpS
   (contL
   0
   L)
   (mod_0
   w
   (lawC_s2
   L)))
   []
   []).s.la1 =
   ((caF
   (contL
   0
   L)
   (mod_0
   w
   (lawC_s2
   L))).fin
   (AS.mk
   0
   St0
   [])).s.la1 ∧
   (BS.mk
   (mod_0
   w
   (lawC_s2
   L)).toNat
   (cpS
   (contL
   0
   L)
   (mod_0
   w
   (lawC_s2
   L)))
   []
   []).s.la2 =
   ((caF
   (contL
   0
   L)
   (mod_0
   w
   (lawC_s2
   L))).fin
   (AS.mk
   0
   St0
   [])).s.la2 ∧
   (BS.mk
   (mod_0
   w
   (lawC_s2
   L)).toNat
   (cpS
   (contL
   0
   L)
   (mod_0
   w
   (lawC_s2
   L)))
   []
   []).s.er =
   lawC_s5
   w
   L ∧
   lawC_s6
   w
   L =
   lawC_s3
   w
   L ∧
   lawC_s7
   w
   L =
   [] ∧
   lawC_s8
   w
   L =
   [] ∧
   (0 ≤
   mod_0
   w
   (lawC_s2
   L) ∧
   (mod_0
   w
   (lawC_s2
   L)).toNat ≤
   (CcS.mk
   (mod_0
   w
   (lawC_s2
   L)).toNat
   (cpS
   (contL
   0
   L)
   (mod_0
   w
   (lawC_s2
   L)))
   []).i ∧
   (CcS.mk
   (mod_0
   w
   (lawC_s2
   L)).toNat
   (cpS
   (contL
   0
   L)
   (mod_0
   w
   (lawC_s2
   L)))
   []).i ≤
   (contL
   0
   L).length ∧
   (contL
   0
   L).length ≤
   1000 ∧
   (lawC_s13
   w
   L).length ≤
   8 ∧
   (lawC_s14
   w
   L).length ≤
   11 *
   (CcS.mk
   (mod_0
   w
   (lawC_s2
   L)).toNat
   (cpS
   (contL
   0
   L)
   (mod_0
   w
   (lawC_s2
   L)))
   []).i ∧
   (bT
   (contL
   0
   L)
   (mod_0
   w
   (lawC_s2
   L))).ES.length =
   (contL
   0
   L).length -
   (mod_0
   w
   (lawC_s2
   L)).toNat) ∧
   Int.ofNat
   (CcS.mk
   (mod_0
   w
   (lawC_s2
   L)).toNat
   (cpS
   (contL
   0
   L)
   (mod_0
   w
   (lawC_s2
   L)))
   []).i =
   mod_0
   w
   (lawC_s2
   L) ∧
   xi
   (lawC_s15
   w
   L)
   0 =
   xi
   (cpS
   (contL
   0
   L)
   (mod_0
   w
   (lawC_s2
   L))).l
   0 ∧
   xi
   (lawC_s15
   w
   L)
   1 =
   xi
   (cpS
   (contL
   0
   L)
   (mod_0
   w
   (lawC_s2
   L))).l
   1 ∧
   xi
   (lawC_s15
   w
   L)
   2 =
   xi
   (cpS
   (contL
   0
   L)
   (mod_0
   w
   (lawC_s2
   L))).l
   2 ∧
   xi
   (lawC_s15
   w
   L)
   3 =
   xi
   (cpS
   (contL
   0
   L)
   (mod_0
   w
   (lawC_s2
   L))).l
   3 ∧
   xi
   (lawC_s15
   w
   L)
   4 =
   xi
   (cpS
   (contL
   0
   L)
   (mod_0
   w
   (lawC_s2
   L))).l
   4 ∧
   xi
   (lawC_s15
   w
   L)
   5 =
   xi
   (cpS
   (contL
   0
   L)
   (mod_0
   w
   (lawC_s2
   L))).l
   5 ∧
   xi
   (lawC_s15
   w
   L)
   6 =
   xi
   (cpS
   (contL
   0
   L)
   (mod_0
   w
   (lawC_s2
   L))).l
   6 ∧
   xi
   (lawC_s15
   w
   L)
   7 =
   xi
   (cpS
   (contL
   0
   L)
   (mod_0
   w
   (lawC_s2
   L))).l
   7 ∧
   xi
   (lawC_s15
   w
   L)
   8 =
   xi
   (cpS
   (contL
   0
   L)
   (mod_0
   w
   (lawC_s2
   L))).l
   8 ∧
   xi
   (lawC_s15
   w
   L)
   9 =
   xi
   (cpS
   (contL
   0
   L)
   (mod_0
   w
   (lawC_s2
   L))).l
   9 ∧
   xi
   (lawC_s15
   w
   L)
   10 =
   xi
   (cpS
   (contL
   0
   L)
   (mod_0
   w
   (lawC_s2
   L))).l
   10 ∧
   xi
   (lawC_s15
   w
   L)
   11 =
   xi
   (cpS
   (contL
   0
   L)
   (mod_0
   w
   (lawC_s2
   L))).l
   11 ∧
   xi
   (lawC_s15
   w
   L)
   12 =
   xi
   (cpS
   (contL
   0
   L)
   (mod_0
   w
   (lawC_s2
   L))).l
   12 ∧
   xb
   (lawC_s15
   w
   L)
   13 =
   xb
   (cpS
   (contL
   0
   L)
   (mod_0
   w
   (lawC_s2
   L))).l
   13 ∧
   xi
   (lawC_s15
   w
   L)
   14 =
   xi
   (cpS
   (contL
   0
   L)
   (mod_0
   w
   (lawC_s2
   L))).l
   14 ∧
   xb
   (lawC_s15
   w
   L)
   15 =
   xb
   (cpS
   (contL
   0
   L)
   (mod_0
   w
   (lawC_s2
   L))).l
   15 ∧
   xi
   (lawC_s15
   w
   L)
   16 =
   xi
   (cpS
   (contL
   0
   L)
   (mod_0
   w
   (lawC_s2
   L))).l
   16 ∧
   xi
   (lawC_s15
   w
   L)
   17 =
   xi
   (cpS
   (contL
   0
   L)
   (mod_0
   w
   (lawC_s2
   L))).l
   17 ∧
   xi
   (lawC_s15
   w
   L)
   18 =
   xi
   (cpS
   (contL
   0
   L)
   (mod_0
   w
   (lawC_s2
   L))).l
   18 ∧
   xi
   (lawC_s15
   w
   L)
   19 =
   xi
   (cpS
   (contL
   0
   L)
   (mod_0
   w
   (lawC_s2
   L))).l
   19 ∧
   xi
   (lawC_s15
   w
   L)
   20 =
   xi
   (cpS
   (contL
   0
   L)
   (mod_0
   w
   (lawC_s2
   L))).l
   20 ∧
   xb
   (lawC_s15
   w
   L)
   21 =
   xb
   (cpS
   (contL
   0
   L)
   (mod_0
   w
   (lawC_s2
   L))).l
   21 ∧
   xi
   (lawC_s16
   w
   L)
   0 =
   xi
   (cpS
   (contL
   0
   L)
   (mod_0
   w
   (lawC_s2
   L))).y
   0 ∧
   xi
   (lawC_s16
   w
   L)
   1 =
   xi
   (cpS
   (contL
   0
   L)
   (mod_0
   w
   (lawC_s2
   L))).y
   1 ∧
   xi
   (lawC_s16
   w
   L)
   2 =
   xi
   (cpS
   (contL
   0
   L)
   (mod_0
   w
   (lawC_s2
   L))).y
   2 ∧
   xi
   (lawC_s16
   w
   L)
   3 =
   xi
   (cpS
   (contL
   0
   L)
   (mod_0
   w
   (lawC_s2
   L))).y
   3 ∧
   xi
   (lawC_s16
   w
   L)
   4 =
   xi
   (cpS
   (contL
   0
   L)
   (mod_0
   w
   (lawC_s2
   L))).y
   4 ∧
   xi
   (lawC_s16
   w
   L)
   5 =
   xi
   (cpS
   (contL
   0
   L)
   (mod_0
   w
   (lawC_s2
   L))).y
   5 ∧
   xi
   (lawC_s16
   w
   L)
   6 =
   xi
   (cpS
   (contL
   0
   L)
   (mod_0
   w
   (lawC_s2
   L))).y
   6 ∧
   xi
   (lawC_s16
   w
   L)
   7 =
   xi
   (cpS
   (contL
   0
   L)
   (mod_0
   w
   (lawC_s2
   L))).y
   7 ∧
   xi
   (lawC_s16
   w
   L)
   8 =
   xi
   (cpS
   (contL
   0
   L)
   (mod_0
   w
   (lawC_s2
   L))).y
   8 ∧
   xi
   (lawC_s16
   w
   L)
   9 =
   xi
   (cpS
   (contL
   0
   L)
   (mod_0
   w
   (lawC_s2
   L))).y
   9 ∧
   xi
   (lawC_s16
   w
   L)
   10 =
   xi
   (cpS
   (contL
   0
   L)
   (mod_0
   w
   (lawC_s2
   L))).y
   10 ∧
   xi
   (lawC_s16
   w
   L)
   11 =
   xi
   (cpS
   (contL
   0
   L)
   (mod_0
   w
   (lawC_s2
   L))).y
   11 ∧
   xi
   (lawC_s16
   w
   L)
   12 =
   xi
   (cpS
   (contL
   0
   L)
   (mod_0
   w
   (lawC_s2
   L))).y
   12 ∧
   xb
   (lawC_s16
   w
   L)
   13 =
   xb
   (cpS
   (contL
   0
   L)
   (mod_0
   w
   (lawC_s2
   L))).y
   13 ∧
   xi
   (lawC_s16
   w
   L)
   14 =
   xi
   (cpS
   (contL
   0
   L)
   (mod_0
   w
   (lawC_s2
   L))).y
   14 ∧
   xb
   (lawC_s16
   w
   L)
   15 =
   xb
   (cpS
   (contL
   0
   L)
   (mod_0
   w
   (lawC_s2
   L))).y
   15 ∧
   xi
   (lawC_s16
   w
   L)
   16 =
   xi
   (cpS
   (contL
   0
   L)
   (mod_0
   w
   (lawC_s2
   L))).y
   16 ∧
   xi
   (lawC_s16
   w
   L)
   17 =
   xi
   (cpS
   (contL
   0
   L)
   (mod_0
   w
   (lawC_s2
   L))).y
   17 ∧
   xi
   (lawC_s16
   w
   L)
   18 =
   xi
   (cpS
   (contL
   0
   L)
   (mod_0
   w
   (lawC_s2
   L))).y
   18 ∧
   xi
   (lawC_s16
   w
   L)
   19 =
   xi
   (cpS
   (contL
   0
   L)
   (mod_0
   w
   (lawC_s2
   L))).y
   19 ∧
   xi
   (lawC_s16
   w
   L)
   20 =
   xi
   (cpS
   (contL
   0
   L)
   (mod_0
   w
   (lawC_s2
   L))).y
   20 ∧
   xb
   (lawC_s16
   w
   L)
   21 =
   xb
   (cpS
   (contL
   0
   L)
   (mod_0
   w
   (lawC_s2
   L))).y
   21 ∧
   (CcS.mk
   (mod_0
   w
   (lawC_s2
   L)).toNat
   (cpS
   (contL
   0
   L)
   (mod_0
   w
   (lawC_s2
   L)))
   []).s.a0 =
   (cpS
   (contL
   0
   L)
   (mod_0
   w
   (lawC_s2
   L))).a0 ∧
   (CcS.mk
   (mod_0
   w
   (lawC_s2
   L)).toNat
   (cpS
   (contL
   0
   L)
   (mod_0
   w
   (lawC_s2
   L)))
   []).s.a1 =
   (cpS
   (contL
   0
   L)
   (mod_0
   w
   (lawC_s2
   L))).a1 ∧
   (CcS.mk
   (mod_0
   w
   (lawC_s2
   L)).toNat
   (cpS
   (contL
   0
   L)
   (mod_0
   w
   (lawC_s2
   L)))
   []).s.tr =
   (cpS
   (contL
   0
   L)
   (mod_0
   w
   (lawC_s2
   L))).tr ∧
   (CcS.mk
   (mod_0
   w
   (lawC_s2
   L)).toNat
   (cpS
   (contL
   0
   L)
   (mod_0
   w
   (lawC_s2
   L)))
   []).s.op =
   (cpS
   (contL
   0
   L)
   (mod_0
   w
   (lawC_s2
   L))).op ∧
   (CcS.mk
   (mod_0
   w
   (lawC_s2
   L)).toNat
   (cpS
   (contL
   0
   L)
   (mod_0
   w
   (lawC_s2
   L)))
   []).s.cl =
   (cpS
   (contL
   0
   L)
   (mod_0
   w
   (lawC_s2
   L))).cl ∧
   (CcS.mk
   (mod_0
   w
   (lawC_s2
   L)).toNat
   (cpS
   (contL
   0
   L)
   (mod_0
   w
   (lawC_s2
   L)))
   []).s.en =
   (cpS
   (contL
   0
   L)
   (mod_0
   w
   (lawC_s2
   L))).en ∧
   (CcS.mk
   (mod_0
   w
   (lawC_s2
   L)).toNat
   (cpS
   (contL
   0
   L)
   (mod_0
   w
   (lawC_s2
   L)))
   []).s.mo =
   (cpS
   (contL
   0
   L)
   (mod_0
   w
   (lawC_s2
   L))).mo ∧
   (CcS.mk
   (mod_0
   w
   (lawC_s2
   L)).toNat
   (cpS
   (contL
   0
   L)
   (mod_0
   w
   (lawC_s2
   L)))
   []).s.la0 =
   (cpS
   (contL
   0
   L)
   (mod_0
   w
   (lawC_s2
   L))).la0 ∧
   (CcS.mk
   (mod_0
   w
   (lawC_s2
   L)).toNat
   (cpS
   (contL
   0
   L)
   (mod_0
   w
   (lawC_s2
   L)))
   []).s.la1 =
   (cpS
   (contL
   0
   L)
   (mod_0
   w
   (lawC_s2
   L))).la1 ∧
   (CcS.mk
   (mod_0
   w
   (lawC_s2
   L)).toNat
   (cpS
   (contL
   0
   L)
   (mod_0
   w
   (lawC_s2
   L)))
   []).s.la2 =
   (cpS
   (contL
   0
   L)
   (mod_0
   w
   (lawC_s2
   L))).la2 ∧
   (CcS.mk
   (mod_0
   w
   (lawC_s2
   L)).toNat
   (cpS
   (contL
   0
   L)
   (mod_0
   w
   (lawC_s2
   L)))
   []).s.er =
   (cpS
   (contL
   0
   L)
   (mod_0
   w
   (lawC_s2
   L))).er ∧
   lawC_s13
   w
   L =
   (cpS
   (contL
   0
   L)
   (mod_0
   w
   (lawC_s2
   L))).C ∧
   lawC_s14
   w
   L =
   [] ∧
   (((ccF
   (contL
   0
   L)
   (mod_0
   w
   (lawC_s2
   L))).fin
   (CcS.mk
   (mod_0
   w
   (lawC_s2
   L)).toNat
   (cpS
   (contL
   0
   L)
   (mod_0
   w
   (lawC_s2
   L)))
   [])).bad =
   false →
   (bT
   (contL
   0
   L)
   (mod_0
   w
   (lawC_s2
   L))).R =
   ((ccF
   (contL
   0
   L)
   (mod_0
   w
   (lawC_s2
   L))).fin
   (CcS.mk
   (mod_0
   w
   (lawC_s2
   L)).toNat
   (cpS
   (contL
   0
   L)
   (mod_0
   w
   (lawC_s2
   L)))
   [])).Q ∧
   (bT
   (contL
   0
   L)
   (mod_0
   w
   (lawC_s2
   L))).R.length ≤
   1000000)))]
theorem lawC_0_eq (w : Int) (L : List (List Int)) : (lawC_0 w L) = true := by
  have hQ := cc_all (X := contL 0 L) (k := lawC_s0 w L)
  unfold lawC_0
  cases !light_0 L
  · rw [cond_false, cond_false, bne_self_eq_false, cond_false, hQ, cond_false]
    simp
  · rfl
theorem lawC_need {w : Int} {L : List (List Int)} : ∀ q ∈ (lawC_needs w L), q := by
  unfold lawC_needs
  simp only [List.forall_mem_cons, List.not_mem_nil, false_implies, implies_true, and_true]
  intro hl
  have hl' := light_len (L := L) (by simpa using hl)
  have hx := contL_len 0 L
  have e2 : lawC_s2 L = ((contL 0 L).length : Int) + 1 := by unfold lawC_s2; exact wrI (by simp; omega) (by simp; omega)
  have hm := mod_rng w (lawC_s2 L) (by omega) (by omega)
  have hm' : (mod_0 w (lawC_s2 L)).toNat ≤ (contL 0 L).length := by omega
  have hi : Int.ofNat (mod_0 w (lawC_s2 L)).toNat = mod_0 w (lawC_s2 L) := Int.toNat_of_nonneg hm.1
  have hC := cpS_C (contL 0 L) (mod_0 w (lawC_s2 L))
  have h3 : (lawC_s3 w L).length ≤ 1000000 := Nat.le_trans hC (by decide)
  have h1000 : (contL 0 L).length ≤ 1000 := by omega
  have hES : (bT (contL 0 L) (mod_0 w (lawC_s2 L))).ES.length = (contL 0 L).length - (mod_0 w (lawC_s2 L)).toNat := by
    have := (bN_ES (contL 0 L) ((contL 0 L).length - (mod_0 w (lawC_s2 L)).toNat) ⟨(mod_0 w (lawC_s2 L)).toNat, cpS (contL 0 L) (mod_0 w (lawC_s2 L)), [], []⟩).2
    exact this.trans (Nat.zero_add _)
  have hR : (bT (contL 0 L) (mod_0 w (lawC_s2 L))).R.length ≤ 1000000 := by
    have h : (bT (contL 0 L) (mod_0 w (lawC_s2 L))).R.length ≤ 0 + 11 * ((contL 0 L).length - (mod_0 w (lawC_s2 L)).toNat) := bN_R (contL 0 L) ((contL 0 L).length - (mod_0 w (lawC_s2 L)).toNat) ⟨(mod_0 w (lawC_s2 L)).toNat, cpS (contL 0 L) (mod_0 w (lawC_s2 L)), [], []⟩ hC
    omega
  have hQ := cc_all (X := contL 0 L) (k := mod_0 w (lawC_s2 L))
  refine ⟨by decide, by omega, by omega, fun _ => ⟨⟨hm.1, Nat.zero_le _, hm', h1000, Nat.zero_le _⟩, ?_⟩⟩
  repeat' first | refine ⟨by kernel_rfl, ?_⟩ | refine ⟨h3, fun _ => ⟨⟨hm', h1000, hC, Nat.zero_le _, Nat.zero_le _⟩, hi, ?_⟩⟩ | refine ⟨⟨hm.1, Nat.le_refl _, hm', h1000, hC, Nat.zero_le _, hES⟩, hi, ?_⟩ | exact fun _ => ⟨by rw [hQ], hR⟩ | refine ⟨trivial, ?_⟩
set_option maxRecDepth 1000000 in
theorem lawC_runs (w : Int) (L : List (List Int)) (hNeeds : ∀ pN ∈ (lawC_needs w L), pN) : Runs (runG (sums K_copyG) L_cc 7) (lawC_tpl.args [.i w]) (lawC_tpl.memo [.i w] [L]) lawC_tpl.n (SV.one (SC.bool (SB.v (lawC_0 w L))))
    ([]) :=
  Runs.of1 (ps := (lawC_needs w L)) (by kernel_rfl) hNeeds
noncomputable def lawC_out : List Pm → Lss → Option CRes
  | [.i w], [L] => some ⟨SV.one (SC.bool (SB.v (lawC_0 w L))),
    [],
    [], [], 5520⟩
  | _, _ => none
noncomputable def K_lawC : List (Nat × Summ) := (7, tplS lawC_tpl lawC_out) :: K_copyG
end Go.Proofs.Ytmbfbhimdkjkoaa
namespace Go.SX
open Go.RowKit Go.WideElems Go.ChangeShapes

/-! ### Types of integers and truth values -/
noncomputable def flatFs (P : Program) (rec' : TypeId → Option (List CK)) : List Field → Nat → Option (List CK)
  | [], _ => some []
  | f :: r, o => match rec' f.type with
    | some ks => bif Nat.beq f.offset o && Nat.beq ks.length (P.cellsOf f.type) then (flatFs P rec' r (o + ks.length)).map (ks ++ ·) else none
    | none => none
noncomputable def flatK (P : Program) : Nat → TypeId → Option (List CK)
  | 0, _ => none
  | d + 1, t => match P.underlying t with
    | some .bool => some [.bool]
    | some (.int k) => some [.int k]
    | some (.struct fs) => match flatFs P (flatK P d) fs.toList 0 with
      | some ks => bif Nat.beq ks.length (P.cellsOf t) then some ks else none
      | none => none
    | _ => none
noncomputable def okV : CK → Value → Prop
  | .int k, v => ∃ n, v = .int k n
  | .bool, v => ∃ b, v = .bool b
noncomputable def okL : List CK → List Value → Prop
  | [], [] => True
  | k :: ks, v :: vs => okV k v ∧ okL ks vs
  | _, _ => False
theorem okL_append : ∀ {ks js : List CK} {vs ws : List Value}, okL ks vs → okL js ws → okL (ks ++ js) (vs ++ ws)
  | [], _, [], _, _, h => h
  | [], _, _ :: _, _, h, _ => h.elim
  | _ :: _, _, [], _, h, _ => h.elim
  | _ :: _, _, _ :: _, _, h, k => ⟨h.1, okL_append h.2 k⟩
section
variable {H : Type} {enc : TypeId × Value → H} {P : Program} {w : World} {base : Nat} {spare : Nat → Bool} {held : Bool}
theorem take_split (l : List Value) (o a b : Nat) : (l.drop o).take (a + b) = (l.drop o).take a ++ (l.drop (o + a)).take b := by
  rw [List.take_add, List.drop_drop]
theorem flatFs_ok {rec' : TypeId → Option (List CK)} {n : Nat} {cs : List Value} (hrec : ∀ t ks ds x, rec' t = some ks → DataW.trod enc P w base spare held n t ds = some x → okL ks ds) :
    ∀ {fs : List Field} {o : Nat} {ks : List CK}, flatFs P rec' fs o = some ks → (∀ f ∈ fs, ∃ x, DataW.trod enc P w base spare held n f.type ((cs.drop f.offset).take (P.cellsOf f.type)) = some x) → okL ks ((cs.drop o).take ks.length)
  | [], o, ks, h, _ => by cases h; simp [okL]
  | f :: r, o, ks, h, hx => by
    simp only [flatFs] at h
    split at h
    · rename_i k1 h1
      cases hb : (Nat.beq f.offset o && Nat.beq k1.length (P.cellsOf f.type))
      · rw [hb] at h; cases h
      rw [hb] at h
      simp only [Bool.and_eq_true] at hb
      have e1 := Nat.eq_of_beq_eq_true hb.1
      have e2 := Nat.eq_of_beq_eq_true hb.2
      simp only [cond_true, Option.map_eq_some_iff] at h
      obtain ⟨k2, h2, rfl⟩ := h
      obtain ⟨x, hx1⟩ := hx f (by simp)
      have q1 := hrec _ _ _ _ h1 hx1
      rw [e1, ← e2] at q1
      have q2 := flatFs_ok hrec h2 (fun g hg => hx g (by simp [hg]))
      rw [List.length_append, take_split]
      exact okL_append q1 q2
    · cases h
theorem flat_ok : ∀ {d : Nat} {t : TypeId} {ks : List CK}, flatK P d t = some ks → ∀ {n : Nat} {cs : List Value} {x : DataW H × List MemPlace}, DataW.trod enc P w base spare held n t cs = some x → okL ks cs
  | 0, _, _, h, _, _, _, _ => by cases h
  | d + 1, t, ks, h, n, cs, x, hx => by
    simp only [flatK] at h
    split at h
    · rename_i hu
      cases h
      obtain ⟨b, rfl, _⟩ := DataW.trod_bool hu hx
      exact ⟨⟨b, rfl⟩, trivial⟩
    · rename_i k hu
      cases h
      obtain ⟨b, rfl, _⟩ := DataW.trod_int hu hx
      exact ⟨⟨b, rfl⟩, trivial⟩
    · rename_i fs hu
      split at h
      · rename_i js hj
        cases hb : Nat.beq js.length (P.cellsOf t)
        · rw [hb] at h; cases h
        rw [hb] at h
        cases h
        have e := Nat.eq_of_beq_eq_true hb
        obtain ⟨xs, m, rfl, _, hlen, hxl, hf⟩ := DataW.trod_struct hu hx
        have := flatFs_ok (P := P) (enc := enc) (w := w) (base := base) (spare := spare) (held := held) (n := m) (cs := cs) (fun t ks ds x h1 h2 => flat_ok h1 h2) hj (fun f hfm => by
          obtain ⟨i, hi⟩ := List.getElem?_of_mem hfm
          have hi' : fs[i]? = some f := by simpa using hi
          have hlt : i < xs.length := by
            rw [hxl]
            exact (Array.getElem?_eq_some_iff.1 hi').1
          exact ⟨xs[i], by rw [hf i f hi', List.getElem?_eq_getElem hlt]⟩)
        simp only [List.drop_zero] at this
        rwa [List.take_of_length_le (by omega)] at this
      · cases h
    · cases h
end

/-! ### Values of such types -/
noncomputable def pcOf : CK → PC
  | .int k => .int k
  | .bool => .bool
/-- The kinds of what is open. -/
noncomputable def PmOk : List CK → List Pm → Prop
  | [], [] => True
  | .int _ :: ks, .i _ :: ps => PmOk ks ps
  | .bool :: ks, .b _ :: ps => PmOk ks ps
  | _, _ => False
theorem PmOk.append : ∀ {ks js : List CK} {ps qs : List Pm}, PmOk ks ps → PmOk js qs → PmOk (ks ++ js) (ps ++ qs)
  | [], _, [], _, _, h => h
  | [], _, _ :: _, _, h, _ => h.elim
  | .int _ :: ks, js, .i _ :: ps, qs, h, k => PmOk.append (ks := ks) (js := js) (ps := ps) (qs := qs) h k
  | .bool :: ks, js, .b _ :: ps, qs, h, k => PmOk.append (ks := ks) (js := js) (ps := ps) (qs := qs) h k
  | .int _ :: _, _, [], _, h, _ => h.elim
  | .bool :: _, _, [], _, h, _ => h.elim
  | .int _ :: _, _, .b _ :: _, _, h, _ => h.elim
  | .bool :: _, _, .i _ :: _, _, h, _ => h.elim
theorem pm_nil {ps : List Pm} (h : PmOk [] ps) : ps = [] := by cases ps with | nil => rfl | cons => exact h.elim
theorem pm_i {k : IntKind} {ks : List CK} {ps : List Pm} (h : PmOk (.int k :: ks) ps) : ∃ n q, ps = .i n :: q ∧ PmOk ks q := by
  cases ps with
  | nil => exact h.elim
  | cons p q => cases p with
    | i n => exact ⟨n, q, rfl, h⟩
    | b x => exact h.elim
theorem okL_pm : ∀ {ks : List CK} {vs : List Value}, okL ks vs → ∃ ps, PmOk ks ps ∧ ∀ rest, ∃ xs, mkCs (ks.map pcOf) (ps ++ rest) = (xs, rest) ∧ (∀ θ, dens θ xs = vs) ∧ idsCs xs = []
  | [], [], _ => ⟨[], trivial, fun rest => ⟨[], rfl, fun _ => rfl, rfl⟩⟩
  | [], _ :: _, h => h.elim
  | _ :: _, [], h => h.elim
  | .int k :: ks, v :: vs, h => by
    obtain ⟨⟨n, rfl⟩, h2⟩ := h
    obtain ⟨ps, h3, h4⟩ := okL_pm h2
    refine ⟨.i n :: ps, h3, fun rest => ?_⟩
    obtain ⟨xs, h5, h6, h7⟩ := h4 rest
    refine ⟨.int k (.v n) :: xs, ?_, fun θ => ?_, by rw [idsCs_cons, h7]; rfl⟩
    · simp only [List.map_cons, pcOf, mkCs, List.cons_append, PC.mk, h5]
    · have := h6 θ
      simp only [dens, List.map_cons] at this ⊢
      rw [this]; rfl
  | .bool :: ks, v :: vs, h => by
    obtain ⟨⟨n, rfl⟩, h2⟩ := h
    obtain ⟨ps, h3, h4⟩ := okL_pm h2
    refine ⟨.b n :: ps, h3, fun rest => ?_⟩
    obtain ⟨xs, h5, h6, h7⟩ := h4 rest
    refine ⟨.bool (.v n) :: xs, ?_, fun θ => ?_, by rw [idsCs_cons, h7]; rfl⟩
    · simp only [List.map_cons, pcOf, mkCs, List.cons_append, PC.mk, h5]
    · have := h6 θ
      simp only [dens, List.map_cons] at this ⊢
      rw [this]; rfl
/-- As integers. -/
theorem okL_ints : ∀ {ks : List CK} {vs : List Value}, okL ks vs → ∃ xs : List Int, xs.length = ks.length ∧ ∀ (pre : List Int) θ, dens θ (decodeF ks (pre ++ xs) pre.length) = vs
  | [], [], _ => ⟨[], rfl, fun _ _ => rfl⟩
  | [], _ :: _, h => h.elim
  | _ :: _, [], h => h.elim
  | .int k :: ks, v :: vs, h => by
    obtain ⟨⟨n, rfl⟩, h2⟩ := h
    obtain ⟨xs, h3, h4⟩ := okL_ints h2
    refine ⟨n :: xs, by simp [h3], fun pre θ => ?_⟩
    have := h4 (pre ++ [n]) θ
    simp only [List.append_assoc, List.singleton_append, List.length_append, List.length_cons, List.length_nil, Nat.zero_add] at this
    simp only [decodeF, dens, List.map_cons] at this ⊢
    rw [this]
    simp [CK.cell, SC.den, SI.val, List.getD]
  | .bool :: ks, v :: vs, h => by
    obtain ⟨⟨b, rfl⟩, h2⟩ := h
    obtain ⟨xs, h3, h4⟩ := okL_ints h2
    refine ⟨(bif b then 1 else 0) :: xs, by simp [h3], fun pre θ => ?_⟩
    have := h4 (pre ++ [bif b then 1 else 0]) θ
    simp only [List.append_assoc, List.singleton_append, List.length_append, List.length_cons, List.length_nil, Nat.zero_add] at this
    simp only [decodeF, dens, List.map_cons] at this ⊢
    rw [this]
    cases b <;> simp [CK.cell, SC.den, SB.val, List.getD]

/-! ### Parameters -/
inductive PS where
  | agg (ks : List CK) | one (k : CK) | row (e : TypeId) (ks : List CK)
noncomputable def psVs : List PS → Nat → List PV
  | [], _ => []
  | .agg ks :: r, id => .agg (ks.map pcOf) :: psVs r id
  | .one k :: r, id => .one (pcOf k) :: psVs r id
  | .row _ _ :: r, id => .one (.wh id) :: psVs r (id + 1)
noncomputable def psM : List PS → Nat → Nat → List (Nat × PO)
  | [], _, _ => []
  | .agg _ :: r, id, t => psM r id t
  | .one _ :: r, id, t => psM r id t
  | .row e ks :: r, id, t => (id, .row true e ks.length t ks) :: psM r (id + 1) (t + 1)
noncomputable def psK : List PS → List CK
  | [] => []
  | .agg ks :: r => ks ++ psK r
  | .one k :: r => k :: psK r
  | .row _ _ :: r => psK r
noncomputable def psR : List PS → Nat
  | [] => 0
  | .row _ _ :: r => psR r + 1
  | _ :: r => psR r
noncomputable def rowsM : List PS → Nat → Nat → Lss → Mem
  | [], _, _, _ => []
  | .agg _ :: r, id, t, ls => rowsM r id t ls
  | .one _ :: r, id, t, ls => rowsM r id t ls
  | .row e ks :: r, id, t, xs :: ls => (id, .row true e ks.length (.lst t ks xs)) :: rowsM r (id + 1) (t + 1) ls
  | .row _ _ :: _, _, _, [] => []
noncomputable def psOk1 (P : Program) : PS → TypeId → Bool
  | .agg ks, t => (match P.underlying t with | some (.struct _) => true | _ => false) && (match flatK P 20 t with | some js => cksEq ks js | none => false)
  | .one k, t => (match P.underlying t with | some (.int j) => ckEq k (.int j) | some .bool => ckEq k .bool | _ => false)
  | .row e ks, t => (match P.underlying t with | some (.slice u) => Nat.beq e u | _ => false) && ((match flatK P 20 e with | some js => cksEq ks js | none => false) && (Nat.beq ks.length (P.cellsOf e) && Nat.blt 0 ks.length))
noncomputable def psOk (P : Program) : List PS → List TypeId → Bool
  | [], [] => true
  | s :: r, t :: ts => psOk1 P s t && psOk P r ts
  | _, _ => false
section
variable {H : Type} {enc : TypeId × Value → H} {P : Program} {w : World}
theorem cells_one {v : Value} (h : ∀ cs, v ≠ .agg cs) : v.cells.toList = [v] := by cases v <;> first | rfl | exact absurd rfl (h _)
/-- A slice that is read. -/
theorem open_row {t e : TypeId} {ks : List CK} {n : Nat} {v : Value} {x : DataW H × List MemPlace} (hu : P.underlying t = some (.slice e)) (hf : flatK P 20 e = some ks) (hc : ks.length = P.cellsOf e) (hpos : 0 < ks.length)
    (h : DataW.trod enc P w 0 (fun _ => true) true n t v.cells.toList = some x) (hv : ∀ cs, v ≠ .agg cs) :
    ∃ (xs : List (List Int)) (l : Loc), v = .slice l.ad l.len l.cap ∧ rowOk ks.length (xs.map (decode ks)) ∧ ∀ θ : Th, seeRel l w xs.length (dens θ (xs.map (decode ks)).flatten) := by
  rw [cells_one hv] at h
  rcases DataW.trod_slice hu h with ⟨h0, _⟩ | ⟨a, len, cap, elems, rest, m, _, h1, _, _, hle, _, hlen, hel, _⟩
  · simp only [List.cons.injEq, and_true] at h0
    subst h0
    exact ⟨[], Loc.none, rfl, ⟨hpos, fun _ h => by cases h⟩, fun θ => ⟨rfl, rfl, Nat.le_refl _, .inl ⟨rfl, rfl, rfl⟩⟩⟩
  · simp only [List.cons.injEq, and_true] at h1
    subst h1
    have each : ∀ i, i < len → ∃ zs : List Int, zs.length = ks.length ∧ ∀ (θ : Th) (j : Nat) (u : Value), (dens θ (decode ks zs))[j]? = some u → w.cell? (a.add (i * ks.length + j)) = some u := by
      intro i hi
      have h2 := hel i hi
      rw [List.getElem?_eq_getElem (by omega)] at h2
      obtain ⟨cs, h3, h4⟩ := Option.bind_eq_some_iff.1 h2
      obtain ⟨_, h5, h6⟩ := World.cells?_some h3
      obtain ⟨zs, h7, h8⟩ := okL_ints (flat_ok hf h4)
      refine ⟨zs, h7, fun θ j u hu => ?_⟩
      have h9 := h8 [] θ
      simp only [List.nil_append, List.length_nil] at h9
      rw [decode, h9] at hu
      have hj : j < cs.length := (List.getElem?_eq_some_iff.1 hu).1
      have := h6 j (by omega)
      rw [hu, ← hc] at this
      rw [← this, Addr.add_add]
    obtain ⟨xs, hx1, hx2⟩ : ∃ xs : List (List Int), xs.length = len ∧ ∀ i zs, xs[i]? = some zs → zs.length = ks.length ∧ ∀ (θ : Th) (j : Nat) (u : Value), (dens θ (decode ks zs))[j]? = some u → w.cell? (a.add (i * ks.length + j)) = some u := by
      have : ∀ m, m ≤ len → ∃ xs : List (List Int), xs.length = m ∧ ∀ i zs, xs[i]? = some zs → zs.length = ks.length ∧ ∀ (θ : Th) (j : Nat) (u : Value), (dens θ (decode ks zs))[j]? = some u → w.cell? (a.add (i * ks.length + j)) = some u := by
        intro m
        induction m with
        | zero => exact fun _ => ⟨[], rfl, fun i zs h => by simp at h⟩
        | succ m ih =>
          intro hm
          obtain ⟨xs, h2, h3⟩ := ih (by omega)
          obtain ⟨zs, h4, h5⟩ := each m (by omega)
          refine ⟨xs ++ [zs], by simp [h2], fun i ys hi => ?_⟩
          by_cases him : i < m
          · rw [List.getElem?_append_left (by omega)] at hi
            exact h3 i ys hi
          · have hlt := (List.getElem?_eq_some_iff.1 hi).1
            simp at hlt
            have : i = m := by omega
            subst this
            rw [List.getElem?_append_right (by omega)] at hi
            simp [h2] at hi
            subst hi
            exact ⟨h4, h5⟩
      exact this len (Nat.le_refl _)
    have hrow : rowOk ks.length (xs.map (decode ks)) := ⟨hpos, fun r hr => by
      obtain ⟨zs, _, rfl⟩ := List.mem_map.1 hr
      exact ⟨by rw [decode, decodeF_length], decodeF_ids _ _ _⟩⟩
    have flat : ∀ (θ : Th) (ys : List (List Int)) (b : Nat), (∀ i zs, ys[i]? = some zs → ∀ (j : Nat) (u : Value), (dens θ (decode ks zs))[j]? = some u → w.cell? (a.add ((b + i) * ks.length + j)) = some u) → ∀ (j : Nat) (u : Value), (dens θ (ys.map (decode ks)).flatten)[j]? = some u → w.cell? (a.add (b * ks.length + j)) = some u := by
      intro θ ys
      induction ys with
      | nil => intro b _ j u h; simp [dens] at h
      | cons z ys ih =>
        intro b hz j u hj
        simp only [List.map_cons, List.flatten_cons, dens, List.map_append] at hj
        have hdl : (List.map (SC.den θ) (decode ks z)).length = ks.length := by rw [List.length_map, decode, decodeF_length]
        by_cases hlt : j < ks.length
        · rw [List.getElem?_append_left (by omega)] at hj
          exact hz 0 z rfl j u hj
        · rw [List.getElem?_append_right (by omega), hdl] at hj
          have := ih (b + 1) (fun i zs hi j u hj => by
            have := hz (i + 1) zs (by simpa using hi) j u hj
            rwa [show b + (i + 1) = b + 1 + i from by omega] at this) (j - ks.length) u hj
          rw [← this]
          congr 2
          rw [Nat.add_mul, Nat.one_mul]; omega
    by_cases hl0 : len = 0
    · subst hl0
      have : xs = [] := List.length_eq_zero_iff.1 hx1
      subst this
      exact ⟨[], ⟨.none, .none, some a, 0, cap, #[]⟩, rfl, hrow, fun θ => ⟨rfl, rfl, Nat.zero_le _, .inl ⟨rfl, rfl, rfl⟩⟩⟩
    · refine ⟨xs, ⟨.none, some a.block, some a, len, cap, #[]⟩, rfl, hrow, fun θ => ⟨rfl, hx1.symm, by rw [hx1]; exact hle, .inr ⟨a, rfl, rfl, ?_, fun j u hj => ?_⟩⟩⟩
      · intro h0
        have := congrArg List.length h0
        obtain ⟨z, zs, rfl⟩ : ∃ z zs, xs = z :: zs := by
          cases xs with
          | nil => exact absurd hx1 (fun h => hl0 h.symm)
          | cons z zs => exact ⟨z, zs, rfl⟩
        simp only [dens, List.map_cons, List.flatten_cons, List.map_append, List.length_append, List.length_map, decode, decodeF_length, List.length_nil] at this
        omega
      · have := flat θ xs 0 (fun i zs hi j u hj => by
          have := (hx2 i zs hi).2 θ j u hj
          simpa using this) j u hj
        simpa using this
/-- The arguments are those of a pattern. -/
theorem open_args {b0 : Nat} : ∀ {pss : List PS} {ts : List TypeId} {vs : List Value} {ds : List (DataW H)} {p : List MemPlace}, psOk P pss ts = true → DataW.TrodAll enc P w 0 (fun _ => true) true ts vs ds p →
    (∀ (j : Nat) t v, ts[j]? = some t → vs[j]? = some v → Value.okWide P w .any b0 t v) →
    ∃ (ps : List Pm) (ls : Lss) (locs : List Loc), PmOk (psK pss) ps ∧ ls.length = psR pss ∧ locs.length = psR pss ∧
      ∀ (id : Nat) (θ : Th), (∀ i l, locs[i]? = some l → θ (id + i) = l) → (∀ rest, ∃ A, mkPs (psVs pss id) (ps ++ rest) = (A, rest) ∧ A.map (SV.den θ) = vs ∧ (∀ i ∈ idsVs A, i < id + psR pss)) ∧
        ∀ t i o, look (rowsM pss id t ls) i = some o → objRel θ w i o ∧ (θ i).blk = none ∧ id ≤ i ∧ i < id + psR pss ∧ idsO o = []
  | [], [], vs, ds, p, _, h, _ => by
    obtain ⟨rfl, _, _⟩ := trodAll_nil h
    exact ⟨[], [], [], trivial, rfl, rfl, fun id θ _ => ⟨fun rest => ⟨[], rfl, rfl, fun _ h => by cases h⟩, fun t i o h => by cases h⟩⟩
  | [], _ :: _, _, _, _, h, _, _ => by cases h
  | _ :: _, [], _, _, _, h, _, _ => by cases h
  | s :: r, t :: ts, vs, ds, p, hok, h, hw => by
    obtain ⟨v, vs', d, ds', p1, p2, rfl, rfl, rfl, ⟨n, h1⟩, h2⟩ := trodAll_cons h
    simp only [psOk, Bool.and_eq_true] at hok
    obtain ⟨ps, ls, locs, q1, q2, q3, q4⟩ := open_args hok.2 h2 (fun j t v hj hv => hw (j + 1) t v (by simpa using hj) (by simpa using hv))
    have hv := hw 0 t v rfl rfl
    have hok1 := hok.1
    cases s with
    | agg ks =>
      simp only [psOk1, Bool.and_eq_true] at hok1
      obtain ⟨k1, k2⟩ := hok1
      have hst : ∃ fs, P.underlying t = some (.struct fs) := by
        split at k1
        · exact ⟨_, by assumption⟩
        · cases k1
      obtain ⟨fs, hst⟩ := hst
      have hfl : flatK P 20 t = some ks := by
        split at k2
        · rename_i js hj; rw [hj, cksEq_spec k2]
        · cases k2
      unfold Value.okWide at hv
      rw [hst] at hv
      obtain ⟨cs, rfl, _⟩ := hv
      obtain ⟨qs, m1, m2⟩ := okL_pm (flat_ok hfl h1)
      refine ⟨qs ++ ps, ls, locs, PmOk.append m1 q1, q2, q3, fun id θ hθ => ?_⟩
      obtain ⟨z1, z2⟩ := q4 id θ hθ
      refine ⟨fun rest => ?_, fun t i o ho => z2 t i o ho⟩
      obtain ⟨xs, e1, e2, e3⟩ := m2 (ps ++ rest)
      obtain ⟨A, e4, e5, e6⟩ := z1 rest
      refine ⟨.agg xs :: A, by simp only [psVs, mkPs, PV.mk, List.append_assoc, e1, e4], ?_, fun i hi => ?_⟩
      · simp only [List.map_cons, e5, SV.den, e2 θ]
        simp [Value.cells]
      · simp only [idsVs, idsV, e3, List.nil_append] at hi
        exact e6 i hi
    | one k =>
      simp only [psOk1] at hok1
      have hone : (∀ cs, v ≠ .agg cs) ∧ flatK P 20 t = some [k] := by
        unfold Value.okWide Cell.okWide Cell.ok at hv
        split at hok1
        · rename_i j hu
          rw [hu] at hv
          refine ⟨fun cs hc => ?_, ?_⟩
          · subst hc; exact hv.elim
          · simp only [flatK, hu]; rw [ckEq_spec hok1]
        · rename_i hu
          rw [hu] at hv
          refine ⟨fun cs hc => ?_, ?_⟩
          · subst hc; exact hv.elim
          · simp only [flatK, hu]; rw [ckEq_spec hok1]
        · cases hok1
      obtain ⟨ho1, hfl⟩ := hone
      rw [cells_one ho1] at h1
      obtain ⟨qs, m1, m2⟩ := okL_pm (flat_ok hfl h1)
      refine ⟨qs ++ ps, ls, locs, PmOk.append (ks := [k]) m1 q1, q2, q3, fun id θ hθ => ?_⟩
      obtain ⟨z1, z2⟩ := q4 id θ hθ
      refine ⟨fun rest => ?_, fun t i o ho => z2 t i o ho⟩
      obtain ⟨xs, e1, e2, e3⟩ := m2 (ps ++ rest)
      obtain ⟨A, e4, e5, e6⟩ := z1 rest
      have e7 := e2 θ
      have hxl : ∃ c, xs = [c] := by
        have := congrArg List.length e7
        simp [dens] at this
        match xs, this with
        | [c], _ => exact ⟨c, rfl⟩
      obtain ⟨c, rfl⟩ := hxl
      simp only [List.map_cons, List.map_nil, mkCs, Prod.mk.injEq, List.cons.injEq, and_true] at e1
      refine ⟨.one c :: A, ?_, ?_, fun i hi => ?_⟩
      · simp only [psVs, mkPs, PV.mk, List.append_assoc, e1.1, e1.2, e4]
      · simp only [dens, List.map_cons, List.map_nil, List.cons.injEq, and_true] at e7
        simp only [List.map_cons, e5, SV.den, e7]
      · simp only [idsVs, idsV, List.mem_append] at hi
        rcases hi with hi | hi
        · rw [idsCs_cons] at e3
          simp [List.append_eq_nil_iff] at e3
          rw [e3.1] at hi; cases hi
        · exact e6 i hi
    | row e ks =>
      simp only [psOk1, Bool.and_eq_true] at hok1
      obtain ⟨k1, k2, k3, k4⟩ := hok1
      have hst : P.underlying t = some (.slice e) := by
        split at k1
        · rename_i u hu; rw [hu, Nat.eq_of_beq_eq_true k1]
        · cases k1
      have hfl : flatK P 20 e = some ks := by
        split at k2
        · rename_i js hj; rw [hj, cksEq_spec k2]
        · cases k2
      have hna : ∀ cs, v ≠ .agg cs := fun cs hc => by
        unfold Value.okWide Cell.okWide Cell.ok at hv
        rw [hst] at hv
        subst hc; exact hv.elim
      obtain ⟨xs, l, m1, m2, m3⟩ := open_row hst hfl (Nat.eq_of_beq_eq_true k3) (by rwa [Nat.blt_eq] at k4) h1 hna
      refine ⟨ps, xs :: ls, l :: locs, q1, by simp [psR, q2], by simp [psR, q3], fun id θ hθ => ?_⟩
      have hl : θ id = l := hθ 0 l rfl
      obtain ⟨z1, z2⟩ := q4 (id + 1) θ (fun i l hi => by
        have := hθ (i + 1) l (by simpa using hi)
        rwa [show id + (i + 1) = id + 1 + i from by omega] at this)
      refine ⟨fun rest => ?_, fun t i o ho => ?_⟩
      · obtain ⟨A, e4, e5, e6⟩ := z1 rest
        refine ⟨.one (.wh id) :: A, by simp only [psVs, mkPs, PV.mk, PC.mk, e4], ?_, fun i hi => ?_⟩
        · simp only [List.map_cons, e5, SV.den, SC.den, hl, m1]
        · simp only [idsVs, idsV, idsC, List.singleton_append, List.mem_cons] at hi
          simp only [psR]
          rcases hi with rfl | hi
          · omega
          · have := e6 i hi; omega
      · simp only [rowsM, look_cons] at ho
        cases hb : Nat.beq id i
        · rw [hb] at ho
          obtain ⟨y1, y2, y3, y4, y5⟩ := z2 (t + 1) i o ho
          simp only [psR]
          exact ⟨y1, y2, by omega, by omega, y5⟩
        · rw [hb] at ho
          cases ho
          have := Nat.eq_of_beq_eq_true hb; subst this
          simp only [psR]
          refine ⟨⟨m2, ?_⟩, by rw [hl]; exact (m3 θ).1, Nat.le_refl _, by omega, rfl⟩
          rw [hl]
          simpa [RowC.rows] using m3 θ
/-- Behind the call the arguments read as before. -/
theorem args_stay (hl : laidOutB P = true) {W W' : World} (hb : Below W.heap.size W W') : ∀ {ts : List TypeId} {vs : List Value} {ds : List (DataW H)} {ps : List MemPlace},
    (ts.all fun t => P.readableRec t && decide (t < P.types.size)) = true → DataW.TrodAll enc P W 0 (fun _ => true) true ts vs ds ps → (∀ x ∈ ps, x.block < W.heap.size) → DataW.TrodAll enc P W' 0 (fun b => decide (b < W.heap.size)) true ts vs ds ps
  | [], vs, ds, ps, _, h, _ => by
    obtain ⟨rfl, rfl, rfl⟩ := trodAll_nil h
    rfl
  | t :: ts, vs, ds, ps, hr, h, hp => by
    obtain ⟨v, vs', d, ds', p1, p2, rfl, rfl, rfl, ⟨n, h1⟩, h2⟩ := trodAll_cons h
    simp only [List.all_cons, Bool.and_eq_true, decide_eq_true_eq] at hr
    exact ⟨p1, p2, ⟨n, DataW.trod_stays (kids_book hl hr.1.1) (book_sized hr.1.1) (fun h => by cases h) ⟨hr.1.2, book_self t⟩ h1 (fun x hx => hb.same (hp x (by simp [hx]))) (fun x hx => by simpa using hp x (by simp [hx]))⟩,
      args_stay hl hb (by simpa using hr.2) h2 (fun x hx => hp x (by simp [hx])), rfl⟩
theorem Below.kept {W W' : World} (hb : Below W.heap.size W W') (may : MemPlace → Prop) : W.keptBut W' may := by
  refine ⟨hb.os, hb.output, fun i hi => ?_⟩
  rw [hb.block i hi]
  cases h : W.heap[i]? with
  | none => rfl
  | some o => cases o <;> simp
/-- A LAW'S STEP: the frame of its statement. -/
theorem law_post {f : Func} {s : ChangeSpec} {W W' : World} {args : Array Value} {bt : TypeId} {ds : List (DataW H)} {before p q : List MemPlace} {gs : List (DataW H)} (hvars : s.vars = []) (hbt : P.underlying bt = some .bool) (hres : f.resultTypes = #[bt])
    (hfn : s.fn H (ds ++ []) = { results := [.lit (.bool true)], args := ds }) (hl : laidOutB P = true) (hr : (f.params.toList.all fun t => P.readableRec t && decide (t < P.types.size)) = true)
    (hW : DataW.Whole enc P f.params.toList s.vars false W args.toList ds gs before) (hA : DataW.TrodAll enc P W 0 (fun _ => true) true f.params.toList args.toList ds p) (hV : DataW.TrodVars enc P W (fun _ => true) s.vars gs q) (hpq : before = p ++ q)
    (hb : Below W.heap.size W W') : s.post enc P f false true false false W args (.bool true) W' := by
  rw [hvars] at hV
  obtain ⟨rfl, rfl⟩ := trodVars_none hV
  refine ⟨ds, [], before, [], p, [], hW, ?_, ?_, ?_, Below.kept hb _, fun h => by cases h⟩
  · rw [hfn, hres]
    exact trodAll_mk1 (shut_bool hbt true)
  · rw [hfn]
    exact args_stay hl hb hr hA (fun x hx => hW.lt x (by rw [hpq]; simp [hx]))
  · rw [hfn, hvars]
    rfl
end
/-- What a run of a law says of its call. -/
theorem law_calls {P : Program} {f : FuncId} {g : Summ} (hg : FOk P f g) {tpl : Tpl} {ps : List Pm} {ls : Lss} {v : SV} {m : Mem} (h : Runs g (tpl.args ps) (tpl.memo ps ls) tpl.n v m) (hv : ∀ θ, v.den θ = .bool true)
    {pss : List PS} {P' : Program} {w : World} {vs : List Value} {θ : Th} (hA : (tpl.args ps).map (SV.den θ) = vs) (hi : ∀ i ∈ idsVs (tpl.args ps), i < tpl.n)
    (hM : ∀ i o, look (tpl.memo ps ls) i = some o → objRel θ w i o ∧ (θ i).blk = none ∧ i < tpl.n ∧ idsO o = []) (hf : f < 1000000 := by decide) :
    Calls P f vs.toArray w fun e w' => e = .returned (.bool true) ∧ Below w.heap.size w w' := by
  have := calls_runs hg h (fun i o ho => ⟨(hM i o ho).2.2.1, fun j hj => by rw [(hM i o ho).2.2.2] at hj; cases hj⟩) hi (θ := θ) (w := w) ⟨fun i o ho => (hM i o ho).1, fun i i' o o' b ho _ _ hb => by rw [(hM i o ho).2.1] at hb; cases hb⟩ hf
  rw [hA] at this
  refine this.mono fun e w' ⟨θ', h1, h2, _⟩ => ⟨by rw [h1, hv], h2.os, h2.tape, h2.output, h2.size, fun b hb => h2.heap b hb fun i o ho he => ?_⟩
  rw [(hM i o ho).2.1] at he; cases he
end Go.SX
