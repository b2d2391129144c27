/-
  EXPAND, in the reference: what it returns, and that it is what the program returns. Conditions: none.
-/
import Derived.Test.YtgimheibnpgphaaDrillE1
set_option linter.all false
namespace Go.Proofs.Ytgimheibnpgphaa
open Go.SX Go.RowKit
/-- The steps of the peck k of n, in the reference. -/
noncomputable def rOne (p u w c0 c8 c9 c11 n k : Int) : List (List Int) := bif decide (k < n) then peckOne p u w c0 c8 c11 k else [itm p u w 2 c9 0]
noncomputable def rL (p u w c0 c8 c9 c11 n : Int) : Nat → List (List Int)
  | 0 => []
  | j + 1 => rL p u w c0 c8 c9 c11 n j ++ rOne p u w c0 c8 c9 c11 n (Int.ofNat (j + 1))
theorem rL_len (p u w c0 c8 c9 c11 n : Int) : ∀ j, (rL p u w c0 c8 c9 c11 n j).length ≤ 3 * j
  | 0 => Nat.le_refl _
  | j + 1 => by
    have := rL_len p u w c0 c8 c9 c11 n j
    simp only [rL, rOne, peckOne, List.length_append]
    cases decide (Int.ofNat (j + 1) < n) <;> cases c0 == 83 <;> simp <;> omega
theorem rL_lt (p u w c0 c8 c9 c11 n : Int) : ∀ j : Nat, (j : Int) < n → rL p u w c0 c8 c9 c11 n j = pecksL p u w c0 c8 c11 j
  | 0, _ => rfl
  | j + 1, h => by
    have h1 : decide (Int.ofNat (j + 1) < n) = true := by simpa using h
    simp only [rL, pecksL, rOne, h1, cond_true]
    rw [rL_lt p u w c0 c8 c9 c11 n j (by omega)]
theorem rL_all (p u w c0 c8 c9 c11 n : Int) (h : 1 ≤ n) : rL p u w c0 c8 c9 c11 n n.toNat = pecksL p u w c0 c8 c11 (n - 1).toNat ++ [itm p u w 2 c9 0] := by
  obtain ⟨m, rfl⟩ : ∃ m : Nat, n = m + 1 := ⟨(n - 1).toNat, by omega⟩
  have e1 : ((m : Int) + 1).toNat = m + 1 := by omega
  have e2 : ((m : Int) + 1 - 1).toNat = m := by omega
  rw [e1, e2]
  have h1 : decide (Int.ofNat (m + 1) < (m : Int) + 1) = false := by simp
  simp only [rL, rOne, h1, cond_false]
  rw [rL_lt p u w c0 c8 c9 c11 _ m (by omega)]
noncomputable def refM (n0 : Nat) (c0 c1 c2 c3 c4 c5 c6 c7 c8 c9 c10 c11 c12 c13 c14 c15 n : Int) (xs : List (List Int)) (tag j : Nat) : Mem := [rowI n0 tag (xs ++ rL c1 (flat_0 c1 c5 c6 c7) (flat_1 c1 c5 c6 c7) c0 c8 c9 c11 n j), (0, .blk 28 [(1, I c0), (2, I c1), (3, I c2), (4, I c3), (5, I c4), (6, I c5), (7, I c6), (8, I c7), (9, I c8), (10, I c9), (11, I c10), (12, I c11), (13, I c12), (14, I c13), (15, I c14), (16, I c15)])]
/-- The states in front of a round: how many rounds there were. -/
noncomputable def refF (n0 : Nat) (c0 c1 c2 c3 c4 c5 c6 c7 c8 c9 c10 c11 c12 c13 c14 c15 n b : Int) (xs : List (List Int)) : Fam Nat Unit where
  k := 10
  E j := [(10, ent (n0 + 1) (.one (I (Int.ofNat (j + 1))))), (9, ent (n0 + 2) (.one (.wh n0))), (6, ent 918 (.one (I n))), (5, ent 917 (.one (I b))), (1, ent 17 (.one (.ptr 0 0)))]
  M j := refM n0 c0 c1 c2 c3 c4 c5 c6 c7 c8 c9 c10 c11 c12 c13 c14 c15 n xs (n0 + 3) j
  out _ := .leaf (.exit 1) [(9, ent (n0 + 2) (.one (.wh n0))), (5, ent 917 (.one (I b))), (1, ent 17 (.one (.ptr 0 0)))] (refM n0 c0 c1 c2 c3 c4 c5 c6 c7 c8 c9 c10 c11 c12 c13 c14 c15 n xs (n0 + 4) n.toNat)
  fin _ := ()
  next j _ := j + 1
  J j := (j : Int) ≤ max n 0 ∧ n ≤ 1000 ∧ xs.length ≤ 1000
  μ j := n.toNat - j
noncomputable def refA_s0 (n : Int) (j : Nat) : Prop :=
  decide (Int.ofNat (j + 1) ≤ n) = true
noncomputable def refA_s1 (c0 : Int) (c1 : Int) (c5 : Int) (c6 : Int) (c7 : Int) (c8 : Int) (c9 : Int) (c11 : Int) (n : Int) (xs : List (List Int)) (j : Nat) : List (List Int) :=
  xs ++ rL c1 (flat_0 c1 c5 c6 c7) (flat_1 c1 c5 c6 c7) c0 c8 c9 c11 n j
noncomputable def refA_s2 (n : Int) (j : Nat) : Bool :=
  decide (Int.ofNat (j + 1) < n)
noncomputable def refA_s3 (c0 : Int) (n : Int) (j : Nat) : Prop :=
  (refA_s2 n j && c0 == 83) = true
noncomputable def refA_s4 (c8 : Int) (c9 : Int) (c11 : Int) (n : Int) (j : Nat) : Int :=
  bif refA_s2 n j then IntKind.i64.wrap (c8 - IntKind.i64.wrap (Int.ofNat (j + 1) * c11)) else c9
noncomputable def refA_s5 (c0 : Int) (c1 : Int) (c5 : Int) (c6 : Int) (c7 : Int) (c8 : Int) (c9 : Int) (c11 : Int) (n : Int) (xs : List (List Int)) (j : Nat) : List (List Int) :=
  refA_s1 c0 c1 c5 c6 c7 c8 c9 c11 n xs j ++
    [[2, 0, 0, 0, 0, solid_0 c1 (flat_0 c1 c5 c6 c7) (flat_1 c1 c5 c6 c7) (refA_s4 c8 c9 c11 n j), solid_1 c1 (flat_0 c1 c5 c6 c7) (flat_1 c1 c5 c6 c7) (refA_s4 c8 c9 c11 n j),
        solid_2 c1 (flat_0 c1 c5 c6 c7) (flat_1 c1 c5 c6 c7) (refA_s4 c8 c9 c11 n j), 0, 0, 0, 0, 0, 0, 0, 0, 0, 0, 0, 0, 0, 0]]
noncomputable def refA_s6 (c0 : Int) (c1 : Int) (c5 : Int) (c6 : Int) (c7 : Int) (c8 : Int) (c9 : Int) (c11 : Int) (n : Int) (xs : List (List Int)) (j : Nat) : Prop :=
  ((refA_s5 c0 c1 c5 c6 c7 c8 c9 c11 n xs j).length + 1) * 176 ≤ 140737488355328 ∧ (refA_s5 c0 c1 c5 c6 c7 c8 c9 c11 n xs j).length + 1 ≤ 9223372036854775807
noncomputable def refA_s7 (c0 : Int) (c1 : Int) (c5 : Int) (c6 : Int) (c7 : Int) (c8 : Int) (c9 : Int) (c11 : Int) (n : Int) (xs : List (List Int)) (j : Nat) : List (List Int) :=
  refA_s5 c0 c1 c5 c6 c7 c8 c9 c11 n xs j ++
    [[1, 0, 0, 0, 0, solid_0 c1 (flat_0 c1 c5 c6 c7) (flat_1 c1 c5 c6 c7) c8, solid_1 c1 (flat_0 c1 c5 c6 c7) (flat_1 c1 c5 c6 c7) c8, solid_2 c1 (flat_0 c1 c5 c6 c7) (flat_1 c1 c5 c6 c7) c8, 0, 0, 0,
        0, 0, 0, 0, 0, 0, 0, 0, 0, 0, 0]]
noncomputable def refA_s8 (c0 : Int) (n : Int) (j : Nat) : Prop :=
  (refA_s2 n j && c0 == 83) = false
noncomputable def refA_s9 (n : Int) (xs : List (List Int)) : Prop :=
  n ≤ 1000 ∧ xs.length ≤ 1000
noncomputable def refA_s10 (j : Nat) : Int :=
  IntKind.i64.wrap (Int.ofNat (j + 1) + 1)
noncomputable def refA_s11 (c8 : Int) (c9 : Int) (c11 : Int) (n : Int) (j : Nat) : Int :=
  IntKind.i64.wrap (refA_s4 c8 c9 c11 n j + if c11 < 200 then c11 else 200)
noncomputable def refA_s12 (c1 : Int) (c5 : Int) (c6 : Int) (c7 : Int) (c8 : Int) (c9 : Int) (c11 : Int) (n : Int) (j : Nat) : List (List Int) :=
  [[1, 0, 0, 0, 0, solid_0 c1 (flat_0 c1 c5 c6 c7) (flat_1 c1 c5 c6 c7) (refA_s11 c8 c9 c11 n j), solid_1 c1 (flat_0 c1 c5 c6 c7) (flat_1 c1 c5 c6 c7) (refA_s11 c8 c9 c11 n j),
      solid_2 c1 (flat_0 c1 c5 c6 c7) (flat_1 c1 c5 c6 c7) (refA_s11 c8 c9 c11 n j), 0, 0, 0, 0, 0, 0, 0, 0, 0, 0, 0, 0, 0, 0]]
noncomputable def refA_needs (c0 : Int) (c1 : Int) (c2 : Int) (c3 : Int) (c4 : Int) (c5 : Int) (c6 : Int) (c7 : Int) (c8 : Int) (c9 : Int) (c10 : Int) (c11 : Int) (c12 : Int) (c13 : Int) (c14 : Int) (c15 : Int) (n : Int) (b : Int) (xs : List (List Int)) (j : Nat) : List Prop :=
  [refA_s0 n j →
      ((refA_s1 c0 c1 c5 c6 c7 c8 c9 c11 n xs j).length + 1) * 176 ≤ 140737488355328 ∧
        (refA_s1 c0 c1 c5 c6 c7 c8 c9 c11 n xs j).length + 1 ≤ 9223372036854775807 ∧
          (refA_s3 c0 n j → refA_s6 c0 c1 c5 c6 c7 c8 c9 c11 n xs j) ∧
            (refA_s3 c0 n j →
                refA_s2 n j = true → ((refA_s7 c0 c1 c5 c6 c7 c8 c9 c11 n xs j).length + 1) * 176 ≤ 140737488355328 ∧ (refA_s7 c0 c1 c5 c6 c7 c8 c9 c11 n xs j).length + 1 ≤ 9223372036854775807) ∧
              (refA_s8 c0 n j → refA_s2 n j = true → refA_s6 c0 c1 c5 c6 c7 c8 c9 c11 n xs j),
    refA_s0 n j →
      (refA_s3 c0 n j →
          (refA_s2 n j = true →
              (↑((refF 5959 c0 c1 c2 c3 c4 c5 c6 c7 c8 c9 c10 c11 c12 c13 c14 c15 n b xs).next j 0) ≤ max n 0 ∧ refA_s9 n xs) ∧
                (refF 5959 c0 c1 c2 c3 c4 c5 c6 c7 c8 c9 c10 c11 c12 c13 c14 c15 n b xs).μ ((refF 5959 c0 c1 c2 c3 c4 c5 c6 c7 c8 c9 c10 c11 c12 c13 c14 c15 n b xs).next j 0) <
                    (refF 5959 c0 c1 c2 c3 c4 c5 c6 c7 c8 c9 c10 c11 c12 c13 c14 c15 n b xs).μ j ∧
                  (refF 5959 c0 c1 c2 c3 c4 c5 c6 c7 c8 c9 c10 c11 c12 c13 c14 c15 n b xs).fin ((refF 5959 c0 c1 c2 c3 c4 c5 c6 c7 c8 c9 c10 c11 c12 c13 c14 c15 n b xs).next j 0) =
                      (refF 5959 c0 c1 c2 c3 c4 c5 c6 c7 c8 c9 c10 c11 c12 c13 c14 c15 n b xs).fin j ∧
                    Int.ofNat ((refF 5959 c0 c1 c2 c3 c4 c5 c6 c7 c8 c9 c10 c11 c12 c13 c14 c15 n b xs).next j 0 + 1) = refA_s10 j ∧
                      xs ++ rL c1 (flat_0 c1 c5 c6 c7) (flat_1 c1 c5 c6 c7) c0 c8 c9 c11 n ((refF 5959 c0 c1 c2 c3 c4 c5 c6 c7 c8 c9 c10 c11 c12 c13 c14 c15 n b xs).next j 0) =
                        refA_s7 c0 c1 c5 c6 c7 c8 c9 c11 n xs j ++ refA_s12 c1 c5 c6 c7 c8 c9 c11 n j) ∧
            (refA_s2 n j = false →
              (↑((refF 5959 c0 c1 c2 c3 c4 c5 c6 c7 c8 c9 c10 c11 c12 c13 c14 c15 n b xs).next j 1) ≤ max n 0 ∧ refA_s9 n xs) ∧
                (refF 5959 c0 c1 c2 c3 c4 c5 c6 c7 c8 c9 c10 c11 c12 c13 c14 c15 n b xs).μ ((refF 5959 c0 c1 c2 c3 c4 c5 c6 c7 c8 c9 c10 c11 c12 c13 c14 c15 n b xs).next j 1) <
                    (refF 5959 c0 c1 c2 c3 c4 c5 c6 c7 c8 c9 c10 c11 c12 c13 c14 c15 n b xs).μ j ∧
                  (refF 5959 c0 c1 c2 c3 c4 c5 c6 c7 c8 c9 c10 c11 c12 c13 c14 c15 n b xs).fin ((refF 5959 c0 c1 c2 c3 c4 c5 c6 c7 c8 c9 c10 c11 c12 c13 c14 c15 n b xs).next j 1) =
                      (refF 5959 c0 c1 c2 c3 c4 c5 c6 c7 c8 c9 c10 c11 c12 c13 c14 c15 n b xs).fin j ∧
                    Int.ofNat ((refF 5959 c0 c1 c2 c3 c4 c5 c6 c7 c8 c9 c10 c11 c12 c13 c14 c15 n b xs).next j 1 + 1) = refA_s10 j ∧
                      xs ++ rL c1 (flat_0 c1 c5 c6 c7) (flat_1 c1 c5 c6 c7) c0 c8 c9 c11 n ((refF 5959 c0 c1 c2 c3 c4 c5 c6 c7 c8 c9 c10 c11 c12 c13 c14 c15 n b xs).next j 1) =
                        refA_s7 c0 c1 c5 c6 c7 c8 c9 c11 n xs j)) ∧
        (refA_s8 c0 n j →
          (refA_s2 n j = true →
              (↑((refF 5959 c0 c1 c2 c3 c4 c5 c6 c7 c8 c9 c10 c11 c12 c13 c14 c15 n b xs).next j 2) ≤ max n 0 ∧ refA_s9 n xs) ∧
                (refF 5959 c0 c1 c2 c3 c4 c5 c6 c7 c8 c9 c10 c11 c12 c13 c14 c15 n b xs).μ ((refF 5959 c0 c1 c2 c3 c4 c5 c6 c7 c8 c9 c10 c11 c12 c13 c14 c15 n b xs).next j 2) <
                    (refF 5959 c0 c1 c2 c3 c4 c5 c6 c7 c8 c9 c10 c11 c12 c13 c14 c15 n b xs).μ j ∧
                  (refF 5959 c0 c1 c2 c3 c4 c5 c6 c7 c8 c9 c10 c11 c12 c13 c14 c15 n b xs).fin ((refF 5959 c0 c1 c2 c3 c4 c5 c6 c7 c8 c9 c10 c11 c12 c13 c14 c15 n b xs).next j 2) =
                      (refF 5959 c0 c1 c2 c3 c4 c5 c6 c7 c8 c9 c10 c11 c12 c13 c14 c15 n b xs).fin j ∧
                    Int.ofNat ((refF 5959 c0 c1 c2 c3 c4 c5 c6 c7 c8 c9 c10 c11 c12 c13 c14 c15 n b xs).next j 2 + 1) = refA_s10 j ∧
                      xs ++ rL c1 (flat_0 c1 c5 c6 c7) (flat_1 c1 c5 c6 c7) c0 c8 c9 c11 n ((refF 5959 c0 c1 c2 c3 c4 c5 c6 c7 c8 c9 c10 c11 c12 c13 c14 c15 n b xs).next j 2) =
                        refA_s5 c0 c1 c5 c6 c7 c8 c9 c11 n xs j ++ refA_s12 c1 c5 c6 c7 c8 c9 c11 n j) ∧
            (refA_s2 n j = false →
              (↑((refF 5959 c0 c1 c2 c3 c4 c5 c6 c7 c8 c9 c10 c11 c12 c13 c14 c15 n b xs).next j 3) ≤ max n 0 ∧ refA_s9 n xs) ∧
                (refF 5959 c0 c1 c2 c3 c4 c5 c6 c7 c8 c9 c10 c11 c12 c13 c14 c15 n b xs).μ ((refF 5959 c0 c1 c2 c3 c4 c5 c6 c7 c8 c9 c10 c11 c12 c13 c14 c15 n b xs).next j 3) <
                    (refF 5959 c0 c1 c2 c3 c4 c5 c6 c7 c8 c9 c10 c11 c12 c13 c14 c15 n b xs).μ j ∧
                  (refF 5959 c0 c1 c2 c3 c4 c5 c6 c7 c8 c9 c10 c11 c12 c13 c14 c15 n b xs).fin ((refF 5959 c0 c1 c2 c3 c4 c5 c6 c7 c8 c9 c10 c11 c12 c13 c14 c15 n b xs).next j 3) =
                      (refF 5959 c0 c1 c2 c3 c4 c5 c6 c7 c8 c9 c10 c11 c12 c13 c14 c15 n b xs).fin j ∧
                    Int.ofNat ((refF 5959 c0 c1 c2 c3 c4 c5 c6 c7 c8 c9 c10 c11 c12 c13 c14 c15 n b xs).next j 3 + 1) = refA_s10 j ∧
                      xs ++ rL c1 (flat_0 c1 c5 c6 c7) (flat_1 c1 c5 c6 c7) c0 c8 c9 c11 n ((refF 5959 c0 c1 c2 c3 c4 c5 c6 c7 c8 c9 c10 c11 c12 c13 c14 c15 n b xs).next j 3) =
                        refA_s5 c0 c1 c5 c6 c7 c8 c9 c11 n xs j)),
    decide (Int.ofNat (j + 1) ≤ n) = false → xs ++ rL c1 (flat_0 c1 c5 c6 c7) (flat_1 c1 c5 c6 c7) c0 c8 c9 c11 n n.toNat = refA_s1 c0 c1 c5 c6 c7 c8 c9 c11 n xs j]
theorem refA_round (c0 c1 c2 c3 c4 c5 c6 c7 c8 c9 c10 c11 c12 c13 c14 c15 n b : Int) (xs : List (List Int)) (j : Nat) (hNeeds : ∀ pN ∈ (refA_needs c0 c1 c2 c3 c4 c5 c6 c7 c8 c9 c10 c11 c12 c13 c14 c15 n b xs j), pN) : RoundOk (roundC (refF 5959 c0 c1 c2 c3 c4 c5 c6 c7 c8 c9 c10 c11 c12 c13 c14 c15 n b xs) (bodyOf Try.prog (sums K_expand) L_peck 32 0) 5959 j) :=
  RoundOk.of (ps := (refA_needs c0 c1 c2 c3 c4 c5 c6 c7 c8 c9 c10 c11 c12 c13 c14 c15 n b xs j)) (by kernel_rfl) (by kernel_rfl) hNeeds
theorem refA_rounds (c0 c1 c2 c3 c4 c5 c6 c7 c8 c9 c10 c11 c12 c13 c14 c15 n b : Int) (xs : List (List Int)) : RoundsOk (refF 5959 c0 c1 c2 c3 c4 c5 c6 c7 c8 c9 c10 c11 c12 c13 c14 c15 n b xs) (bodyOf Try.prog (sums K_expand) L_peck 32 0) 5959 := by
  rintro j ⟨h1, h2, h3⟩
  have h4 := rL_len c1 (flat_0 c1 c5 c6 c7) (flat_1 c1 c5 c6 c7) c0 c8 c9 c11 n j
  refine refA_round c0 c1 c2 c3 c4 c5 c6 c7 c8 c9 c10 c11 c12 c13 c14 c15 n b xs j fun q hq => ?_
  unfold refA_needs at hq
  simp only [List.mem_cons, List.not_mem_nil, or_false, refA_s0, refA_s1, refA_s2, refA_s3, refA_s4, refA_s5, refA_s6, refA_s7, refA_s8, refA_s9, refA_s10, refA_s11, refA_s12, refF, List.length_append, List.length_cons, List.length_nil, List.append_assoc, List.append_cancel_left_eq] at hq
  rcases hq with rfl | rfl | rfl
  · intro h
    have h5 : ((j + 1 : Nat) : Int) ≤ n := by simpa using h
    exact ⟨by omega, by omega, fun _ => ⟨by omega, by omega⟩, fun _ _ => ⟨by omega, by omega⟩, fun _ _ => ⟨by omega, by omega⟩⟩
  · intro h
    have h5 : ((j + 1 : Nat) : Int) ≤ n := by simpa using h
    have h6 : IntKind.i64.wrap (Int.ofNat (j + 1) + 1) = Int.ofNat (j + 1 + 1) := wrI (by simp; omega) (by simp; omega)
    have h7 : ((j + 1 : Nat) : Int) ≤ max n 0 := by omega
    have h8 : n.toNat - (j + 1) < n.toNat - j := by omega
    cases hlt : decide (Int.ofNat (j + 1) < n) <;> cases h83 : c0 == 83 <;>
      simp only [rL, rOne, peckOne, itm, deep, gap, hlt, h83, h6, h7, h8, h2, h3, cond_true, cond_false, Bool.and_true, Bool.and_false, Bool.true_and, Bool.false_and, List.nil_append, List.append_assoc, and_true, true_and, true_implies, false_implies, reduceCtorEq, and_self]
  · intro h
    have h5 : ¬ ((j + 1 : Nat) : Int) ≤ n := by simpa using h
    rw [show n.toNat = j by omega]
noncomputable def refB_s0 (n : Int) (j : Nat) : Prop :=
  decide (Int.ofNat (j + 1) ≤ n) = true
noncomputable def refB_s1 (c0 : Int) (c1 : Int) (c5 : Int) (c6 : Int) (c7 : Int) (c8 : Int) (c9 : Int) (c11 : Int) (n : Int) (xs : List (List Int)) (j : Nat) : List (List Int) :=
  xs ++ rL c1 (flat_0 c1 c5 c6 c7) (flat_1 c1 c5 c6 c7) c0 c8 c9 c11 n j
noncomputable def refB_s2 (n : Int) (j : Nat) : Bool :=
  decide (Int.ofNat (j + 1) < n)
noncomputable def refB_s3 (c0 : Int) (n : Int) (j : Nat) : Prop :=
  (refB_s2 n j && c0 == 83) = true
noncomputable def refB_s4 (c8 : Int) (c9 : Int) (c11 : Int) (n : Int) (j : Nat) : Int :=
  bif refB_s2 n j then IntKind.i64.wrap (c8 - IntKind.i64.wrap (Int.ofNat (j + 1) * c11)) else c9
noncomputable def refB_s5 (c0 : Int) (c1 : Int) (c5 : Int) (c6 : Int) (c7 : Int) (c8 : Int) (c9 : Int) (c11 : Int) (n : Int) (xs : List (List Int)) (j : Nat) : List (List Int) :=
  refB_s1 c0 c1 c5 c6 c7 c8 c9 c11 n xs j ++
    [[2, 0, 0, 0, 0, solid_0 c1 (flat_0 c1 c5 c6 c7) (flat_1 c1 c5 c6 c7) (refB_s4 c8 c9 c11 n j), solid_1 c1 (flat_0 c1 c5 c6 c7) (flat_1 c1 c5 c6 c7) (refB_s4 c8 c9 c11 n j),
        solid_2 c1 (flat_0 c1 c5 c6 c7) (flat_1 c1 c5 c6 c7) (refB_s4 c8 c9 c11 n j), 0, 0, 0, 0, 0, 0, 0, 0, 0, 0, 0, 0, 0, 0]]
noncomputable def refB_s6 (c0 : Int) (c1 : Int) (c5 : Int) (c6 : Int) (c7 : Int) (c8 : Int) (c9 : Int) (c11 : Int) (n : Int) (xs : List (List Int)) (j : Nat) : Prop :=
  ((refB_s5 c0 c1 c5 c6 c7 c8 c9 c11 n xs j).length + 1) * 176 ≤ 140737488355328 ∧ (refB_s5 c0 c1 c5 c6 c7 c8 c9 c11 n xs j).length + 1 ≤ 9223372036854775807
noncomputable def refB_s7 (c0 : Int) (c1 : Int) (c5 : Int) (c6 : Int) (c7 : Int) (c8 : Int) (c9 : Int) (c11 : Int) (n : Int) (xs : List (List Int)) (j : Nat) : List (List Int) :=
  refB_s5 c0 c1 c5 c6 c7 c8 c9 c11 n xs j ++
    [[1, 0, 0, 0, 0, solid_0 c1 (flat_0 c1 c5 c6 c7) (flat_1 c1 c5 c6 c7) c8, solid_1 c1 (flat_0 c1 c5 c6 c7) (flat_1 c1 c5 c6 c7) c8, solid_2 c1 (flat_0 c1 c5 c6 c7) (flat_1 c1 c5 c6 c7) c8, 0, 0, 0,
        0, 0, 0, 0, 0, 0, 0, 0, 0, 0, 0]]
noncomputable def refB_s8 (c0 : Int) (n : Int) (j : Nat) : Prop :=
  (refB_s2 n j && c0 == 83) = false
noncomputable def refB_s9 (n : Int) (xs : List (List Int)) : Prop :=
  n ≤ 1000 ∧ xs.length ≤ 1000
noncomputable def refB_s10 (j : Nat) : Int :=
  IntKind.i64.wrap (Int.ofNat (j + 1) + 1)
noncomputable def refB_s11 (c8 : Int) (c9 : Int) (c11 : Int) (n : Int) (j : Nat) : Int :=
  IntKind.i64.wrap (refB_s4 c8 c9 c11 n j + if c11 < 200 then c11 else 200)
noncomputable def refB_s12 (c1 : Int) (c5 : Int) (c6 : Int) (c7 : Int) (c8 : Int) (c9 : Int) (c11 : Int) (n : Int) (j : Nat) : List (List Int) :=
  [[1, 0, 0, 0, 0, solid_0 c1 (flat_0 c1 c5 c6 c7) (flat_1 c1 c5 c6 c7) (refB_s11 c8 c9 c11 n j), solid_1 c1 (flat_0 c1 c5 c6 c7) (flat_1 c1 c5 c6 c7) (refB_s11 c8 c9 c11 n j),
      solid_2 c1 (flat_0 c1 c5 c6 c7) (flat_1 c1 c5 c6 c7) (refB_s11 c8 c9 c11 n j), 0, 0, 0, 0, 0, 0, 0, 0, 0, 0, 0, 0, 0, 0]]
noncomputable def refB_needs (c0 : Int) (c1 : Int) (c2 : Int) (c3 : Int) (c4 : Int) (c5 : Int) (c6 : Int) (c7 : Int) (c8 : Int) (c9 : Int) (c10 : Int) (c11 : Int) (c12 : Int) (c13 : Int) (c14 : Int) (c15 : Int) (n : Int) (b : Int) (xs : List (List Int)) (j : Nat) : List Prop :=
  [refB_s0 n j →
      ((refB_s1 c0 c1 c5 c6 c7 c8 c9 c11 n xs j).length + 1) * 176 ≤ 140737488355328 ∧
        (refB_s1 c0 c1 c5 c6 c7 c8 c9 c11 n xs j).length + 1 ≤ 9223372036854775807 ∧
          (refB_s3 c0 n j → refB_s6 c0 c1 c5 c6 c7 c8 c9 c11 n xs j) ∧
            (refB_s3 c0 n j →
                refB_s2 n j = true → ((refB_s7 c0 c1 c5 c6 c7 c8 c9 c11 n xs j).length + 1) * 176 ≤ 140737488355328 ∧ (refB_s7 c0 c1 c5 c6 c7 c8 c9 c11 n xs j).length + 1 ≤ 9223372036854775807) ∧
              (refB_s8 c0 n j → refB_s2 n j = true → refB_s6 c0 c1 c5 c6 c7 c8 c9 c11 n xs j),
    refB_s0 n j →
      (refB_s3 c0 n j →
          (refB_s2 n j = true →
              (↑((refF 10977 c0 c1 c2 c3 c4 c5 c6 c7 c8 c9 c10 c11 c12 c13 c14 c15 n b xs).next j 0) ≤ max n 0 ∧ refB_s9 n xs) ∧
                (refF 10977 c0 c1 c2 c3 c4 c5 c6 c7 c8 c9 c10 c11 c12 c13 c14 c15 n b xs).μ ((refF 10977 c0 c1 c2 c3 c4 c5 c6 c7 c8 c9 c10 c11 c12 c13 c14 c15 n b xs).next j 0) <
                    (refF 10977 c0 c1 c2 c3 c4 c5 c6 c7 c8 c9 c10 c11 c12 c13 c14 c15 n b xs).μ j ∧
                  (refF 10977 c0 c1 c2 c3 c4 c5 c6 c7 c8 c9 c10 c11 c12 c13 c14 c15 n b xs).fin ((refF 10977 c0 c1 c2 c3 c4 c5 c6 c7 c8 c9 c10 c11 c12 c13 c14 c15 n b xs).next j 0) =
                      (refF 10977 c0 c1 c2 c3 c4 c5 c6 c7 c8 c9 c10 c11 c12 c13 c14 c15 n b xs).fin j ∧
                    Int.ofNat ((refF 10977 c0 c1 c2 c3 c4 c5 c6 c7 c8 c9 c10 c11 c12 c13 c14 c15 n b xs).next j 0 + 1) = refB_s10 j ∧
                      xs ++ rL c1 (flat_0 c1 c5 c6 c7) (flat_1 c1 c5 c6 c7) c0 c8 c9 c11 n ((refF 10977 c0 c1 c2 c3 c4 c5 c6 c7 c8 c9 c10 c11 c12 c13 c14 c15 n b xs).next j 0) =
                        refB_s7 c0 c1 c5 c6 c7 c8 c9 c11 n xs j ++ refB_s12 c1 c5 c6 c7 c8 c9 c11 n j) ∧
            (refB_s2 n j = false →
              (↑((refF 10977 c0 c1 c2 c3 c4 c5 c6 c7 c8 c9 c10 c11 c12 c13 c14 c15 n b xs).next j 1) ≤ max n 0 ∧ refB_s9 n xs) ∧
                (refF 10977 c0 c1 c2 c3 c4 c5 c6 c7 c8 c9 c10 c11 c12 c13 c14 c15 n b xs).μ ((refF 10977 c0 c1 c2 c3 c4 c5 c6 c7 c8 c9 c10 c11 c12 c13 c14 c15 n b xs).next j 1) <
                    (refF 10977 c0 c1 c2 c3 c4 c5 c6 c7 c8 c9 c10 c11 c12 c13 c14 c15 n b xs).μ j ∧
                  (refF 10977 c0 c1 c2 c3 c4 c5 c6 c7 c8 c9 c10 c11 c12 c13 c14 c15 n b xs).fin ((refF 10977 c0 c1 c2 c3 c4 c5 c6 c7 c8 c9 c10 c11 c12 c13 c14 c15 n b xs).next j 1) =
                      (refF 10977 c0 c1 c2 c3 c4 c5 c6 c7 c8 c9 c10 c11 c12 c13 c14 c15 n b xs).fin j ∧
                    Int.ofNat ((refF 10977 c0 c1 c2 c3 c4 c5 c6 c7 c8 c9 c10 c11 c12 c13 c14 c15 n b xs).next j 1 + 1) = refB_s10 j ∧
                      xs ++ rL c1 (flat_0 c1 c5 c6 c7) (flat_1 c1 c5 c6 c7) c0 c8 c9 c11 n ((refF 10977 c0 c1 c2 c3 c4 c5 c6 c7 c8 c9 c10 c11 c12 c13 c14 c15 n b xs).next j 1) =
                        refB_s7 c0 c1 c5 c6 c7 c8 c9 c11 n xs j)) ∧
        (refB_s8 c0 n j →
          (refB_s2 n j = true →
              (↑((refF 10977 c0 c1 c2 c3 c4 c5 c6 c7 c8 c9 c10 c11 c12 c13 c14 c15 n b xs).next j 2) ≤ max n 0 ∧ refB_s9 n xs) ∧
                (refF 10977 c0 c1 c2 c3 c4 c5 c6 c7 c8 c9 c10 c11 c12 c13 c14 c15 n b xs).μ ((refF 10977 c0 c1 c2 c3 c4 c5 c6 c7 c8 c9 c10 c11 c12 c13 c14 c15 n b xs).next j 2) <
                    (refF 10977 c0 c1 c2 c3 c4 c5 c6 c7 c8 c9 c10 c11 c12 c13 c14 c15 n b xs).μ j ∧
                  (refF 10977 c0 c1 c2 c3 c4 c5 c6 c7 c8 c9 c10 c11 c12 c13 c14 c15 n b xs).fin ((refF 10977 c0 c1 c2 c3 c4 c5 c6 c7 c8 c9 c10 c11 c12 c13 c14 c15 n b xs).next j 2) =
                      (refF 10977 c0 c1 c2 c3 c4 c5 c6 c7 c8 c9 c10 c11 c12 c13 c14 c15 n b xs).fin j ∧
                    Int.ofNat ((refF 10977 c0 c1 c2 c3 c4 c5 c6 c7 c8 c9 c10 c11 c12 c13 c14 c15 n b xs).next j 2 + 1) = refB_s10 j ∧
                      xs ++ rL c1 (flat_0 c1 c5 c6 c7) (flat_1 c1 c5 c6 c7) c0 c8 c9 c11 n ((refF 10977 c0 c1 c2 c3 c4 c5 c6 c7 c8 c9 c10 c11 c12 c13 c14 c15 n b xs).next j 2) =
                        refB_s5 c0 c1 c5 c6 c7 c8 c9 c11 n xs j ++ refB_s12 c1 c5 c6 c7 c8 c9 c11 n j) ∧
            (refB_s2 n j = false →
              (↑((refF 10977 c0 c1 c2 c3 c4 c5 c6 c7 c8 c9 c10 c11 c12 c13 c14 c15 n b xs).next j 3) ≤ max n 0 ∧ refB_s9 n xs) ∧
                (refF 10977 c0 c1 c2 c3 c4 c5 c6 c7 c8 c9 c10 c11 c12 c13 c14 c15 n b xs).μ ((refF 10977 c0 c1 c2 c3 c4 c5 c6 c7 c8 c9 c10 c11 c12 c13 c14 c15 n b xs).next j 3) <
                    (refF 10977 c0 c1 c2 c3 c4 c5 c6 c7 c8 c9 c10 c11 c12 c13 c14 c15 n b xs).μ j ∧
                  (refF 10977 c0 c1 c2 c3 c4 c5 c6 c7 c8 c9 c10 c11 c12 c13 c14 c15 n b xs).fin ((refF 10977 c0 c1 c2 c3 c4 c5 c6 c7 c8 c9 c10 c11 c12 c13 c14 c15 n b xs).next j 3) =
                      (refF 10977 c0 c1 c2 c3 c4 c5 c6 c7 c8 c9 c10 c11 c12 c13 c14 c15 n b xs).fin j ∧
                    Int.ofNat ((refF 10977 c0 c1 c2 c3 c4 c5 c6 c7 c8 c9 c10 c11 c12 c13 c14 c15 n b xs).next j 3 + 1) = refB_s10 j ∧
                      xs ++ rL c1 (flat_0 c1 c5 c6 c7) (flat_1 c1 c5 c6 c7) c0 c8 c9 c11 n ((refF 10977 c0 c1 c2 c3 c4 c5 c6 c7 c8 c9 c10 c11 c12 c13 c14 c15 n b xs).next j 3) =
                        refB_s5 c0 c1 c5 c6 c7 c8 c9 c11 n xs j)),
    decide (Int.ofNat (j + 1) ≤ n) = false → xs ++ rL c1 (flat_0 c1 c5 c6 c7) (flat_1 c1 c5 c6 c7) c0 c8 c9 c11 n n.toNat = refB_s1 c0 c1 c5 c6 c7 c8 c9 c11 n xs j]
theorem refB_round (c0 c1 c2 c3 c4 c5 c6 c7 c8 c9 c10 c11 c12 c13 c14 c15 n b : Int) (xs : List (List Int)) (j : Nat) (hNeeds : ∀ pN ∈ (refB_needs c0 c1 c2 c3 c4 c5 c6 c7 c8 c9 c10 c11 c12 c13 c14 c15 n b xs j), pN) : RoundOk (roundC (refF 10977 c0 c1 c2 c3 c4 c5 c6 c7 c8 c9 c10 c11 c12 c13 c14 c15 n b xs) (bodyOf Try.prog (sums K_expand) L_peck 32 0) 10977 j) :=
  RoundOk.of (ps := (refB_needs c0 c1 c2 c3 c4 c5 c6 c7 c8 c9 c10 c11 c12 c13 c14 c15 n b xs j)) (by kernel_rfl) (by kernel_rfl) hNeeds
theorem refB_rounds (c0 c1 c2 c3 c4 c5 c6 c7 c8 c9 c10 c11 c12 c13 c14 c15 n b : Int) (xs : List (List Int)) : RoundsOk (refF 10977 c0 c1 c2 c3 c4 c5 c6 c7 c8 c9 c10 c11 c12 c13 c14 c15 n b xs) (bodyOf Try.prog (sums K_expand) L_peck 32 0) 10977 := by
  rintro j ⟨h1, h2, h3⟩
  have h4 := rL_len c1 (flat_0 c1 c5 c6 c7) (flat_1 c1 c5 c6 c7) c0 c8 c9 c11 n j
  refine refB_round c0 c1 c2 c3 c4 c5 c6 c7 c8 c9 c10 c11 c12 c13 c14 c15 n b xs j fun q hq => ?_
  unfold refB_needs at hq
  simp only [List.mem_cons, List.not_mem_nil, or_false, refB_s0, refB_s1, refB_s2, refB_s3, refB_s4, refB_s5, refB_s6, refB_s7, refB_s8, refB_s9, refB_s10, refB_s11, refB_s12, refF, List.length_append, List.length_cons, List.length_nil, List.append_assoc, List.append_cancel_left_eq] at hq
  rcases hq with rfl | rfl | rfl
  · intro h
    have h5 : ((j + 1 : Nat) : Int) ≤ n := by simpa using h
    exact ⟨by omega, by omega, fun _ => ⟨by omega, by omega⟩, fun _ _ => ⟨by omega, by omega⟩, fun _ _ => ⟨by omega, by omega⟩⟩
  · intro h
    have h5 : ((j + 1 : Nat) : Int) ≤ n := by simpa using h
    have h6 : IntKind.i64.wrap (Int.ofNat (j + 1) + 1) = Int.ofNat (j + 1 + 1) := wrI (by simp; omega) (by simp; omega)
    have h7 : ((j + 1 : Nat) : Int) ≤ max n 0 := by omega
    have h8 : n.toNat - (j + 1) < n.toNat - j := by omega
    cases hlt : decide (Int.ofNat (j + 1) < n) <;> cases h83 : c0 == 83 <;>
      simp only [rL, rOne, peckOne, itm, deep, gap, hlt, h83, h6, h7, h8, h2, h3, cond_true, cond_false, Bool.and_true, Bool.and_false, Bool.true_and, Bool.false_and, List.nil_append, List.append_assoc, and_true, true_and, true_implies, false_implies, reduceCtorEq, and_self]
  · intro h
    have h5 : ¬ ((j + 1 : Nat) : Int) ≤ n := by simpa using h
    rw [show n.toNat = j by omega]
theorem hts1_ge (c0 c1 c2 c3 c4 c5 c6 c7 c8 c9 c10 c11 c12 c13 c14 c15 : Int) (h : (chk c0 c1 c2 c3 c4 c5 c6 c7 c8 c9 c10 c11 c12 c13 c14 c15 != 0) = false) : 1 ≤ hts1 c0 c1 c2 c3 c4 c5 c6 c7 c8 c9 c10 c11 c12 c13 c14 c15 := by
  unfold hts1
  rw [h]
  simp only [cond_false]
  unfold hn
  cases hp : (c0 == 73 || c0 == 83)
  · simp
  · simp only [cond_true]
    have h11 := chk_peck c0 c1 c2 c3 c4 c5 c6 c7 c8 c9 c10 c11 c12 c13 c14 c15 h hp
    unfold chk at h
    cases h1 : codeOk c0 <;> rw [h1] at h
    · simp at h
    cases h2 : argBad c1 c2 c3 c4 c5 c6 c7 c8 c9 c10 c12 c13 c14 c15 <;> rw [h2] at h
    · unfold argBad at h2
      simp only [Bool.or_eq_false_iff, Bool.not_eq_false', Bool.and_eq_true, decide_eq_true_eq, decide_eq_false_iff_not] at h2
      have q1 : c9 < c8 := by omega
      have q2 : -1048576 ≤ c8 ∧ c8 ≤ 1048576 := by omega
      have q3 : -1048576 ≤ c9 ∧ c9 ≤ 1048576 := by omega
      unfold pk
      rw [wrI (x := c8 - c9) (by omega) (by omega), wrI (x := c8 - c9 - 1) (by omega) (by omega)]
      have q4 : 0 ≤ (c8 - c9 - 1).tdiv c11 := Int.tdiv_nonneg (by omega) (by omega)
      have q5 : (c8 - c9 - 1).tdiv c11 ≤ c8 - c9 - 1 := Int.tdiv_le_self _ (by omega)
      rw [wrI (x := (c8 - c9 - 1).tdiv c11) (by omega) (by omega), wrI (x := (c8 - c9 - 1).tdiv c11 + 1) (by omega) (by omega)]
      omega
    · simp at h
/-- The loop. -/
noncomputable def refL : LoopS := fun env mem m => match mInts mem 0, eInt env 6, eInt env 5, eRow itemKs env mem 9 with
  | some [c0, c1, c2, c3, c4, c5, c6, c7, c8, c9, c10, c11, c12, c13, c14, c15], some n, some b, some xs =>
    bif Nat.beq m 5959 then famS (refF 5959 c0 c1 c2 c3 c4 c5 c6 c7 c8 c9 c10 c11 c12 c13 c14 c15 n b xs) 5959 (fun _ _ => some 0) env mem m
    else famS (refF 10977 c0 c1 c2 c3 c4 c5 c6 c7 c8 c9 c10 c11 c12 c13 c14 c15 n b xs) 10977 (fun _ _ => some 0) env mem m
  | _, _, _, _ => none
noncomputable def L_ref : FuncId → Nat → Option LoopS := addL L_peck 32 25 refL
theorem known_refL : Known Try.prog (sums K_expand) L_ref := by
  refine known_addL 0 known_expand (by kernel_rfl) (codeOk_of fun env mem m x h => ?_)
  unfold refL at h
  have hlen : (loopList Try.prog 32).length = 1 := by kernel_rfl
  split at h
  · cases hb : Nat.beq m 5959 <;> rw [hb] at h <;> simp only [cond_true, cond_false] at h
    · exact ⟨_, fam_ok (bodyOf_ok plainN known_expand (by omega)) (refB_rounds _ _ _ _ _ _ _ _ _ _ _ _ _ _ _ _ _ _ _), h⟩
    · exact ⟨_, fam_ok (bodyOf_ok plainN known_expand (by omega)) (refA_rounds _ _ _ _ _ _ _ _ _ _ _ _ _ _ _ _ _ _ _), h⟩
  · cases h
noncomputable def rexpand_tpl : Tpl := ⟨[.agg [.int .i64, .int .i64, .int .i64, .int .i64, .int .i64, .int .i64, .int .i64, .int .i64, .int .i64, .int .i64, .int .i64, .int .i64, .int .i64, .int .i64, .int .i64, .int .i64]], [], 0⟩
noncomputable def rexpand_s0 (c1 : Int) (c2 : Int) (c3 : Int) (c4 : Int) (c8 : Int) : Int :=
  if c8 > flat_2 c1 c2 c3 c4 then c8 else flat_2 c1 c2 c3 c4
noncomputable def rexpand_s1 (c1 : Int) (c5 : Int) (c6 : Int) (c7 : Int) (c8 : Int) : List Int :=
  [0, 0, 0, 0, solid_0 c1 (flat_0 c1 c5 c6 c7) (flat_1 c1 c5 c6 c7) c8, solid_1 c1 (flat_0 c1 c5 c6 c7) (flat_1 c1 c5 c6 c7) c8, solid_2 c1 (flat_0 c1 c5 c6 c7) (flat_1 c1 c5 c6 c7) c8, 0, 0, 0, 0, 0,
    0, 0, 0, 0, 0, 0, 0, 0, 0]
noncomputable def rexpand_s2 (c0 : Int) (c1 : Int) (c2 : Int) (c3 : Int) (c4 : Int) (c5 : Int) (c6 : Int) (c7 : Int) (c8 : Int) (c9 : Int) (c10 : Int) (c11 : Int) (c12 : Int) (c13 : Int) (c14 : Int) (c15 : Int) : List (List Int) :=
  [[1, 0, 0, 0, 0, solid_0 c1 (flat_0 c1 c5 c6 c7) (flat_1 c1 c5 c6 c7) (hts0 c0 c1 c2 c3 c4 c5 c6 c7 c8 c9 c10 c11 c12 c13 c14 c15),
      solid_1 c1 (flat_0 c1 c5 c6 c7) (flat_1 c1 c5 c6 c7) (hts0 c0 c1 c2 c3 c4 c5 c6 c7 c8 c9 c10 c11 c12 c13 c14 c15),
      solid_2 c1 (flat_0 c1 c5 c6 c7) (flat_1 c1 c5 c6 c7) (hts0 c0 c1 c2 c3 c4 c5 c6 c7 c8 c9 c10 c11 c12 c13 c14 c15), 0, 0, 0, 0, 0, 0, 0, 0, 0, 0, 0, 0, 0, 0]]
noncomputable def rexpand_s3 (c0 : Int) (c1 : Int) (c2 : Int) (c3 : Int) (c4 : Int) (c5 : Int) (c6 : Int) (c7 : Int) (c8 : Int) (c9 : Int) (c10 : Int) (c11 : Int) (c12 : Int) (c13 : Int) (c14 : Int) (c15 : Int) : List (List Int) :=
  [1, 0, 0, 0, 0, solid_0 c1 (flat_0 c1 c5 c6 c7) (flat_1 c1 c5 c6 c7) (rexpand_s0 c1 c2 c3 c4 c8), solid_1 c1 (flat_0 c1 c5 c6 c7) (flat_1 c1 c5 c6 c7) (rexpand_s0 c1 c2 c3 c4 c8),
      solid_2 c1 (flat_0 c1 c5 c6 c7) (flat_1 c1 c5 c6 c7) (rexpand_s0 c1 c2 c3 c4 c8), 0, 0, 0, 0, 0, 0, 0, 0, 0, 0, 0, 0, 0, 0] ::
    (1 :: rexpand_s1 c1 c5 c6 c7 c8) ::
      [2, 0, 0, 0, 0, solid_0 c1 (flat_0 c1 c5 c6 c7) (flat_1 c1 c5 c6 c7) c9, solid_1 c1 (flat_0 c1 c5 c6 c7) (flat_1 c1 c5 c6 c7) c9, solid_2 c1 (flat_0 c1 c5 c6 c7) (flat_1 c1 c5 c6 c7) c9, 0, 0, 0,
          0, 0, 0, 0, 0, 0, 0, 0, 0, 0, 0] ::
        rexpand_s2 c0 c1 c2 c3 c4 c5 c6 c7 c8 c9 c10 c11 c12 c13 c14 c15
noncomputable def rexpand_s4 (c0 : Int) (c1 : Int) (c2 : Int) (c3 : Int) (c4 : Int) (c5 : Int) (c6 : Int) (c7 : Int) (c8 : Int) (c9 : Int) (c10 : Int) (c11 : Int) (c12 : Int) (c13 : Int) (c14 : Int) (c15 : Int) : List (List Int) :=
  [1, 0, 0, 0, 0, solid_0 c1 (flat_0 c1 c5 c6 c7) (flat_1 c1 c5 c6 c7) (rexpand_s0 c1 c2 c3 c4 c8), solid_1 c1 (flat_0 c1 c5 c6 c7) (flat_1 c1 c5 c6 c7) (rexpand_s0 c1 c2 c3 c4 c8),
      solid_2 c1 (flat_0 c1 c5 c6 c7) (flat_1 c1 c5 c6 c7) (rexpand_s0 c1 c2 c3 c4 c8), 0, 0, 0, 0, 0, 0, 0, 0, 0, 0, 0, 0, 0, 0] ::
    (1 :: rexpand_s1 c1 c5 c6 c7 c8) ::
      [2, 0, 0, 0, 0, solid_0 c1 (flat_0 c1 c5 c6 c7) (flat_1 c1 c5 c6 c7) c9, solid_1 c1 (flat_0 c1 c5 c6 c7) (flat_1 c1 c5 c6 c7) c9, solid_2 c1 (flat_0 c1 c5 c6 c7) (flat_1 c1 c5 c6 c7) c9, 0, 0, 0,
          0, 0, 0, 0, 0, 0, 0, 0, 0, 0, 0] ::
        [7, 0, 0, 0, 0, 0, 0, 0, 0, 0, 0, 0, 0, 0, 0, 0, 0, 0, 0, c12, 0, 0] :: rexpand_s2 c0 c1 c2 c3 c4 c5 c6 c7 c8 c9 c10 c11 c12 c13 c14 c15
noncomputable def rexpand_s5 (c0 : Int) (c1 : Int) (c2 : Int) (c3 : Int) (c4 : Int) (c5 : Int) (c6 : Int) (c7 : Int) (c8 : Int) (c9 : Int) (c10 : Int) (c11 : Int) (c12 : Int) (c13 : Int) (c14 : Int) (c15 : Int) : List (List Int) :=
  (2 :: rexpand_s1 c1 c5 c6 c7 c8) :: rexpand_s2 c0 c1 c2 c3 c4 c5 c6 c7 c8 c9 c10 c11 c12 c13 c14 c15
noncomputable def rexpand_s6 (c0 : Int) (c1 : Int) (c2 : Int) (c3 : Int) (c4 : Int) (c5 : Int) (c6 : Int) (c7 : Int) (c8 : Int) (c9 : Int) (c10 : Int) (c11 : Int) (c12 : Int) (c13 : Int) (c14 : Int) (c15 : Int) : List (List Int) :=
  [1, 0, 0, 0, 0, solid_0 c1 (flat_0 c1 c5 c6 c7) (flat_1 c1 c5 c6 c7) (rexpand_s0 c1 c2 c3 c4 c8), solid_1 c1 (flat_0 c1 c5 c6 c7) (flat_1 c1 c5 c6 c7) (rexpand_s0 c1 c2 c3 c4 c8),
      solid_2 c1 (flat_0 c1 c5 c6 c7) (flat_1 c1 c5 c6 c7) (rexpand_s0 c1 c2 c3 c4 c8), 0, 0, 0, 0, 0, 0, 0, 0, 0, 0, 0, 0, 0, 0] ::
    (1 :: rexpand_s1 c1 c5 c6 c7 c8) ::
      [2, 0, 0, 0, 0, solid_0 c1 (flat_0 c1 c5 c6 c7) (flat_1 c1 c5 c6 c7) c9, solid_1 c1 (flat_0 c1 c5 c6 c7) (flat_1 c1 c5 c6 c7) c9, solid_2 c1 (flat_0 c1 c5 c6 c7) (flat_1 c1 c5 c6 c7) c9, 0, 0, 0,
          0, 0, 0, 0, 0, 0, 0, 0, 0, 0, 0] ::
        rexpand_s5 c0 c1 c2 c3 c4 c5 c6 c7 c8 c9 c10 c11 c12 c13 c14 c15
noncomputable def rexpand_s7 (c0 : Int) (c1 : Int) (c2 : Int) (c3 : Int) (c4 : Int) (c5 : Int) (c6 : Int) (c7 : Int) (c8 : Int) (c9 : Int) (c10 : Int) (c11 : Int) (c12 : Int) (c13 : Int) (c14 : Int) (c15 : Int) : List (List Int) :=
  [1, 0, 0, 0, 0, solid_0 c1 (flat_0 c1 c5 c6 c7) (flat_1 c1 c5 c6 c7) (rexpand_s0 c1 c2 c3 c4 c8), solid_1 c1 (flat_0 c1 c5 c6 c7) (flat_1 c1 c5 c6 c7) (rexpand_s0 c1 c2 c3 c4 c8),
      solid_2 c1 (flat_0 c1 c5 c6 c7) (flat_1 c1 c5 c6 c7) (rexpand_s0 c1 c2 c3 c4 c8), 0, 0, 0, 0, 0, 0, 0, 0, 0, 0, 0, 0, 0, 0] ::
    (1 :: rexpand_s1 c1 c5 c6 c7 c8) ::
      [2, 0, 0, 0, 0, solid_0 c1 (flat_0 c1 c5 c6 c7) (flat_1 c1 c5 c6 c7) c9, solid_1 c1 (flat_0 c1 c5 c6 c7) (flat_1 c1 c5 c6 c7) c9, solid_2 c1 (flat_0 c1 c5 c6 c7) (flat_1 c1 c5 c6 c7) c9, 0, 0, 0,
          0, 0, 0, 0, 0, 0, 0, 0, 0, 0, 0] ::
        [7, 0, 0, 0, 0, 0, 0, 0, 0, 0, 0, 0, 0, 0, 0, 0, 0, 0, 0, c12, 0, 0] :: rexpand_s5 c0 c1 c2 c3 c4 c5 c6 c7 c8 c9 c10 c11 c12 c13 c14 c15
noncomputable def rexpand_s8 (c0 : Int) (c1 : Int) (c2 : Int) (c3 : Int) (c4 : Int) (c5 : Int) (c6 : Int) (c7 : Int) (c8 : Int) (c9 : Int) (c10 : Int) (c11 : Int) (c12 : Int) (c13 : Int) (c14 : Int) (c15 : Int) : List (List Int) :=
  [[1, 0, 0, 0, 0, solid_0 c1 (flat_0 c1 c5 c6 c7) (flat_1 c1 c5 c6 c7) (rexpand_s0 c1 c2 c3 c4 c8), solid_1 c1 (flat_0 c1 c5 c6 c7) (flat_1 c1 c5 c6 c7) (rexpand_s0 c1 c2 c3 c4 c8),
      solid_2 c1 (flat_0 c1 c5 c6 c7) (flat_1 c1 c5 c6 c7) (rexpand_s0 c1 c2 c3 c4 c8), 0, 0, 0, 0, 0, 0, 0, 0, 0, 0, 0, 0, 0, 0],
    1 :: rexpand_s1 c1 c5 c6 c7 c8,
    [2, 0, 0, 0, 0, solid_0 c1 (flat_0 c1 c5 c6 c7) (flat_1 c1 c5 c6 c7) c9, solid_1 c1 (flat_0 c1 c5 c6 c7) (flat_1 c1 c5 c6 c7) c9, solid_2 c1 (flat_0 c1 c5 c6 c7) (flat_1 c1 c5 c6 c7) c9, 0, 0, 0, 0,
      0, 0, 0, 0, 0, 0, 0, 0, 0, 0],
    [7, 0, 0, 0, 0, 0, 0, 0, 0, 0, 0, 0, 0, 0, 0, 0, 0, 0, 0, c12, 0, 0], [8, 0, 0, 0, 0, 0, 0, 0, 0, 0, 0, 0, 0, 0, 0, 0, 0, 0, 0, 5, 0, 0],
    [1, 0, 0, 0, 0, solid_0 c1 (flat_0 c1 c5 c6 c7) (flat_1 c1 c5 c6 c7) (hts0 c0 c1 c2 c3 c4 c5 c6 c7 c8 c9 c10 c11 c12 c13 c14 c15),
      solid_1 c1 (flat_0 c1 c5 c6 c7) (flat_1 c1 c5 c6 c7) (hts0 c0 c1 c2 c3 c4 c5 c6 c7 c8 c9 c10 c11 c12 c13 c14 c15),
      solid_2 c1 (flat_0 c1 c5 c6 c7) (flat_1 c1 c5 c6 c7) (hts0 c0 c1 c2 c3 c4 c5 c6 c7 c8 c9 c10 c11 c12 c13 c14 c15), 0, 0, 0, 0, 0, 0, 0, 0, 0, 0, 0, 0, 0, 0],
    [8, 0, 0, 0, 0, 0, 0, 0, 0, 0, 0, 0, 0, 0, 0, 0, 0, 0, 0, c14, c15, 0]]
noncomputable def rexpand_s9 (c0 : Int) (c1 : Int) (c2 : Int) (c3 : Int) (c4 : Int) (c5 : Int) (c6 : Int) (c7 : Int) (c8 : Int) (c9 : Int) (c10 : Int) (c11 : Int) (c12 : Int) (c13 : Int) (c14 : Int) (c15 : Int) : List (List Int) :=
  [1, 0, 0, 0, 0, solid_0 c1 (flat_0 c1 c5 c6 c7) (flat_1 c1 c5 c6 c7) (rexpand_s0 c1 c2 c3 c4 c8), solid_1 c1 (flat_0 c1 c5 c6 c7) (flat_1 c1 c5 c6 c7) (rexpand_s0 c1 c2 c3 c4 c8),
      solid_2 c1 (flat_0 c1 c5 c6 c7) (flat_1 c1 c5 c6 c7) (rexpand_s0 c1 c2 c3 c4 c8), 0, 0, 0, 0, 0, 0, 0, 0, 0, 0, 0, 0, 0, 0] ::
    (1 :: rexpand_s1 c1 c5 c6 c7 c8) ::
      [6, 0, 0, 0, 0, solid_0 c1 (flat_0 c1 c5 c6 c7) (flat_1 c1 c5 c6 c7) c9, solid_1 c1 (flat_0 c1 c5 c6 c7) (flat_1 c1 c5 c6 c7) c9, solid_2 c1 (flat_0 c1 c5 c6 c7) (flat_1 c1 c5 c6 c7) c9, 0, 0, 0,
          0, 0, 0, 0, 0, 0, 0, 0, c14, 0, 0] ::
        [6, 0, 0, 0, 0, solid_0 c1 (flat_0 c1 c5 c6 c7) (flat_1 c1 c5 c6 c7) c8, solid_1 c1 (flat_0 c1 c5 c6 c7) (flat_1 c1 c5 c6 c7) c8, solid_2 c1 (flat_0 c1 c5 c6 c7) (flat_1 c1 c5 c6 c7) c8, 0, 0,
            0, 0, 0, 0, 0, 0, 0, 0, 0, IntKind.i64.wrap (7 - c14), 0, 0] ::
          rexpand_s2 c0 c1 c2 c3 c4 c5 c6 c7 c8 c9 c10 c11 c12 c13 c14 c15
noncomputable def rexpand_s10 (c1 : Int) (c2 : Int) (c3 : Int) (c4 : Int) (c5 : Int) (c6 : Int) (c7 : Int) (c8 : Int) : List (List Int) :=
  [[1, 0, 0, 0, 0, solid_0 c1 (flat_0 c1 c5 c6 c7) (flat_1 c1 c5 c6 c7) (rexpand_s0 c1 c2 c3 c4 c8), solid_1 c1 (flat_0 c1 c5 c6 c7) (flat_1 c1 c5 c6 c7) (rexpand_s0 c1 c2 c3 c4 c8),
      solid_2 c1 (flat_0 c1 c5 c6 c7) (flat_1 c1 c5 c6 c7) (rexpand_s0 c1 c2 c3 c4 c8), 0, 0, 0, 0, 0, 0, 0, 0, 0, 0, 0, 0, 0, 0],
    1 :: rexpand_s1 c1 c5 c6 c7 c8]
noncomputable def rexpand_s11 (c0 : Int) (c1 : Int) (c2 : Int) (c3 : Int) (c4 : Int) (c5 : Int) (c6 : Int) (c7 : Int) (c8 : Int) (c9 : Int) (c10 : Int) (c11 : Int) (c12 : Int) (c13 : Int) (c14 : Int) (c15 : Int) : List (List Int) :=
  rL c1 (flat_0 c1 c5 c6 c7) (flat_1 c1 c5 c6 c7) c0 c8 c9 c11 (hts1 c0 c1 c2 c3 c4 c5 c6 c7 c8 c9 c10 c11 c12 c13 c14 c15) (hts1 c0 c1 c2 c3 c4 c5 c6 c7 c8 c9 c10 c11 c12 c13 c14 c15).toNat
noncomputable def rexpand_1 (c0 : Int) (c1 : Int) (c2 : Int) (c3 : Int) (c4 : Int) (c5 : Int) (c6 : Int) (c7 : Int) (c8 : Int) (c9 : Int) (c10 : Int) (c11 : Int) (c12 : Int) (c13 : Int) (c14 : Int) (c15 : Int) : List (List Int) :=
  bif chk c0 c1 c2 c3 c4 c5 c6 c7 c8 c9 c10 c11 c12 c13 c14 c15 != 0 then []
  else
    bif decide (flat_2 c1 c2 c3 c4 < c8) then
      bif c0 == 81 then
        [1, 0, 0, 0, 0, solid_0 c1 (flat_0 c1 c2 c3 c4) (flat_1 c1 c2 c3 c4) c8, solid_1 c1 (flat_0 c1 c2 c3 c4) (flat_1 c1 c2 c3 c4) c8, solid_2 c1 (flat_0 c1 c2 c3 c4) (flat_1 c1 c2 c3 c4) c8, 0, 0,
            0, 0, 0, 0, 0, 0, 0, 0, 0, 0, 0, 0] ::
          rexpand_s3 c0 c1 c2 c3 c4 c5 c6 c7 c8 c9 c10 c11 c12 c13 c14 c15
      else
        bif c0 == 82 then
          [1, 0, 0, 0, 0, solid_0 c1 (flat_0 c1 c2 c3 c4) (flat_1 c1 c2 c3 c4) c8, solid_1 c1 (flat_0 c1 c2 c3 c4) (flat_1 c1 c2 c3 c4) c8, solid_2 c1 (flat_0 c1 c2 c3 c4) (flat_1 c1 c2 c3 c4) c8, 0, 0,
              0, 0, 0, 0, 0, 0, 0, 0, 0, 0, 0, 0] ::
            rexpand_s4 c0 c1 c2 c3 c4 c5 c6 c7 c8 c9 c10 c11 c12 c13 c14 c15
        else
          bif c0 == 85 then
            [1, 0, 0, 0, 0, solid_0 c1 (flat_0 c1 c2 c3 c4) (flat_1 c1 c2 c3 c4) c8, solid_1 c1 (flat_0 c1 c2 c3 c4) (flat_1 c1 c2 c3 c4) c8, solid_2 c1 (flat_0 c1 c2 c3 c4) (flat_1 c1 c2 c3 c4) c8, 0,
                0, 0, 0, 0, 0, 0, 0, 0, 0, 0, 0, 0, 0] ::
              rexpand_s6 c0 c1 c2 c3 c4 c5 c6 c7 c8 c9 c10 c11 c12 c13 c14 c15
          else
            bif c0 == 89 then
              [1, 0, 0, 0, 0, solid_0 c1 (flat_0 c1 c2 c3 c4) (flat_1 c1 c2 c3 c4) c8, solid_1 c1 (flat_0 c1 c2 c3 c4) (flat_1 c1 c2 c3 c4) c8, solid_2 c1 (flat_0 c1 c2 c3 c4) (flat_1 c1 c2 c3 c4) c8,
                  0, 0, 0, 0, 0, 0, 0, 0, 0, 0, 0, 0, 0, 0] ::
                rexpand_s7 c0 c1 c2 c3 c4 c5 c6 c7 c8 c9 c10 c11 c12 c13 c14 c15
            else
              bif c0 == 86 then
                [1, 0, 0, 0, 0, solid_0 c1 (flat_0 c1 c2 c3 c4) (flat_1 c1 c2 c3 c4) c8, solid_1 c1 (flat_0 c1 c2 c3 c4) (flat_1 c1 c2 c3 c4) c8, solid_2 c1 (flat_0 c1 c2 c3 c4) (flat_1 c1 c2 c3 c4) c8,
                    0, 0, 0, 0, 0, 0, 0, 0, 0, 0, 0, 0, 0, 0] ::
                  rexpand_s8 c0 c1 c2 c3 c4 c5 c6 c7 c8 c9 c10 c11 c12 c13 c14 c15
              else
                bif bif c0 == 74 then c0 == 74 else c0 == 84 then
                  [1, 0, 0, 0, 0, solid_0 c1 (flat_0 c1 c2 c3 c4) (flat_1 c1 c2 c3 c4) c8, solid_1 c1 (flat_0 c1 c2 c3 c4) (flat_1 c1 c2 c3 c4) c8,
                      solid_2 c1 (flat_0 c1 c2 c3 c4) (flat_1 c1 c2 c3 c4) c8, 0, 0, 0, 0, 0, 0, 0, 0, 0, 0, 0, 0, 0, 0] ::
                    rexpand_s9 c0 c1 c2 c3 c4 c5 c6 c7 c8 c9 c10 c11 c12 c13 c14 c15
                else
                  [1, 0, 0, 0, 0, solid_0 c1 (flat_0 c1 c2 c3 c4) (flat_1 c1 c2 c3 c4) c8, solid_1 c1 (flat_0 c1 c2 c3 c4) (flat_1 c1 c2 c3 c4) c8,
                          solid_2 c1 (flat_0 c1 c2 c3 c4) (flat_1 c1 c2 c3 c4) c8, 0, 0, 0, 0, 0, 0, 0, 0, 0, 0, 0, 0, 0, 0] ::
                        rexpand_s10 c1 c2 c3 c4 c5 c6 c7 c8 ++
                      rexpand_s11 c0 c1 c2 c3 c4 c5 c6 c7 c8 c9 c10 c11 c12 c13 c14 c15 ++
                    rexpand_s2 c0 c1 c2 c3 c4 c5 c6 c7 c8 c9 c10 c11 c12 c13 c14 c15
    else
      bif c0 == 81 then rexpand_s3 c0 c1 c2 c3 c4 c5 c6 c7 c8 c9 c10 c11 c12 c13 c14 c15
      else
        bif c0 == 82 then rexpand_s4 c0 c1 c2 c3 c4 c5 c6 c7 c8 c9 c10 c11 c12 c13 c14 c15
        else
          bif c0 == 85 then rexpand_s6 c0 c1 c2 c3 c4 c5 c6 c7 c8 c9 c10 c11 c12 c13 c14 c15
          else
            bif c0 == 89 then rexpand_s7 c0 c1 c2 c3 c4 c5 c6 c7 c8 c9 c10 c11 c12 c13 c14 c15
            else
              bif c0 == 86 then rexpand_s8 c0 c1 c2 c3 c4 c5 c6 c7 c8 c9 c10 c11 c12 c13 c14 c15
              else
                bif bif c0 == 74 then c0 == 74 else c0 == 84 then rexpand_s9 c0 c1 c2 c3 c4 c5 c6 c7 c8 c9 c10 c11 c12 c13 c14 c15
                else rexpand_s10 c1 c2 c3 c4 c5 c6 c7 c8 ++ rexpand_s11 c0 c1 c2 c3 c4 c5 c6 c7 c8 c9 c10 c11 c12 c13 c14 c15 ++ rexpand_s2 c0 c1 c2 c3 c4 c5 c6 c7 c8 c9 c10 c11 c12 c13 c14 c15
noncomputable def rexpand_s12 (c0 : Int) : Prop :=
  (bif c0 == 74 then c0 == 74 else c0 == 84) = false
noncomputable def rexpand_s13 (c1 : Int) (c2 : Int) (c3 : Int) (c4 : Int) (c5 : Int) (c6 : Int) (c7 : Int) (c8 : Int) : List (List Int) :=
  [[1, 0, 0, 0, 0, solid_0 c1 (flat_0 c1 c5 c6 c7) (flat_1 c1 c5 c6 c7) (rexpand_s0 c1 c2 c3 c4 c8), solid_1 c1 (flat_0 c1 c5 c6 c7) (flat_1 c1 c5 c6 c7) (rexpand_s0 c1 c2 c3 c4 c8),
      solid_2 c1 (flat_0 c1 c5 c6 c7) (flat_1 c1 c5 c6 c7) (rexpand_s0 c1 c2 c3 c4 c8), 0, 0, 0, 0, 0, 0, 0, 0, 0, 0, 0, 0, 0, 0],
    [1, 0, 0, 0, 0, solid_0 c1 (flat_0 c1 c5 c6 c7) (flat_1 c1 c5 c6 c7) c8, solid_1 c1 (flat_0 c1 c5 c6 c7) (flat_1 c1 c5 c6 c7) c8, solid_2 c1 (flat_0 c1 c5 c6 c7) (flat_1 c1 c5 c6 c7) c8, 0, 0, 0, 0,
      0, 0, 0, 0, 0, 0, 0, 0, 0, 0]]
noncomputable def rexpand_s14 (c1 : Int) (c2 : Int) (c3 : Int) (c4 : Int) (c5 : Int) (c6 : Int) (c7 : Int) (c8 : Int) : List (List Int) :=
  [1, 0, 0, 0, 0, solid_0 c1 (flat_0 c1 c2 c3 c4) (flat_1 c1 c2 c3 c4) c8, solid_1 c1 (flat_0 c1 c2 c3 c4) (flat_1 c1 c2 c3 c4) c8, solid_2 c1 (flat_0 c1 c2 c3 c4) (flat_1 c1 c2 c3 c4) c8, 0, 0, 0, 0,
      0, 0, 0, 0, 0, 0, 0, 0, 0, 0] ::
    rexpand_s13 c1 c2 c3 c4 c5 c6 c7 c8
noncomputable def rexpand_s15 (c0 : Int) (c1 : Int) (c2 : Int) (c3 : Int) (c4 : Int) (c5 : Int) (c6 : Int) (c7 : Int) (c8 : Int) (c9 : Int) (c10 : Int) (c11 : Int) (c12 : Int) (c13 : Int) (c14 : Int) (c15 : Int) : List (List Int) :=
  rL c1 (flat_0 c1 c5 c6 c7) (flat_1 c1 c5 c6 c7) c0 c8 c9 c11 (hts1 c0 c1 c2 c3 c4 c5 c6 c7 c8 c9 c10 c11 c12 c13 c14 c15) 0
noncomputable def rexpand_needs (c0 : Int) (c1 : Int) (c2 : Int) (c3 : Int) (c4 : Int) (c5 : Int) (c6 : Int) (c7 : Int) (c8 : Int) (c9 : Int) (c10 : Int) (c11 : Int) (c12 : Int) (c13 : Int) (c14 : Int) (c15 : Int) : List Prop :=
  [(chk c0 c1 c2 c3 c4 c5 c6 c7 c8 c9 c10 c11 c12 c13 c14 c15 != 0) = false →
      (decide (flat_2 c1 c2 c3 c4 < c8) = true →
          (c0 == 81) = false →
            (c0 == 82) = false →
              (c0 == 85) = false →
                (c0 == 89) = false →
                  (c0 == 86) = false →
                    rexpand_s12 c0 →
                      (0 ≤ max (hts1 c0 c1 c2 c3 c4 c5 c6 c7 c8 c9 c10 c11 c12 c13 c14 c15) 0 ∧
                          hts1 c0 c1 c2 c3 c4 c5 c6 c7 c8 c9 c10 c11 c12 c13 c14 c15 ≤ 1000 ∧ (rexpand_s14 c1 c2 c3 c4 c5 c6 c7 c8).length ≤ 1000) ∧
                        Int.ofNat 1 = 1 ∧
                          rexpand_s14 c1 c2 c3 c4 c5 c6 c7 c8 ++ rexpand_s15 c0 c1 c2 c3 c4 c5 c6 c7 c8 c9 c10 c11 c12 c13 c14 c15 = rexpand_s14 c1 c2 c3 c4 c5 c6 c7 c8 ∧
                            ((rexpand_s14 c1 c2 c3 c4 c5 c6 c7 c8 ++ rexpand_s11 c0 c1 c2 c3 c4 c5 c6 c7 c8 c9 c10 c11 c12 c13 c14 c15).length + 1) * 176 ≤ 140737488355328 ∧
                              (rexpand_s14 c1 c2 c3 c4 c5 c6 c7 c8 ++ rexpand_s11 c0 c1 c2 c3 c4 c5 c6 c7 c8 c9 c10 c11 c12 c13 c14 c15).length + 1 ≤ 9223372036854775807) ∧
        (decide (flat_2 c1 c2 c3 c4 < c8) = false →
          (c0 == 81) = false →
            (c0 == 82) = false →
              (c0 == 85) = false →
                (c0 == 89) = false →
                  (c0 == 86) = false →
                    rexpand_s12 c0 →
                      (0 ≤ max (hts1 c0 c1 c2 c3 c4 c5 c6 c7 c8 c9 c10 c11 c12 c13 c14 c15) 0 ∧
                          hts1 c0 c1 c2 c3 c4 c5 c6 c7 c8 c9 c10 c11 c12 c13 c14 c15 ≤ 1000 ∧ (rexpand_s13 c1 c2 c3 c4 c5 c6 c7 c8).length ≤ 1000) ∧
                        Int.ofNat 1 = 1 ∧
                          rexpand_s13 c1 c2 c3 c4 c5 c6 c7 c8 ++ rexpand_s15 c0 c1 c2 c3 c4 c5 c6 c7 c8 c9 c10 c11 c12 c13 c14 c15 = rexpand_s13 c1 c2 c3 c4 c5 c6 c7 c8 ∧
                            ((rexpand_s13 c1 c2 c3 c4 c5 c6 c7 c8 ++ rexpand_s11 c0 c1 c2 c3 c4 c5 c6 c7 c8 c9 c10 c11 c12 c13 c14 c15).length + 1) * 176 ≤ 140737488355328 ∧
                              (rexpand_s13 c1 c2 c3 c4 c5 c6 c7 c8 ++ rexpand_s11 c0 c1 c2 c3 c4 c5 c6 c7 c8 c9 c10 c11 c12 c13 c14 c15).length + 1 ≤ 9223372036854775807)]
theorem rexpand_0_eq (c0 c1 c2 c3 c4 c5 c6 c7 c8 c9 c10 c11 c12 c13 c14 c15 : Int) : (expand_0 c0 c1 c2 c3 c4 c5 c6 c7 c8 c9 c10 c11 c12 c13 c14 c15) = chk c0 c1 c2 c3 c4 c5 c6 c7 c8 c9 c10 c11 c12 c13 c14 c15 := by
  exact expand_0_eq c0 c1 c2 c3 c4 c5 c6 c7 c8 c9 c10 c11 c12 c13 c14 c15
theorem chk_code (c0 c1 c2 c3 c4 c5 c6 c7 c8 c9 c10 c11 c12 c13 c14 c15 : Int) (h : (chk c0 c1 c2 c3 c4 c5 c6 c7 c8 c9 c10 c11 c12 c13 c14 c15 != 0) = false) : c0 = 73 ∨ c0 = 74 ∨ c0 = 81 ∨ c0 = 82 ∨ c0 = 83 ∨ c0 = 84 ∨ c0 = 85 ∨ c0 = 86 ∨ c0 = 89 := by
  unfold chk at h
  cases h1 : codeOk c0 <;> rw [h1] at h
  · simp at h
  · simpa [codeOk, or_assoc] using h1
theorem rexpand_1_eq (c0 c1 c2 c3 c4 c5 c6 c7 c8 c9 c10 c11 c12 c13 c14 c15 : Int) : (rexpand_1 c0 c1 c2 c3 c4 c5 c6 c7 c8 c9 c10 c11 c12 c13 c14 c15) = expR c0 c1 c2 c3 c4 c5 c6 c7 c8 c9 c10 c11 c12 c13 c14 c15 := by
  unfold expR
  cases h : (chk c0 c1 c2 c3 c4 c5 c6 c7 c8 c9 c10 c11 c12 c13 c14 c15 != 0)
  · have hk := chk_code c0 c1 c2 c3 c4 c5 c6 c7 c8 c9 c10 c11 c12 c13 c14 c15 h
    have hA := rL_all c1 (flat_0 c1 c5 c6 c7) (flat_1 c1 c5 c6 c7) c0 c8 c9 c11 _ (hts1_ge c0 c1 c2 c3 c4 c5 c6 c7 c8 c9 c10 c11 c12 c13 c14 c15 h)
    have e1 : hts1 c0 c1 c2 c3 c4 c5 c6 c7 c8 c9 c10 c11 c12 c13 c14 c15 = hn c0 c8 c9 c11 := by unfold hts1; rw [h]; rfl
    have e0 : hts0 c0 c1 c2 c3 c4 c5 c6 c7 c8 c9 c10 c11 c12 c13 c14 c15 = hr c8 c10 c13 := by unfold hts0; rw [h]; rfl
    rw [e1] at hA
    unfold rexpand_1 rexpand_s3 rexpand_s4 rexpand_s6 rexpand_s7 rexpand_s8 rexpand_s9 rexpand_s10 rexpand_s11 rexpand_s5 rexpand_s0 rexpand_s1 rexpand_s2 expL preL bodyL postL
    simp only [h, e0, e1, hA, cond_false, or_chain]
    clear h hA e0 e1
    rcases hk with rfl | rfl | rfl | rfl | rfl | rfl | rfl | rfl | rfl <;> cases decide (flat_2 c1 c2 c3 c4 < c8) <;> simp [itm, dwl, spn, expand_s0]
  · unfold rexpand_1
    rw [h]; rfl
theorem rexpand_need {c0 : Int} {c1 : Int} {c2 : Int} {c3 : Int} {c4 : Int} {c5 : Int} {c6 : Int} {c7 : Int} {c8 : Int} {c9 : Int} {c10 : Int} {c11 : Int} {c12 : Int} {c13 : Int} {c14 : Int} {c15 : Int} : ∀ q ∈ (rexpand_needs c0 c1 c2 c3 c4 c5 c6 c7 c8 c9 c10 c11 c12 c13 c14 c15), q := by
  intro q hq
  unfold rexpand_needs at hq
  simp only [List.mem_cons, List.not_mem_nil, or_false] at hq
  subst hq
  intro h
  have h3 := hts1_le c0 c1 c2 c3 c4 c5 c6 c7 c8 c9 c10 c11 c12 c13 c14 c15
  have h4 := rL_len c1 (flat_0 c1 c5 c6 c7) (flat_1 c1 c5 c6 c7) c0 c8 c9 c11 (hts1 c0 c1 c2 c3 c4 c5 c6 c7 c8 c9 c10 c11 c12 c13 c14 c15) (hts1 c0 c1 c2 c3 c4 c5 c6 c7 c8 c9 c10 c11 c12 c13 c14 c15).toNat
  simp only [rexpand_s0, rexpand_s1, rexpand_s2, rexpand_s3, rexpand_s4, rexpand_s5, rexpand_s6, rexpand_s7, rexpand_s8, rexpand_s9, rexpand_s10, rexpand_s11, rexpand_1, rexpand_s12, rexpand_s13, rexpand_s14, rexpand_s15, rexpand_needs, rL, List.append_nil, List.length_append, List.length_cons, List.length_nil]
  exact ⟨fun _ _ _ _ _ _ _ => ⟨⟨by omega, h3, by omega⟩, rfl, trivial, by omega, by omega⟩, fun _ _ _ _ _ _ _ => ⟨⟨by omega, h3, by omega⟩, rfl, trivial, by omega, by omega⟩⟩
set_option maxRecDepth 1000000 in
theorem rexpand_runs (c0 c1 c2 c3 c4 c5 c6 c7 c8 c9 c10 c11 c12 c13 c14 c15 : Int) (hNeeds : ∀ pN ∈ (rexpand_needs c0 c1 c2 c3 c4 c5 c6 c7 c8 c9 c10 c11 c12 c13 c14 c15), pN) : Runs (runF (sums K_expand) L_ref 32) (rexpand_tpl.args [.i c0, .i c1, .i c2, .i c3, .i c4, .i c5, .i c6, .i c7, .i c8, .i c9, .i c10, .i c11, .i c12, .i c13, .i c14, .i c15]) (rexpand_tpl.memo [.i c0, .i c1, .i c2, .i c3, .i c4, .i c5, .i c6, .i c7, .i c8, .i c9, .i c10, .i c11, .i c12, .i c13, .i c14, .i c15] []) rexpand_tpl.n (SV.tup [(false, [SC.wh 11295]), (false, [SC.int IntKind.i64 (SI.v (expand_0 c0 c1 c2 c3 c4 c5 c6 c7 c8 c9 c10 c11 c12 c13 c14 c15))])])
    ([(11295,
      Obj.row false 44 22
        (RowC.lst 11294
          [CK.int IntKind.i64, CK.int IntKind.i64, CK.int IntKind.i64, CK.int IntKind.i64, CK.int IntKind.i64, CK.int IntKind.i64, CK.int IntKind.i64, CK.int IntKind.i64, CK.int IntKind.i64,
            CK.int IntKind.i64, CK.int IntKind.i64, CK.int IntKind.i64, CK.int IntKind.i64, CK.bool, CK.int IntKind.i64, CK.bool, CK.int IntKind.i64, CK.int IntKind.i64, CK.int IntKind.i64,
            CK.int IntKind.i64, CK.int IntKind.i64, CK.bool]
          (rexpand_1 c0 c1 c2 c3 c4 c5 c6 c7 c8 c9 c10 c11 c12 c13 c14 c15)))]) :=
  Runs.of (ps := (rexpand_needs c0 c1 c2 c3 c4 c5 c6 c7 c8 c9 c10 c11 c12 c13 c14 c15)) (by kernel_rfl) (by kernel_rfl) hNeeds
noncomputable def rexpand_out : List Pm → Lss → Option CRes
  | [.i c0, .i c1, .i c2, .i c3, .i c4, .i c5, .i c6, .i c7, .i c8, .i c9, .i c10, .i c11, .i c12, .i c13, .i c14, .i c15], [] => some ⟨SV.tup [(false, [SC.wh 11295]), (false, [SC.int IntKind.i64 (SI.v (chk c0 c1 c2 c3 c4 c5 c6 c7 c8 c9 c10 c11 c12 c13 c14 c15))])],
    [(11295,
      Obj.row false 44 22
        (RowC.lst 11294
          [CK.int IntKind.i64, CK.int IntKind.i64, CK.int IntKind.i64, CK.int IntKind.i64, CK.int IntKind.i64, CK.int IntKind.i64, CK.int IntKind.i64, CK.int IntKind.i64, CK.int IntKind.i64,
            CK.int IntKind.i64, CK.int IntKind.i64, CK.int IntKind.i64, CK.int IntKind.i64, CK.bool, CK.int IntKind.i64, CK.bool, CK.int IntKind.i64, CK.int IntKind.i64, CK.int IntKind.i64,
            CK.int IntKind.i64, CK.int IntKind.i64, CK.bool]
          (expR c0 c1 c2 c3 c4 c5 c6 c7 c8 c9 c10 c11 c12 c13 c14 c15)))],
    [], [], 11296⟩
  | _, _ => none
theorem rexpand_turned (c0 c1 c2 c3 c4 c5 c6 c7 c8 c9 c10 c11 c12 c13 c14 c15 : Int) : Runs (runF (sums K_expand) L_ref 32) (rexpand_tpl.args [.i c0, .i c1, .i c2, .i c3, .i c4, .i c5, .i c6, .i c7, .i c8, .i c9, .i c10, .i c11, .i c12, .i c13, .i c14, .i c15]) (rexpand_tpl.memo [.i c0, .i c1, .i c2, .i c3, .i c4, .i c5, .i c6, .i c7, .i c8, .i c9, .i c10, .i c11, .i c12, .i c13, .i c14, .i c15] []) rexpand_tpl.n (SV.tup [(false, [SC.wh 11295]), (false, [SC.int IntKind.i64 (SI.v (chk c0 c1 c2 c3 c4 c5 c6 c7 c8 c9 c10 c11 c12 c13 c14 c15))])])
    ([(11295,
      Obj.row false 44 22
        (RowC.lst 11294
          [CK.int IntKind.i64, CK.int IntKind.i64, CK.int IntKind.i64, CK.int IntKind.i64, CK.int IntKind.i64, CK.int IntKind.i64, CK.int IntKind.i64, CK.int IntKind.i64, CK.int IntKind.i64,
            CK.int IntKind.i64, CK.int IntKind.i64, CK.int IntKind.i64, CK.int IntKind.i64, CK.bool, CK.int IntKind.i64, CK.bool, CK.int IntKind.i64, CK.int IntKind.i64, CK.int IntKind.i64,
            CK.int IntKind.i64, CK.int IntKind.i64, CK.bool]
          (expR c0 c1 c2 c3 c4 c5 c6 c7 c8 c9 c10 c11 c12 c13 c14 c15)))]) :=
  (rexpand_runs c0 c1 c2 c3 c4 c5 c6 c7 c8 c9 c10 c11 c12 c13 c14 c15 (fun p hp => rexpand_need p hp)).to (by first | rfl | (simp only [rexpand_0_eq, rexpand_1_eq])) (by first | rfl | (simp only [rexpand_0_eq, rexpand_1_eq]))
theorem rexpand_ok : FOk Try.prog 32 (tplS rexpand_tpl rexpand_out) := by
  refine tplS_ok (runF_ok known_refL 32) fun ps ls r hr hn _ => ?_
  unfold rexpand_out at hr
  split at hr
  · cases hr; exact ⟨_, rexpand_turned _ _ _ _ _ _ _ _ _ _ _ _ _ _ _ _, fun _ => rfl⟩
  · cases hr
noncomputable def K_rexpand : List (Nat × Summ) := (32, tplS rexpand_tpl rexpand_out) :: K_expand
theorem known_rexpand : Known Try.prog (sums K_rexpand) L_ref := known_cons known_refL rexpand_ok
end Go.Proofs.Ytgimheibnpgphaa
