/-
  SAME, at two lists that are equal: it returns true. Conditions: none.
-/
import Derived.Test.YtgimheibnpgphaaDrillE2
set_option linter.all false
namespace Go.Proofs.Ytgimheibnpgphaa
open Go.SX Go.RowKit
noncomputable def sameM (xs : List (List Int)) (tag : Nat) : Mem := [rowI 0 2 xs, rowI 1 tag xs]
/-- The states in front of a round: the index. -/
noncomputable def sameF (xs : List (List Int)) : Fam Nat Unit where
  k := 10
  E j := [(5, ent 20 (.one (I (Int.ofNat j)))), (4, ent 4 (.one (.bool (.c false)))), (0, ent 0 (.one (.wh 0))), (1, ent 2 (.one (.wh 1)))]
  M _ := sameM xs 21
  out _ := .leaf (.exit 0) [] (sameM xs 21)
  fin _ := ()
  next j _ := j + 1
  J j := j ≤ xs.length ∧ xs.length ≤ 1000000
  μ j := xs.length - j
noncomputable def same_s0 (xs : List (List Int)) (j : Nat) : Prop :=
  decide (Int.ofNat j < Int.ofNat xs.length) = true
noncomputable def same_s1 (xs : List (List Int)) (j : Nat) : Int :=
  (xs.getD (Int.ofNat j).toNat []).getD 0 0
noncomputable def same_s2 (xs : List (List Int)) (j : Nat) : Bool :=
  (xs.getD (Int.ofNat j).toNat []).getD 13 0 != 0
noncomputable def same_s3 (xs : List (List Int)) (j : Nat) : Bool :=
  (xs.getD (Int.ofNat j).toNat []).getD 15 0 != 0
noncomputable def same_s4 (xs : List (List Int)) (j : Nat) : Bool :=
  (xs.getD (Int.ofNat j).toNat []).getD 21 0 != 0
noncomputable def same_needs (xs : List (List Int)) (j : Nat) : List Prop :=
  [same_s0 xs j → 0 ≤ Int.ofNat j ∧ (Int.ofNat j).toNat < xs.length ∧ (Int.ofNat j).toNat < xs.length ∧ 0 ≤ Int.ofNat j ∧ (Int.ofNat j).toNat < xs.length ∧ (Int.ofNat j).toNat < xs.length,
    same_s0 xs j →
      ((!(same_s1 xs j == same_s1 xs j &&
                ((xs.getD (Int.ofNat j).toNat []).getD 1 0 == (xs.getD (Int.ofNat j).toNat []).getD 1 0 &&
                  ((xs.getD (Int.ofNat j).toNat []).getD 2 0 == (xs.getD (Int.ofNat j).toNat []).getD 2 0 &&
                    ((xs.getD (Int.ofNat j).toNat []).getD 3 0 == (xs.getD (Int.ofNat j).toNat []).getD 3 0 &&
                      ((xs.getD (Int.ofNat j).toNat []).getD 4 0 == (xs.getD (Int.ofNat j).toNat []).getD 4 0 &&
                        ((xs.getD (Int.ofNat j).toNat []).getD 5 0 == (xs.getD (Int.ofNat j).toNat []).getD 5 0 &&
                          ((xs.getD (Int.ofNat j).toNat []).getD 6 0 == (xs.getD (Int.ofNat j).toNat []).getD 6 0 &&
                            ((xs.getD (Int.ofNat j).toNat []).getD 7 0 == (xs.getD (Int.ofNat j).toNat []).getD 7 0 &&
                              ((xs.getD (Int.ofNat j).toNat []).getD 8 0 == (xs.getD (Int.ofNat j).toNat []).getD 8 0 &&
                                ((xs.getD (Int.ofNat j).toNat []).getD 9 0 == (xs.getD (Int.ofNat j).toNat []).getD 9 0 &&
                                  ((xs.getD (Int.ofNat j).toNat []).getD 10 0 == (xs.getD (Int.ofNat j).toNat []).getD 10 0 &&
                                    ((xs.getD (Int.ofNat j).toNat []).getD 11 0 == (xs.getD (Int.ofNat j).toNat []).getD 11 0 &&
                                      ((xs.getD (Int.ofNat j).toNat []).getD 12 0 == (xs.getD (Int.ofNat j).toNat []).getD 12 0 &&
                                        (same_s2 xs j == same_s2 xs j &&
                                          ((xs.getD (Int.ofNat j).toNat []).getD 14 0 == (xs.getD (Int.ofNat j).toNat []).getD 14 0 &&
                                            (same_s3 xs j == same_s3 xs j &&
                                              ((xs.getD (Int.ofNat j).toNat []).getD 16 0 == (xs.getD (Int.ofNat j).toNat []).getD 16 0 &&
                                                ((xs.getD (Int.ofNat j).toNat []).getD 17 0 == (xs.getD (Int.ofNat j).toNat []).getD 17 0 &&
                                                  ((xs.getD (Int.ofNat j).toNat []).getD 18 0 == (xs.getD (Int.ofNat j).toNat []).getD 18 0 &&
                                                    ((xs.getD (Int.ofNat j).toNat []).getD 19 0 == (xs.getD (Int.ofNat j).toNat []).getD 19 0 &&
                                                      ((xs.getD (Int.ofNat j).toNat []).getD 20 0 == (xs.getD (Int.ofNat j).toNat []).getD 20 0 && same_s4 xs j == same_s4 xs j)))))))))))))))))))))) =
            true →
          False) ∧
        ((!(same_s1 xs j == same_s1 xs j &&
                ((xs.getD (Int.ofNat j).toNat []).getD 1 0 == (xs.getD (Int.ofNat j).toNat []).getD 1 0 &&
                  ((xs.getD (Int.ofNat j).toNat []).getD 2 0 == (xs.getD (Int.ofNat j).toNat []).getD 2 0 &&
                    ((xs.getD (Int.ofNat j).toNat []).getD 3 0 == (xs.getD (Int.ofNat j).toNat []).getD 3 0 &&
                      ((xs.getD (Int.ofNat j).toNat []).getD 4 0 == (xs.getD (Int.ofNat j).toNat []).getD 4 0 &&
                        ((xs.getD (Int.ofNat j).toNat []).getD 5 0 == (xs.getD (Int.ofNat j).toNat []).getD 5 0 &&
                          ((xs.getD (Int.ofNat j).toNat []).getD 6 0 == (xs.getD (Int.ofNat j).toNat []).getD 6 0 &&
                            ((xs.getD (Int.ofNat j).toNat []).getD 7 0 == (xs.getD (Int.ofNat j).toNat []).getD 7 0 &&
                              ((xs.getD (Int.ofNat j).toNat []).getD 8 0 == (xs.getD (Int.ofNat j).toNat []).getD 8 0 &&
                                ((xs.getD (Int.ofNat j).toNat []).getD 9 0 == (xs.getD (Int.ofNat j).toNat []).getD 9 0 &&
                                  ((xs.getD (Int.ofNat j).toNat []).getD 10 0 == (xs.getD (Int.ofNat j).toNat []).getD 10 0 &&
                                    ((xs.getD (Int.ofNat j).toNat []).getD 11 0 == (xs.getD (Int.ofNat j).toNat []).getD 11 0 &&
                                      ((xs.getD (Int.ofNat j).toNat []).getD 12 0 == (xs.getD (Int.ofNat j).toNat []).getD 12 0 &&
                                        (same_s2 xs j == same_s2 xs j &&
                                          ((xs.getD (Int.ofNat j).toNat []).getD 14 0 == (xs.getD (Int.ofNat j).toNat []).getD 14 0 &&
                                            (same_s3 xs j == same_s3 xs j &&
                                              ((xs.getD (Int.ofNat j).toNat []).getD 16 0 == (xs.getD (Int.ofNat j).toNat []).getD 16 0 &&
                                                ((xs.getD (Int.ofNat j).toNat []).getD 17 0 == (xs.getD (Int.ofNat j).toNat []).getD 17 0 &&
                                                  ((xs.getD (Int.ofNat j).toNat []).getD 18 0 == (xs.getD (Int.ofNat j).toNat []).getD 18 0 &&
                                                    ((xs.getD (Int.ofNat j).toNat []).getD 19 0 == (xs.getD (Int.ofNat j).toNat []).getD 19 0 &&
                                                      ((xs.getD (Int.ofNat j).toNat []).getD 20 0 == (xs.getD (Int.ofNat j).toNat []).getD 20 0 && same_s4 xs j == same_s4 xs j)))))))))))))))))))))) =
            false →
          ((sameF xs).next j 1 ≤ xs.length ∧ xs.length ≤ 1000000) ∧
            (sameF xs).μ ((sameF xs).next j 1) < (sameF xs).μ j ∧ (sameF xs).fin ((sameF xs).next j 1) = (sameF xs).fin j ∧ Int.ofNat ((sameF xs).next j 1) = IntKind.i64.wrap (Int.ofNat j + 1))]
theorem same_round (xs : List (List Int)) (j : Nat) (hNeeds : ∀ pN ∈ (same_needs xs j), pN) : RoundOk (roundC (sameF xs) (bodyOf Try.prog (sums K_rexpand) L_ref 34 0) 12 j) :=
  RoundOk.of (ps := (same_needs xs j)) (by kernel_rfl) (by kernel_rfl) hNeeds
theorem same_rounds (xs : List (List Int)) : RoundsOk (sameF xs) (bodyOf Try.prog (sums K_rexpand) L_ref 34 0) 12 := by
  rintro j ⟨h1, h2⟩
  refine same_round xs j fun q hq => ?_
  unfold same_needs at hq
  simp only [List.mem_cons, List.not_mem_nil, or_false, same_s0, same_s1, same_s2, same_s3, same_s4] at hq
  rcases hq with rfl | rfl
  · intro h; simp at h ⊢; omega
  · intro h
    simp at h
    refine ⟨fun h => by simp at h, fun _ => ?_⟩
    have e1 : IntKind.i64.wrap (Int.ofNat j + 1) = Int.ofNat (j + 1) := wrI (by simp; omega) (by simp; omega)
    simp only [sameF]
    exact ⟨⟨by omega, h2⟩, by omega, trivial, e1.symm⟩
noncomputable def sameL : LoopS := fun env mem m => match eRow itemKs env mem 0 with
  | some xs => famS (sameF xs) 12 (fun _ _ => some 0) env mem m
  | none => none
noncomputable def L_same : FuncId → Nat → Option LoopS := addL L_ref 34 4 sameL
theorem known_sameL : Known Try.prog (sums K_rexpand) L_same := by
  refine known_addL 0 known_rexpand (by kernel_rfl) (codeOk_of fun env mem m x h => ?_)
  unfold sameL at h
  have hlen : (loopList Try.prog 34).length = 1 := by kernel_rfl
  split at h
  · exact ⟨_, fam_ok (bodyOf_ok plainN known_rexpand (by omega)) (same_rounds _), h⟩
  · cases h
noncomputable def rsame_tpl : Tpl := ⟨[.one (.wh 0), .one (.wh 1)], [(0, .row false 44 22 2 itemKs), (1, .row false 44 22 3 itemKs)], 4⟩
noncomputable def rsame_0 (xs : List (List Int)) (ys : List (List Int)) : Bool :=
  !Int.ofNat xs.length != Int.ofNat ys.length
noncomputable def rsame_1 (xs : List (List Int)) (ys : List (List Int)) : List (List Int) :=
  bif Int.ofNat xs.length != Int.ofNat ys.length then ys else xs
noncomputable def rsame_needs (xs : List (List Int)) (ys : List (List Int)) : List Prop :=
  [(Int.ofNat xs.length != Int.ofNat ys.length) = false → (0 ≤ xs.length ∧ xs.length ≤ 1000000) ∧ Int.ofNat 0 = 0 ∧ xs = ys]
theorem rsame_weak {xs : List (List Int)} {ys : List (List Int)} (hW : ∀ q ∈ ([xs = ys, xs.length ≤ 1000000] : List Prop), q) : ∀ q ∈ (rsame_needs xs ys), q := by
  simp only [List.mem_cons, List.not_mem_nil, or_false, forall_eq_or_imp, forall_eq] at hW
  intro q hq
  unfold rsame_needs at hq
  simp only [List.mem_cons, List.not_mem_nil, or_false] at hq
  obtain ⟨rfl, h2⟩ := hW
  subst hq
  exact fun _ => ⟨⟨Nat.zero_le _, h2⟩, rfl, rfl⟩
set_option maxRecDepth 1000000 in
theorem rsame_runs (xs ys : List (List Int)) (hNeeds : ∀ pN ∈ (rsame_needs xs ys), pN) : Runs (runF (sums K_rexpand) L_same 34) (rsame_tpl.args []) (rsame_tpl.memo [] [xs, ys]) rsame_tpl.n (SV.one (SC.bool (SB.v (rsame_0 xs ys))))
    ([(0,
      Obj.row false 44 22
        (RowC.lst 2
          [CK.int IntKind.i64, CK.int IntKind.i64, CK.int IntKind.i64, CK.int IntKind.i64, CK.int IntKind.i64, CK.int IntKind.i64, CK.int IntKind.i64, CK.int IntKind.i64, CK.int IntKind.i64,
            CK.int IntKind.i64, CK.int IntKind.i64, CK.int IntKind.i64, CK.int IntKind.i64, CK.bool, CK.int IntKind.i64, CK.bool, CK.int IntKind.i64, CK.int IntKind.i64, CK.int IntKind.i64,
            CK.int IntKind.i64, CK.int IntKind.i64, CK.bool]
          xs)),
    (1,
      Obj.row false 44 22
        (RowC.lst 23
          [CK.int IntKind.i64, CK.int IntKind.i64, CK.int IntKind.i64, CK.int IntKind.i64, CK.int IntKind.i64, CK.int IntKind.i64, CK.int IntKind.i64, CK.int IntKind.i64, CK.int IntKind.i64,
            CK.int IntKind.i64, CK.int IntKind.i64, CK.int IntKind.i64, CK.int IntKind.i64, CK.bool, CK.int IntKind.i64, CK.bool, CK.int IntKind.i64, CK.int IntKind.i64, CK.int IntKind.i64,
            CK.int IntKind.i64, CK.int IntKind.i64, CK.bool]
          (rsame_1 xs ys)))]) :=
  Runs.of (ps := (rsame_needs xs ys)) (by kernel_rfl) (by kernel_rfl) hNeeds
noncomputable def rsame_out : List Pm → Lss → Option CRes
  | [], [xs, ys] => some ⟨SV.one (SC.bool (SB.c true)), [rowI 0 2 xs, rowI 1 23 xs], [xs = ys, xs.length ≤ 1000000], [], 30⟩
  | _, _ => none
theorem rsame_ok : FOk Try.prog 34 (tplS rsame_tpl rsame_out) := by
  refine tplS_ok (runF_ok known_sameL 34) fun ps ls r hr hn _ => ?_
  unfold rsame_out at hr
  split at hr
  · rename_i xs ys
    cases hr
    have h1 : xs = ys := hn _ (by simp)
    have h2 : xs.length ≤ 1000000 := hn _ (by simp)
    subst h1
    refine ⟨_, (rsame_runs xs xs (rsame_weak (by simp [h2]))).to rfl ?_, fun θ => ?_⟩
    · simp only [rsame_1, rowI, itemKs]
      cases (Int.ofNat xs.length != Int.ofNat xs.length) <;> rfl
    · simp [SV.den, SC.den, SB.val, rsame_0]
  · cases hr
noncomputable def K_rsame : List (Nat × Summ) := (34, tplS rsame_tpl rsame_out) :: K_rexpand
theorem known_rsame : Known Try.prog (sums K_rsame) L_same := known_cons known_sameL rsame_ok
end Go.Proofs.Ytgimheibnpgphaa
