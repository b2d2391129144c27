/-
  TWO CONTOURS THAT ARE THE SAME: the comparison; the law. Conditions: none.
-/
import Derived.Test.YthgiaoidekdpfaaHT
set_option linter.all false
namespace Go.Proofs.Ythgiaoidekdpfaa
open Go.SX Go.RowKit
noncomputable def smF (c d : CT) : Fam Nat Unit where
  k := 20
  E j := [(5, ent 1000000000 (.one (I (Int.ofNat j)))), (3, ent 17 (.one (.ptr 11 0))), (2, ent 10 (.one (.ptr 4 0)))]
  M _ := [(11, .blk 63 (ctC 12 1 d)), (4, .blk 63 (ctC 5 0 c)), rowE 0 2 c.R, rowE 1 3 d.R]
  out _ := .leaf (.exit 0) [] [rowE 0 2 c.R, rowE 1 3 d.R]
  fin _ := ()
  next j _ := j + 1
  J j := j ≤ c.R.length ∧ c.R.length ≤ 1000 ∧ c.R = d.R
  μ j := c.R.length - j
noncomputable def sm_s0 (c : CT) (j : Nat) : Prop :=
  decide (Int.ofNat j < Int.ofNat c.R.length) = true
noncomputable def sm_needs (c : CT) (d : CT) (j : Nat) : List Prop :=
  [sm_s0 c j → 0 ≤ Int.ofNat j ∧ (Int.ofNat j).toNat < c.R.length ∧ (Int.ofNat j).toNat < c.R.length ∧ 0 ≤ Int.ofNat j ∧ (Int.ofNat j).toNat < d.R.length ∧ (Int.ofNat j).toNat < d.R.length,
    sm_s0 c j →
     ((!((c.R.getD (Int.ofNat j).toNat []).getD 0 0 == (d.R.getD (Int.ofNat j).toNat []).getD 0 0 &&
     ((c.R.getD (Int.ofNat j).toNat []).getD 1 0 == (d.R.getD (Int.ofNat j).toNat []).getD 1 0 &&
     ((c.R.getD (Int.ofNat j).toNat []).getD 2 0 == (d.R.getD (Int.ofNat j).toNat []).getD 2 0 &&
     ((c.R.getD (Int.ofNat j).toNat []).getD 3 0 == (d.R.getD (Int.ofNat j).toNat []).getD 3 0 &&
     ((c.R.getD (Int.ofNat j).toNat []).getD 4 0 == (d.R.getD (Int.ofNat j).toNat []).getD 4 0 &&
     ((c.R.getD (Int.ofNat j).toNat []).getD 5 0 == (d.R.getD (Int.ofNat j).toNat []).getD 5 0 &&
     ((c.R.getD (Int.ofNat j).toNat []).getD 6 0 == (d.R.getD (Int.ofNat j).toNat []).getD 6 0 &&
     ((c.R.getD (Int.ofNat j).toNat []).getD 7 0 != 0) == ((d.R.getD (Int.ofNat j).toNat []).getD 7 0 != 0))))))))) =
     true →
     False) ∧
     ((!((c.R.getD (Int.ofNat j).toNat []).getD 0 0 == (d.R.getD (Int.ofNat j).toNat []).getD 0 0 &&
     ((c.R.getD (Int.ofNat j).toNat []).getD 1 0 == (d.R.getD (Int.ofNat j).toNat []).getD 1 0 &&
     ((c.R.getD (Int.ofNat j).toNat []).getD 2 0 == (d.R.getD (Int.ofNat j).toNat []).getD 2 0 &&
     ((c.R.getD (Int.ofNat j).toNat []).getD 3 0 == (d.R.getD (Int.ofNat j).toNat []).getD 3 0 &&
     ((c.R.getD (Int.ofNat j).toNat []).getD 4 0 == (d.R.getD (Int.ofNat j).toNat []).getD 4 0 &&
     ((c.R.getD (Int.ofNat j).toNat []).getD 5 0 == (d.R.getD (Int.ofNat j).toNat []).getD 5 0 &&
     ((c.R.getD (Int.ofNat j).toNat []).getD 6 0 == (d.R.getD (Int.ofNat j).toNat []).getD 6 0 &&
     ((c.R.getD (Int.ofNat j).toNat []).getD 7 0 != 0) == ((d.R.getD (Int.ofNat j).toNat []).getD 7 0 != 0))))))))) =
     false →
     ((smF c d).next j 1 ≤ c.R.length ∧ c.R.length ≤ 1000 ∧ c.R = d.R) ∧
     (smF c d).μ ((smF c d).next j 1) < (smF c d).μ j ∧ (smF c d).fin ((smF c d).next j 1) = (smF c d).fin j ∧ Int.ofNat ((smF c d).next j 1) = IntKind.i64.wrap (Int.ofNat j + 1))]
theorem sm_round (c d : CT) (j : Nat) (hNeeds : ∀ pN ∈ (sm_needs c d j), pN) : RoundOk (roundC (smF c d) (bodyOf Try.prog (sums K_mk) L_rc 37 0) 56 j) :=
  RoundOk.of (ps := (sm_needs c d j)) (by kernel_rfl) (by kernel_rfl) hNeeds
theorem sm_rounds (c d : CT) : RoundsOk (smF c d) (bodyOf Try.prog (sums K_mk) L_rc 37 0) 56 := by
  rintro j ⟨h1, h2, h3⟩
  refine sm_round c d j ?_
  have lt : sm_s0 c j → j < c.R.length := fun h => by have h : decide (Int.ofNat j < Int.ofNat c.R.length) = true := h; simp at h; omega
  unfold sm_needs
  simp only [List.forall_mem_cons, List.not_mem_nil, false_implies, implies_true, and_true, ← h3, beq_self_eq_true, Bool.and_self, Bool.not_true, Bool.false_eq_true]
  refine ⟨fun h => ?_, fun h => ⟨trivial, fun _ => ⟨?_, ?_, trivial, ?_⟩⟩⟩
  · have l1 := lt h
    repeat' first | exact l1 | exact Int.natCast_nonneg _ | refine And.intro ?_ ?_ | intro _
  · exact ⟨lt h, h2⟩
  · have l1 := lt h
    show c.R.length - (j + 1) < c.R.length - j
    omega
  · have l1 := lt h
    show Int.ofNat (j + 1) = IntKind.i64.wrap (Int.ofNat j + 1)
    rw [wrI (by simp; omega) (by simp; omega)]; rfl
noncomputable def smLp : LoopS := fun env mem m => match SX.look mem 4, SX.look mem 11 with
  | some (.blk _ c), some (.blk _ d) => (match rdC mem c, rdC mem d with
    | some c, some d => famS (smF c d) 56 (fun _ _ => some 0) env mem m
    | _, _ => none)
  | _, _ => none
noncomputable def L_sm : FuncId → Nat → Option LoopS := addL L_rc 37 4 smLp
theorem known_smL : Known Try.prog (sums K_mk) L_sm := by
  refine known_addL 0 known_rcL (by kernel_rfl) (codeOk_of fun env mem m x h => ?_)
  unfold smLp at h
  have hlen : (loopList Try.prog 37).length = 1 := by kernel_rfl
  split at h
  · split at h
    · exact ⟨_, fam_ok (bodyOf_ok plainN known_rcL (by omega)) (sm_rounds _ _), h⟩
    · cases h
  · cases h
end Go.Proofs.Ythgiaoidekdpfaa
