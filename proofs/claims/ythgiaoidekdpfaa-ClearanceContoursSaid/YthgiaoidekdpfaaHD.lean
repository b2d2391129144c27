/-
  CONTOURS of a list without any, by the program. Conditions: none.
-/
import Derived.Test.YthgiaoidekdpfaaHC
set_option linter.all false
namespace Go.Proofs.Ythgiaoidekdpfaa
open Go.SX Go.RowKit
/-- A contour is not begun. -/
noncomputable def cnLp : LoopS := fun env mem m => match SX.look env 0 with
  | some ⟨_, _, _, .one (.wh _)⟩ => some ⟨.leaf .ret env mem, [False], [], m⟩
  | _ => ciLp env mem m
noncomputable def L_cn : FuncId → Nat → Option LoopS := addL L_co 35 7 cnLp
theorem known_cnL : Known Try.prog (sums K_mk) L_cn := by
  refine known_addL 1 known_coL (by kernel_rfl) (codeOk_of fun env mem m x h => ?_)
  unfold cnLp at h
  have hlen : (loopList Try.prog 35).length = 2 := by kernel_rfl
  split at h
  · refine ⟨fun env mem m => some ⟨.leaf .ret env mem, [False], [], m⟩, ?_, h⟩
    intro env mem n r hr h1
    cases hr
    exact ⟨Nat.le_refl _, fun h2 => absurd (h2 False (by simp)) id⟩
  · unfold ciLp at h
    split at h
    · split at h
      · exact ⟨_, fam_ok (bodyOf_ok plainN known_mk (by omega)) (ci0_rounds _ _ _), h⟩
      · exact ⟨_, fam_ok (bodyOf_ok plainN known_mk (by omega)) (ci1_rounds _ _ _ _), h⟩
      · exact ⟨_, fam_ok (bodyOf_ok plainN known_mk (by omega)) (ci2_rounds _ _ _ _ _), h⟩
      · cases h
    · cases h
noncomputable def rowW (X : List (List Int)) : Nat × SX.Obj := (0, .row false 86 22 (.lst 1 CKi X))
noncomputable def czF (X : List (List Int)) : Fam Nat Unit where
  k := 20
  E i := [(4, ent 1000000000 (.one (I (Int.ofNat i)))), (3, ent 1000000001 (.one .nilsl)), (0, ent 0 (.one (.wh 0)))]
  M _ := [rowW X]
  out _ := .leaf (.exit 0) [(3, ent 6 (.one .nilsl))] [rowW X]
  fin _ := ()
  next i _ := i + 1
  J i := i ≤ X.length ∧ X.length ≤ 1000 ∧ ∀ j, j < X.length → stX X j = false
  μ i := X.length - i
noncomputable def cz_s0 (X : List (List Int)) (i : Nat) : Prop :=
  decide (Int.ofNat i < Int.ofNat X.length) = true
noncomputable def cz_s1 (X : List (List Int)) (i : Nat) : Bool :=
  !rmot_0 ((X.getD (Int.ofNat i).toNat []).getD 0 0)
noncomputable def cz_s2 (X : List (List Int)) (i : Nat) : Prop :=
  (cz_s1 X i || (X.getD (Int.ofNat i).toNat []).getD 16 0 == 0) = false → False
noncomputable def cz_needs (X : List (List Int)) (i : Nat) : List Prop :=
  [cz_s0 X i →
     0 ≤ Int.ofNat i ∧
     (Int.ofNat i).toNat < X.length ∧
     (Int.ofNat i).toNat < X.length ∧
     (Int.ofNat i).toNat < X.length ∧
     (cz_s1 X i = false → 0 ≤ Int.ofNat i) ∧
     (cz_s1 X i = false → (Int.ofNat i).toNat < X.length) ∧ (cz_s1 X i = false → (Int.ofNat i).toNat < X.length) ∧ (cz_s1 X i = false → (Int.ofNat i).toNat < X.length) ∧ cz_s2 X i,
    cz_s0 X i →
     ((cz_s1 X i || (X.getD (Int.ofNat i).toNat []).getD 16 0 == 0) = true →
     ((czF X).next i 0 ≤ X.length ∧ X.length ≤ 1000 ∧ ∀ (j : Nat), j < X.length → stX X j = false) ∧
     (czF X).μ ((czF X).next i 0) < (czF X).μ i ∧ (czF X).fin ((czF X).next i 0) = (czF X).fin i ∧ Int.ofNat ((czF X).next i 0) = IntKind.i64.wrap (Int.ofNat i + 1)) ∧
     cz_s2 X i]
theorem cz_round (X : List (List Int)) (i : Nat) (hNeeds : ∀ pN ∈ (cz_needs X i), pN) : RoundOk (roundC (czF X) (bodyOf Try.prog (sums K_mk) L_cn 35 0) 5 i) :=
  RoundOk.of (ps := (cz_needs X i)) (by kernel_rfl) (by kernel_rfl) hNeeds
theorem cz_rounds (X : List (List Int)) : RoundsOk (czF X) (bodyOf Try.prog (sums K_mk) L_cn 35 0) 5 := by
  rintro i ⟨h1, h2, h3⟩
  refine cz_round X i ?_
  have lt : cz_s0 X i → i < X.length := fun h => by have h : decide (Int.ofNat i < Int.ofNat X.length) = true := h; simp at h; omega
  have no : cz_s0 X i → cz_s2 X i := fun h hk => by
    have hs := h3 i (lt h)
    have hk : (!rmot_0 ((X.getD i []).getD 0 0) || (X.getD i []).getD 16 0 == 0) = false := hk
    unfold stX at hs; rw [hk] at hs; cases hs
  unfold cz_needs
  simp only [List.forall_mem_cons, List.not_mem_nil, false_implies, implies_true, and_true]
  refine ⟨fun h => ?_, fun h => ⟨fun hk => ?_, no h⟩⟩
  · have l1 := lt h
    repeat' first | exact no h | exact l1 | exact Int.natCast_nonneg _ | refine And.intro ?_ ?_ | intro _
  · have l1 := lt h
    refine ⟨⟨l1, h2, h3⟩, ?_, trivial, ?_⟩
    · show X.length - (i + 1) < X.length - i
      omega
    · show Int.ofNat (i + 1) = _
      rw [wrI (by simp; omega) (by simp; omega)]; rfl
noncomputable def cqLp : LoopS := fun env mem m => match SX.look env 0, SX.look mem 0 with
  | some ⟨_, _, _, .one (.wh _)⟩, some (.row _ _ _ (.lst _ _ X)) => famS (czF X) 5 (fun _ _ => some 0) env mem m
  | _, _ => coLp env mem m
noncomputable def L_cz : FuncId → Nat → Option LoopS := addL L_cn 35 3 cqLp
theorem known_czL : Known Try.prog (sums K_mk) L_cz := by
  refine known_addL 0 known_cnL (by kernel_rfl) (codeOk_of fun env mem m x h => ?_)
  unfold cqLp at h
  have hlen : (loopList Try.prog 35).length = 2 := by kernel_rfl
  split at h
  · exact ⟨_, fam_ok (bodyOf_ok plainN known_cnL (by omega)) (cz_rounds _), h⟩
  · unfold coLp at h
    split at h
    · exact ⟨_, fam_ok (bodyOf_ok plainN known_ciL (by omega)) (co_rounds _ _), h⟩
    · cases h
end Go.Proofs.Ythgiaoidekdpfaa
