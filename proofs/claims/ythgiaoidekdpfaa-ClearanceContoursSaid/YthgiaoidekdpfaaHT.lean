/-
  CONTOURS of a list without any, by the reference; the loops of both. Conditions: none.
-/
import Derived.Test.YthgiaoidekdpfaaHR
set_option linter.all false
namespace Go.Proofs.Ythgiaoidekdpfaa
open Go.SX Go.RowKit
noncomputable def rwF (X : List (List Int)) : Fam (Nat × Int) Unit where
  k := 20
  E s := [(6, ent 1000000000 (.one (I (Int.ofNat s.1)))), (5, ent 1000000001 (.one (I s.2))), (4, ent 1000000002 (.one (.bool (.c false)))), (3, ent 1000000003 (.one .nilsl)), (0, ent 0 (.one (.wh 0)))]
  M _ := [rowW X]
  out _ := .leaf (.exit 0) [(3, ent 8 (.one .nilsl))] [rowW X]
  fin _ := ()
  next s _ := (s.1 + 1, s.2)
  J s := s.1 ≤ X.length ∧ X.length ≤ 1000 ∧ ∀ j, j < X.length → stX X j = false
  μ s := X.length - s.1
noncomputable def rw_s0 (X : List (List Int)) (i : Nat) (pl : Int) : Prop :=
  decide (Int.ofNat (i, pl).fst < Int.ofNat X.length) = true
noncomputable def rw_s1 (X : List (List Int)) (i : Nat) (pl : Int) : Bool :=
  rmot_0 ((X.getD (Int.ofNat (i, pl).fst).toNat []).getD 0 0)
noncomputable def rw_s2 (X : List (List Int)) (i : Nat) (pl : Int) : Prop :=
  (rw_s1 X i pl && (X.getD (Int.ofNat (i, pl).fst).toNat []).getD 16 0 != 0) = true
noncomputable def rw_needs (X : List (List Int)) (i : Nat) (pl : Int) : List Prop :=
  [rw_s0 X i pl →
     0 ≤ Int.ofNat (i, pl).fst ∧
     (Int.ofNat (i, pl).fst).toNat < X.length ∧
     (Int.ofNat (i, pl).fst).toNat < X.length ∧
     (Int.ofNat (i, pl).fst).toNat < X.length ∧
     (rw_s1 X i pl = true → 0 ≤ Int.ofNat (i, pl).fst) ∧
     (rw_s1 X i pl = true → (Int.ofNat (i, pl).fst).toNat < X.length) ∧
     (rw_s1 X i pl = true → (Int.ofNat (i, pl).fst).toNat < X.length) ∧
     (rw_s1 X i pl = true → (Int.ofNat (i, pl).fst).toNat < X.length) ∧
     (rw_s2 X i pl →
     0 ≤ Int.ofNat (i, pl).fst ∧
     (Int.ofNat (i, pl).fst).toNat < X.length ∧
     (Int.ofNat (i, pl).fst).toNat < X.length ∧
     (Int.ofNat (i, pl).fst).toNat < X.length ∧
     0 ≤ Int.ofNat (i, pl).fst ∧
     (Int.ofNat (i, pl).fst).toNat < X.length ∧
     (Int.ofNat (i, pl).fst).toNat < X.length ∧
     (Int.ofNat (i, pl).fst).toNat < X.length ∧
     0 ≤ Int.ofNat (i, pl).fst ∧ (Int.ofNat (i, pl).fst).toNat < X.length ∧ (Int.ofNat (i, pl).fst).toNat < X.length ∧ (Int.ofNat (i, pl).fst).toNat < X.length),
    rw_s0 X i pl →
     (rw_s2 X i pl → False) ∧
     ((rw_s1 X i pl && (X.getD (Int.ofNat (i, pl).fst).toNat []).getD 16 0 != 0) = false →
     (((rwF X).next (i, pl) 1).fst ≤ X.length ∧ X.length ≤ 1000 ∧ ∀ (j : Nat), j < X.length → stX X j = false) ∧
     (rwF X).μ ((rwF X).next (i, pl) 1) < (rwF X).μ (i, pl) ∧
     (rwF X).fin ((rwF X).next (i, pl) 1) = (rwF X).fin (i, pl) ∧
     Int.ofNat ((rwF X).next (i, pl) 1).fst = IntKind.i64.wrap (Int.ofNat (i, pl).fst + 1) ∧ ((rwF X).next (i, pl) 1).snd = (i, pl).snd)]
theorem rw_round (X : List (List Int)) (i : Nat) (pl : Int) (hNeeds : ∀ pN ∈ (rw_needs X i pl), pN) : RoundOk (roundC (rwF X) (bodyOf Try.prog (sums K_mk) L_cz 36 0) 7 (i, pl)) :=
  RoundOk.of (ps := (rw_needs X i pl)) (by kernel_rfl) (by kernel_rfl) hNeeds
theorem rw_rounds (X : List (List Int)) : RoundsOk (rwF X) (bodyOf Try.prog (sums K_mk) L_cz 36 0) 7 := by
  rintro ⟨i, pl⟩ ⟨h1, h2, h3⟩
  refine rw_round X i pl ?_
  dsimp only at h1
  have lt : rw_s0 X i pl → i < X.length := fun h => by have h : decide (Int.ofNat i < Int.ofNat X.length) = true := h; simp at h; omega
  unfold rw_needs
  simp only [List.forall_mem_cons, List.not_mem_nil, false_implies, implies_true, and_true]
  refine ⟨fun h => ?_, fun h => ⟨fun hk => ?_, fun hk => ⟨⟨lt h, h2, h3⟩, ?_, trivial, ?_, rfl⟩⟩⟩
  · have l1 := lt h
    repeat' first | exact l1 | exact Int.natCast_nonneg _ | refine And.intro ?_ ?_ | intro _
  · have hs := h3 i (lt h)
    rw [stX_eq] at hs
    have hk : (rmot_0 ((X.getD i []).getD 0 0) && (X.getD i []).getD 16 0 != 0) = true := hk
    rw [hk] at hs; cases hs
  · have l1 := lt h
    show X.length - (i + 1) < X.length - i
    omega
  · have l1 := lt h
    show Int.ofNat (i + 1) = IntKind.i64.wrap (Int.ofNat i + 1)
    rw [wrI (by simp; omega) (by simp; omega)]; rfl
noncomputable def rcLp : LoopS := fun env mem m => match SX.look env 0, SX.look mem 0 with
  | some ⟨_, _, _, .one (.wh _)⟩, some (.row _ _ _ (.lst _ _ X)) => famS (rwF X) 7 (fun _ _ => some (0, 0)) env mem m
  | some ⟨_, _, _, .one (.sl _ _ _ l)⟩, some (.row _ _ _ (.lst _ _ X)) => famS (rcF X l.val) 7 (fun _ _ => some ⟨0, 0, false, []⟩) env mem m
  | _, _ => none
noncomputable def L_rc : FuncId → Nat → Option LoopS := addL L_cz 36 4 rcLp
theorem known_rcL : Known Try.prog (sums K_mk) L_rc := by
  refine known_addL 0 known_czL (by kernel_rfl) (codeOk_of fun env mem m x h => ?_)
  unfold rcLp at h
  have hlen : (loopList Try.prog 36).length = 1 := by kernel_rfl
  split at h
  · exact ⟨_, fam_ok (bodyOf_ok plainN known_czL (by omega)) (rw_rounds _), h⟩
  · exact ⟨_, fam_ok (bodyOf_ok plainN known_czL (by omega)) (rc_rounds _ _), h⟩
  · cases h
end Go.Proofs.Ythgiaoidekdpfaa
