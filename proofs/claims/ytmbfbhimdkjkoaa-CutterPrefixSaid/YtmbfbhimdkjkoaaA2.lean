/-
  CUTTER: the example. Conditions: none.
-/
import Derived.Test.YtmbfbhimdkjkoaaA1
set_option linter.all false
namespace Go.Proofs.Ytmbfbhimdkjkoaa
open Go.SX Go.RowKit
noncomputable def awake_tpl : Tpl := ⟨[], [], 0⟩
noncomputable def awake_needs : List Prop :=
  [4 ≤ 1000, true = true → 0 < 5, true = true → 0 < 5, true = true → 0 < 5, true = true → 1 < 5, true = true → 1 < 5, true = true → 1 < 5, true = true → 2 < 5, true = true → 2 < 5, true = true → 2 < 5,
    true = true → 2 < 5, true = true → 2 < 5, true = true → 2 < 5, true = true → 2 < 5, true = true → 2 < 5, true = true → 2 < 5, true = true → 3 < 5, true = true → 3 < 5, true = true → 3 < 5,
    true = true → 4 < 5, true = true → 4 < 5, true = true → 4 < 5]
theorem awake_need : ∀ q ∈ (awake_needs), q := by
  unfold awake_needs
  simp only [List.forall_mem_cons, List.not_mem_nil, false_implies, implies_true, and_true]
  decide
set_option maxRecDepth 1000000 in
theorem awake_runs (hNeeds : ∀ pN ∈ (awake_needs), pN) : Runs (runF (sums K_apply) L_ap 10) (awake_tpl.args []) (awake_tpl.memo [] []) awake_tpl.n (SV.one (SC.bool (SB.v true)))
    ([]) :=
  Runs.of1 (ps := (awake_needs)) (by kernel_rfl) hNeeds
noncomputable def awake_out : List Pm → Lss → Option CRes
  | [], [] => some ⟨SV.one (SC.bool (SB.v true)),
    [],
    [], [], 1018⟩
  | _, _ => none
theorem awake_ok : FOk Try.prog 10 (tplS awake_tpl awake_out) := by
  refine tplS_ok (runF_ok known_apply 10) fun ps ls r hr hn _ => ?_
  unfold awake_out at hr
  split at hr
  · cases hr; exact ⟨_, awake_runs  (fun p hp => awake_need p hp), fun _ => rfl⟩
  · cases hr
noncomputable def K_awake : List (Nat × Summ) := (10, tplS awake_tpl awake_out) :: K_apply
theorem known_awake : Known Try.prog (sums K_awake) L_ap := known_cons known_apply awake_ok
end Go.Proofs.Ytmbfbhimdkjkoaa
