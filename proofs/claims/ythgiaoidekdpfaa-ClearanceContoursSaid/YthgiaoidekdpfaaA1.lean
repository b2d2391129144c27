/-
  The sanity check of the laws. Conditions: none.
-/
import Derived.Test.YthgiaoidekdpfaaP1
set_option linter.all false
namespace Go.Proofs.Ythgiaoidekdpfaa
open Go.SX Go.RowKit
noncomputable def awake_tpl : Tpl := ⟨[], [], 0⟩
set_option maxRecDepth 1000000 in
theorem awake_runs : Runs (runF (sums K_near) L_mul 12) (awake_tpl.args []) (awake_tpl.memo [] []) awake_tpl.n (SV.one (SC.bool (SB.v true)))
    ([]) :=
  Runs.of1 (ps := []) (by kernel_rfl) (by simp)
noncomputable def awake_out : List Pm → Lss → Option CRes
  | [], [] => some ⟨SV.one (SC.bool (SB.v true)),
    [],
    [], [], 1565⟩
  | _, _ => none
theorem awake_ok : FOk Try.prog 12 (tplS awake_tpl awake_out) := by
  refine tplS_ok (runF_ok known_near 12) fun ps ls r hr hn _ => ?_
  unfold awake_out at hr
  split at hr
  · cases hr; exact ⟨_, awake_runs, fun _ => rfl⟩
  · cases hr
noncomputable def K_awake : List (Nat × Summ) := (12, tplS awake_tpl awake_out) :: K_near
theorem known_awake : Known Try.prog (sums K_awake) L_mul := known_cons known_near awake_ok
end Go.Proofs.Ythgiaoidekdpfaa
