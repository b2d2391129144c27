/-
  The sanity check; a call that is not made. Conditions: none.
-/
import Derived.Test.YthgiaoidekdpfaaGreatY2
import Derived.Test.YthgiaoidekdpfaaGreatO2
set_option linter.all false
namespace Go.Proofs.YthgiaoidekdpfaaGreat
open Go.SX Go.RowKit
noncomputable def awake_tpl : Tpl := ⟨[], [], 0⟩
set_option maxRecDepth 1000000 in
theorem awake_runs : Runs (runF (sums K_far) L_st 10) (awake_tpl.args []) (awake_tpl.memo [] []) awake_tpl.n (SV.one (SC.bool (SB.v true)))
    ([]) :=
  Runs.of1 (ps := []) (by kernel_rfl) (by simp)
noncomputable def awake_out : List Pm → Lss → Option CRes
  | [], [] => some ⟨SV.one (SC.bool (SB.c true)),
    [],
    [], [], 1565⟩
  | _, _ => none
theorem awake_ok : FOk Tryz.prog 10 (tplS awake_tpl awake_out) := by
  refine tplS_ok (runF_ok known_far 10) fun ps ls r hr hn _ => ?_
  unfold awake_out at hr
  split at hr
  · cases hr; exact ⟨_, awake_runs, fun _ => rfl⟩
  · cases hr
/-- A call that is never made: its summary asks for False. -/
noncomputable def noS : Summ := fun _ _ n => some ⟨.one (.int .i64 (.v 0)), [], [False], [], n⟩
theorem no_ok (P : Program) (f : FuncId) : FOk P f noS := fun _ _ _ r h hn => by cases h; exact absurd (hn False (by simp)) id
noncomputable def K_awake : List (Nat × Summ) := (29, noS) :: (10, tplS awake_tpl awake_out) :: K_far
theorem known_awake : Known Tryz.prog (sums K_awake) L_st := known_cons (known_cons known_far awake_ok) (no_ok _ _)
end Go.Proofs.YthgiaoidekdpfaaGreat
