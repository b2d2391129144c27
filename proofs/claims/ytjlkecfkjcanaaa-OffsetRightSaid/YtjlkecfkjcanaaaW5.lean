/-
  The small functions of the reference and of the makers. Conditions: none.
-/
import Derived.Test.YtjlkecfkjcanaaaW2
set_option linter.all false
namespace Go.Proofs.Ytjlkecfkjcanaaa
open Go.SX Go.RowKit
noncomputable def rsign_tpl : Tpl := ⟨[.one (.int .i64), .one (.int .i64)], [], 0⟩
set_option maxRecDepth 1000000 in
theorem rsign_runs (a b : Int) : Runs (runF (sums K_wcmp) L0 85) (rsign_tpl.args [.i a, .i b]) (rsign_tpl.memo [.i a, .i b] []) rsign_tpl.n (SV.one (SC.int IntKind.i64 (SI.v (wsign_0 a b))))
    ([]) :=
  Runs.of (ps := []) (by kernel_rfl) (by kernel_rfl) (by simp)
noncomputable def rsign_out : List Pm → Lss → Option CRes
  | [.i a, .i b], [] => some ⟨SV.one (SC.int IntKind.i64 (SI.v (wsign_0 a b))),
    [],
    [], [], 17⟩
  | _, _ => none
theorem rsign_ok : FOk Try.prog 85 (tplS rsign_tpl rsign_out) := by
  refine tplS_ok (runF_ok known_wcmp 85) fun ps ls r hr hn _ => ?_
  unfold rsign_out at hr
  split at hr
  · cases hr; exact ⟨_, rsign_runs _ _, fun _ => rfl⟩
  · cases hr
noncomputable def K_rsign : List (Nat × Summ) := (85, tplS rsign_tpl rsign_out) :: K_wcmp
theorem known_rsign : Known Try.prog (sums K_rsign) L0 := known_cons known_wcmp rsign_ok
noncomputable def mag_tpl : Tpl := ⟨[.one (.int .i64)], [], 0⟩
set_option maxRecDepth 1000000 in
theorem mag_runs (a : Int) : Runs (runF (sums K_rsign) L0 78) (mag_tpl.args [.i a]) (mag_tpl.memo [.i a] []) mag_tpl.n (SV.one (SC.int IntKind.u64 (SI.v (wsize_0 a))))
    ([]) :=
  Runs.of (ps := []) (by kernel_rfl) (by kernel_rfl) (by simp)
noncomputable def mag_out : List Pm → Lss → Option CRes
  | [.i a], [] => some ⟨SV.one (SC.int IntKind.u64 (SI.v (wsize_0 a))),
    [],
    [], [], 12⟩
  | _, _ => none
theorem mag_ok : FOk Try.prog 78 (tplS mag_tpl mag_out) := by
  refine tplS_ok (runF_ok known_rsign 78) fun ps ls r hr hn _ => ?_
  unfold mag_out at hr
  split at hr
  · cases hr; exact ⟨_, mag_runs _, fun _ => rfl⟩
  · cases hr
noncomputable def K_mag : List (Nat × Summ) := (78, tplS mag_tpl mag_out) :: K_rsign
theorem known_mag : Known Try.prog (sums K_mag) L0 := known_cons known_rsign mag_ok
noncomputable def addpt_tpl : Tpl := ⟨[.agg [.int .i64, .int .i64], .agg [.int .i64, .int .i64]], [], 0⟩
noncomputable def addpt_0 (a : Int) (c : Int) : Int :=
  IntKind.i64.wrap (a + c)
set_option maxRecDepth 1000000 in
theorem addpt_runs (a b c d : Int) : Runs (runF (sums K_mag) L0 26) (addpt_tpl.args [.i a, .i b, .i c, .i d]) (addpt_tpl.memo [.i a, .i b, .i c, .i d] []) addpt_tpl.n (SV.agg [SC.int IntKind.i64 (SI.v (addpt_0 a c)), SC.int IntKind.i64 (SI.v (addpt_0 b d))])
    ([]) :=
  Runs.of (ps := []) (by kernel_rfl) (by kernel_rfl) (by simp)
noncomputable def addpt_out : List Pm → Lss → Option CRes
  | [.i a, .i b, .i c, .i d], [] => some ⟨SV.agg [SC.int IntKind.i64 (SI.v (addpt_0 a c)), SC.int IntKind.i64 (SI.v (addpt_0 b d))],
    [],
    [], [], 26⟩
  | _, _ => none
theorem addpt_ok : FOk Try.prog 26 (tplS addpt_tpl addpt_out) := by
  refine tplS_ok (runF_ok known_mag 26) fun ps ls r hr hn _ => ?_
  unfold addpt_out at hr
  split at hr
  · cases hr; exact ⟨_, addpt_runs _ _ _ _, fun _ => rfl⟩
  · cases hr
noncomputable def K_addpt : List (Nat × Summ) := (26, tplS addpt_tpl addpt_out) :: K_mag
theorem known_addpt : Known Try.prog (sums K_addpt) L0 := known_cons known_mag addpt_ok
end Go.Proofs.Ytjlkecfkjcanaaa
