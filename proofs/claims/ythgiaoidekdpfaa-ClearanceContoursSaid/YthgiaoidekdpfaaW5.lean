/-
  The small functions of the reference and of the makers. Conditions: none.
-/
import Derived.Test.YthgiaoidekdpfaaW2
set_option linter.all false
namespace Go.Proofs.Ythgiaoidekdpfaa
open Go.SX Go.RowKit
noncomputable def rsign_tpl : Tpl := ⟨[.one (.int .i64), .one (.int .i64)], [], 0⟩
set_option maxRecDepth 1000000 in
theorem rsign_runs (a b : Int) : Runs (runF (sums K_wcmp) L0 78) (rsign_tpl.args [.i a, .i b]) (rsign_tpl.memo [.i a, .i b] []) rsign_tpl.n (SV.one (SC.int IntKind.i64 (SI.v (wsign_0 a b))))
    ([]) :=
  Runs.of1 (ps := []) (by kernel_rfl) (by simp)
noncomputable def rsign_out : List Pm → Lss → Option CRes
  | [.i a, .i b], [] => some ⟨SV.one (SC.int IntKind.i64 (SI.v (wsign_0 a b))),
    [],
    [], [], 17⟩
  | _, _ => none
theorem rsign_ok : FOk Try.prog 78 (tplS rsign_tpl rsign_out) := by
  refine tplS_ok (runF_ok known_wcmp 78) fun ps ls r hr hn _ => ?_
  unfold rsign_out at hr
  split at hr
  · cases hr; exact ⟨_, rsign_runs _ _, fun _ => rfl⟩
  · cases hr
noncomputable def K_rsign : List (Nat × Summ) := (78, tplS rsign_tpl rsign_out) :: K_wcmp
theorem known_rsign : Known Try.prog (sums K_rsign) L0 := known_cons known_wcmp rsign_ok
noncomputable def mag_tpl : Tpl := ⟨[.one (.int .i64)], [], 0⟩
set_option maxRecDepth 1000000 in
theorem mag_runs (a : Int) : Runs (runF (sums K_rsign) L0 103) (mag_tpl.args [.i a]) (mag_tpl.memo [.i a] []) mag_tpl.n (SV.one (SC.int IntKind.u64 (SI.v (wsize_0 a))))
    ([]) :=
  Runs.of1 (ps := []) (by kernel_rfl) (by simp)
noncomputable def mag_out : List Pm → Lss → Option CRes
  | [.i a], [] => some ⟨SV.one (SC.int IntKind.u64 (SI.v (wsize_0 a))),
    [],
    [], [], 12⟩
  | _, _ => none
theorem mag_ok : FOk Try.prog 103 (tplS mag_tpl mag_out) := by
  refine tplS_ok (runF_ok known_rsign 103) fun ps ls r hr hn _ => ?_
  unfold mag_out at hr
  split at hr
  · cases hr; exact ⟨_, mag_runs _, fun _ => rfl⟩
  · cases hr
noncomputable def K_mag : List (Nat × Summ) := (103, tplS mag_tpl mag_out) :: K_rsign
theorem known_mag : Known Try.prog (sums K_mag) L0 := known_cons known_rsign mag_ok
noncomputable def csquare_tpl : Tpl := ⟨[.agg [.int .i64, .int .i64]], [], 0⟩
set_option maxRecDepth 1000000 in
theorem csquare_runs (a b : Int) : Runs (runF (sums K_mag) L0 72) (csquare_tpl.args [.i a, .i b]) (csquare_tpl.memo [.i a, .i b] []) csquare_tpl.n (SV.one (SC.int IntKind.i64 (SI.v (vinner_0 a b a b))))
    ([]) :=
  Runs.of1 (ps := []) (by kernel_rfl) (by simp)
noncomputable def csquare_out : List Pm → Lss → Option CRes
  | [.i a, .i b], [] => some ⟨SV.one (SC.int IntKind.i64 (SI.v (vinner_0 a b a b))),
    [],
    [], [], 30⟩
  | _, _ => none
theorem csquare_ok : FOk Try.prog 72 (tplS csquare_tpl csquare_out) := by
  refine tplS_ok (runF_ok known_mag 72) fun ps ls r hr hn _ => ?_
  unfold csquare_out at hr
  split at hr
  · cases hr; exact ⟨_, csquare_runs _ _, fun _ => rfl⟩
  · cases hr
noncomputable def K_csquare : List (Nat × Summ) := (72, tplS csquare_tpl csquare_out) :: K_mag
theorem known_csquare : Known Try.prog (sums K_csquare) L0 := known_cons known_mag csquare_ok
noncomputable def rinner_tpl : Tpl := ⟨[.agg [.int .i64, .int .i64], .agg [.int .i64, .int .i64]], [], 0⟩
set_option maxRecDepth 1000000 in
theorem rinner_runs (a b c d : Int) : Runs (runF (sums K_csquare) L0 76) (rinner_tpl.args [.i a, .i b, .i c, .i d]) (rinner_tpl.memo [.i a, .i b, .i c, .i d] []) rinner_tpl.n (SV.one (SC.int IntKind.i64 (SI.v (vinner_0 a b c d))))
    ([]) :=
  Runs.of1 (ps := []) (by kernel_rfl) (by simp)
noncomputable def rinner_out : List Pm → Lss → Option CRes
  | [.i a, .i b, .i c, .i d], [] => some ⟨SV.one (SC.int IntKind.i64 (SI.v (vinner_0 a b c d))),
    [],
    [], [], 21⟩
  | _, _ => none
theorem rinner_ok : FOk Try.prog 76 (tplS rinner_tpl rinner_out) := by
  refine tplS_ok (runF_ok known_csquare 76) fun ps ls r hr hn _ => ?_
  unfold rinner_out at hr
  split at hr
  · cases hr; exact ⟨_, rinner_runs _ _ _ _, fun _ => rfl⟩
  · cases hr
noncomputable def K_rinner : List (Nat × Summ) := (76, tplS rinner_tpl rinner_out) :: K_csquare
theorem known_rinner : Known Try.prog (sums K_rinner) L0 := known_cons known_csquare rinner_ok
noncomputable def rsquare_tpl : Tpl := ⟨[.agg [.int .i64, .int .i64]], [], 0⟩
set_option maxRecDepth 1000000 in
theorem rsquare_runs (a b : Int) : Runs (runF (sums K_rinner) L0 42) (rsquare_tpl.args [.i a, .i b]) (rsquare_tpl.memo [.i a, .i b] []) rsquare_tpl.n (SV.one (SC.int IntKind.i64 (SI.v (vinner_0 a b a b))))
    ([]) :=
  Runs.of1 (ps := []) (by kernel_rfl) (by simp)
noncomputable def rsquare_out : List Pm → Lss → Option CRes
  | [.i a, .i b], [] => some ⟨SV.one (SC.int IntKind.i64 (SI.v (vinner_0 a b a b))),
    [],
    [], [], 30⟩
  | _, _ => none
theorem rsquare_ok : FOk Try.prog 42 (tplS rsquare_tpl rsquare_out) := by
  refine tplS_ok (runF_ok known_rinner 42) fun ps ls r hr hn _ => ?_
  unfold rsquare_out at hr
  split at hr
  · cases hr; exact ⟨_, rsquare_runs _ _, fun _ => rfl⟩
  · cases hr
noncomputable def K_rsquare : List (Nat × Summ) := (42, tplS rsquare_tpl rsquare_out) :: K_rinner
theorem known_rsquare : Known Try.prog (sums K_rsquare) L0 := known_cons known_rinner rsquare_ok
noncomputable def csign_tpl : Tpl := ⟨[.one (.int .i64)], [], 0⟩
set_option maxRecDepth 1000000 in
theorem csign_runs (a : Int) : Runs (runF (sums K_rsquare) L0 67) (csign_tpl.args [.i a]) (csign_tpl.memo [.i a] []) csign_tpl.n (SV.one (SC.int IntKind.i64 (SI.v (wcmp_0 a 1 0 1))))
    ([]) :=
  Runs.of1 (ps := []) (by kernel_rfl) (by simp)
noncomputable def csign_out : List Pm → Lss → Option CRes
  | [.i a], [] => some ⟨SV.one (SC.int IntKind.i64 (SI.v (wcmp_0 a 1 0 1))),
    [],
    [], [], 290⟩
  | _, _ => none
theorem csign_ok : FOk Try.prog 67 (tplS csign_tpl csign_out) := by
  refine tplS_ok (runF_ok known_rsquare 67) fun ps ls r hr hn _ => ?_
  unfold csign_out at hr
  split at hr
  · cases hr; exact ⟨_, csign_runs _, fun _ => rfl⟩
  · cases hr
noncomputable def K_csign : List (Nat × Summ) := (67, tplS csign_tpl csign_out) :: K_rsquare
theorem known_csign : Known Try.prog (sums K_csign) L0 := known_cons known_rsquare csign_ok
end Go.Proofs.Ythgiaoidekdpfaa
