/-
  WIDE and vectors: what they return. Conditions: none.
-/
import Derived.Test.YthgiaoidekdpfaaGreatBase
set_option linter.all false
namespace Go.Proofs.YthgiaoidekdpfaaGreat
open Go.SX Go.RowKit
noncomputable def wsign_tpl : Tpl := ⟨[.one (.int .i64), .one (.int .i64)], [], 0⟩
noncomputable def wsign_0 (a : Int) (b : Int) : Int :=
  bif a == 0 || b == 0 then 0 else bif decide (a < 0) == decide (b < 0) then 1 else -1
set_option maxRecDepth 1000000 in
theorem wsign_runs (a b : Int) : Runs (runF (sums K0) L0 103) (wsign_tpl.args [.i a, .i b]) (wsign_tpl.memo [.i a, .i b] []) wsign_tpl.n (SV.one (SC.int IntKind.i64 (SI.v (wsign_0 a b))))
    ([]) :=
  Runs.of1 (ps := []) (by kernel_rfl) (by simp)
noncomputable def wsign_out : List Pm → Lss → Option CRes
  | [.i a, .i b], [] => some ⟨SV.one (SC.int IntKind.i64 (SI.v (wsign_0 a b))),
    [],
    [], [], 17⟩
  | _, _ => none
theorem wsign_ok : FOk Tryz.prog 103 (tplS wsign_tpl wsign_out) := by
  refine tplS_ok (runF_ok known0 103) fun ps ls r hr hn _ => ?_
  unfold wsign_out at hr
  split at hr
  · cases hr; exact ⟨_, wsign_runs _ _, fun _ => rfl⟩
  · cases hr
noncomputable def K_wsign : List (Nat × Summ) := (103, tplS wsign_tpl wsign_out) :: K0
theorem known_wsign : Known Tryz.prog (sums K_wsign) L0 := known_cons known0 wsign_ok
noncomputable def minus_tpl : Tpl := ⟨[.agg [.int .i64, .int .i64], .agg [.int .i64, .int .i64]], [], 0⟩
noncomputable def minus_0 (a : Int) (c : Int) : Int :=
  IntKind.i64.wrap (a - c)
set_option maxRecDepth 1000000 in
theorem minus_runs (a b c d : Int) : Runs (runF (sums K_wsign) L0 131) (minus_tpl.args [.i a, .i b, .i c, .i d]) (minus_tpl.memo [.i a, .i b, .i c, .i d] []) minus_tpl.n (SV.agg [SC.int IntKind.i64 (SI.v (minus_0 a c)), SC.int IntKind.i64 (SI.v (minus_0 b d))])
    ([]) :=
  Runs.of1 (ps := []) (by kernel_rfl) (by simp)
noncomputable def minus_out : List Pm → Lss → Option CRes
  | [.i a, .i b, .i c, .i d], [] => some ⟨SV.agg [SC.int IntKind.i64 (SI.v (minus_0 a c)), SC.int IntKind.i64 (SI.v (minus_0 b d))],
    [],
    [], [], 26⟩
  | _, _ => none
theorem minus_ok : FOk Tryz.prog 131 (tplS minus_tpl minus_out) := by
  refine tplS_ok (runF_ok known_wsign 131) fun ps ls r hr hn _ => ?_
  unfold minus_out at hr
  split at hr
  · cases hr; exact ⟨_, minus_runs _ _ _ _, fun _ => rfl⟩
  · cases hr
noncomputable def K_minus : List (Nat × Summ) := (131, tplS minus_tpl minus_out) :: K_wsign
theorem known_minus : Known Tryz.prog (sums K_minus) L0 := known_cons known_wsign minus_ok
noncomputable def vcross_tpl : Tpl := ⟨[.agg [.int .i64, .int .i64], .agg [.int .i64, .int .i64]], [], 0⟩
noncomputable def vcross_0 (a : Int) (b : Int) (c : Int) (d : Int) : Int :=
  IntKind.i64.wrap (IntKind.i64.wrap (a * d) - IntKind.i64.wrap (b * c))
set_option maxRecDepth 1000000 in
theorem vcross_runs (a b c d : Int) : Runs (runF (sums K_minus) L0 60) (vcross_tpl.args [.i a, .i b, .i c, .i d]) (vcross_tpl.memo [.i a, .i b, .i c, .i d] []) vcross_tpl.n (SV.one (SC.int IntKind.i64 (SI.v (vcross_0 a b c d))))
    ([]) :=
  Runs.of1 (ps := []) (by kernel_rfl) (by simp)
noncomputable def vcross_out : List Pm → Lss → Option CRes
  | [.i a, .i b, .i c, .i d], [] => some ⟨SV.one (SC.int IntKind.i64 (SI.v (vcross_0 a b c d))),
    [],
    [], [], 21⟩
  | _, _ => none
theorem vcross_ok : FOk Tryz.prog 60 (tplS vcross_tpl vcross_out) := by
  refine tplS_ok (runF_ok known_minus 60) fun ps ls r hr hn _ => ?_
  unfold vcross_out at hr
  split at hr
  · cases hr; exact ⟨_, vcross_runs _ _ _ _, fun _ => rfl⟩
  · cases hr
noncomputable def K_vcross : List (Nat × Summ) := (60, tplS vcross_tpl vcross_out) :: K_minus
theorem known_vcross : Known Tryz.prog (sums K_vcross) L0 := known_cons known_minus vcross_ok
noncomputable def vinner_tpl : Tpl := ⟨[.agg [.int .i64, .int .i64], .agg [.int .i64, .int .i64]], [], 0⟩
noncomputable def vinner_0 (a : Int) (b : Int) (c : Int) (d : Int) : Int :=
  IntKind.i64.wrap (IntKind.i64.wrap (a * c) + IntKind.i64.wrap (b * d))
set_option maxRecDepth 1000000 in
theorem vinner_runs (a b c d : Int) : Runs (runF (sums K_vcross) L0 70) (vinner_tpl.args [.i a, .i b, .i c, .i d]) (vinner_tpl.memo [.i a, .i b, .i c, .i d] []) vinner_tpl.n (SV.one (SC.int IntKind.i64 (SI.v (vinner_0 a b c d))))
    ([]) :=
  Runs.of1 (ps := []) (by kernel_rfl) (by simp)
noncomputable def vinner_out : List Pm → Lss → Option CRes
  | [.i a, .i b, .i c, .i d], [] => some ⟨SV.one (SC.int IntKind.i64 (SI.v (vinner_0 a b c d))),
    [],
    [], [], 21⟩
  | _, _ => none
theorem vinner_ok : FOk Tryz.prog 70 (tplS vinner_tpl vinner_out) := by
  refine tplS_ok (runF_ok known_vcross 70) fun ps ls r hr hn _ => ?_
  unfold vinner_out at hr
  split at hr
  · cases hr; exact ⟨_, vinner_runs _ _ _ _, fun _ => rfl⟩
  · cases hr
noncomputable def K_vinner : List (Nat × Summ) := (70, tplS vinner_tpl vinner_out) :: K_vcross
theorem known_vinner : Known Tryz.prog (sums K_vinner) L0 := known_cons known_vcross vinner_ok
noncomputable def wsize_tpl : Tpl := ⟨[.one (.int .i64)], [], 0⟩
noncomputable def wsize_0 (a : Int) : Int :=
  bif decide (a < 0) then IntKind.u64.wrap (IntKind.u64.wrap (IntKind.i64.wrap (0 - IntKind.i64.wrap (a + 1))) + 1) else IntKind.u64.wrap a
set_option maxRecDepth 1000000 in
theorem wsize_runs (a : Int) : Runs (runF (sums K_vinner) L0 106) (wsize_tpl.args [.i a]) (wsize_tpl.memo [.i a] []) wsize_tpl.n (SV.one (SC.int IntKind.u64 (SI.v (wsize_0 a))))
    ([]) :=
  Runs.of1 (ps := []) (by kernel_rfl) (by simp)
noncomputable def wsize_out : List Pm → Lss → Option CRes
  | [.i a], [] => some ⟨SV.one (SC.int IntKind.u64 (SI.v (wsize_0 a))),
    [],
    [], [], 12⟩
  | _, _ => none
theorem wsize_ok : FOk Tryz.prog 106 (tplS wsize_tpl wsize_out) := by
  refine tplS_ok (runF_ok known_vinner 106) fun ps ls r hr hn _ => ?_
  unfold wsize_out at hr
  split at hr
  · cases hr; exact ⟨_, wsize_runs _, fun _ => rfl⟩
  · cases hr
noncomputable def K_wsize : List (Nat × Summ) := (106, tplS wsize_tpl wsize_out) :: K_vinner
theorem known_wsize : Known Tryz.prog (sums K_wsize) L0 := known_cons known_vinner wsize_ok
end Go.Proofs.YthgiaoidekdpfaaGreat
