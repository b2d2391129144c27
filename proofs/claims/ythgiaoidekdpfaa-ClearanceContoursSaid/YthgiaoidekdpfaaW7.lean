/-
  The makers' small functions. Conditions: none.
-/
import Derived.Test.YthgiaoidekdpfaaW6
set_option linter.all false
namespace Go.Proofs.Ythgiaoidekdpfaa
open Go.SX Go.RowKit
noncomputable def addpt_tpl : Tpl := ⟨[.agg [.int .i64, .int .i64], .agg [.int .i64, .int .i64]], [], 0⟩
noncomputable def addpt_0 (a : Int) (c : Int) : Int :=
  IntKind.i64.wrap (a + c)
set_option maxRecDepth 1000000 in
theorem addpt_runs (a b c d : Int) : Runs (runF (sums K_rcrosses) L0 18) (addpt_tpl.args [.i a, .i b, .i c, .i d]) (addpt_tpl.memo [.i a, .i b, .i c, .i d] []) addpt_tpl.n (SV.agg [SC.int IntKind.i64 (SI.v (addpt_0 a c)), SC.int IntKind.i64 (SI.v (addpt_0 b d))])
    ([]) :=
  Runs.of1 (ps := []) (by kernel_rfl) (by simp)
noncomputable def addpt_out : List Pm → Lss → Option CRes
  | [.i a, .i b, .i c, .i d], [] => some ⟨SV.agg [SC.int IntKind.i64 (SI.v (addpt_0 a c)), SC.int IntKind.i64 (SI.v (addpt_0 b d))],
    [],
    [], [], 26⟩
  | _, _ => none
theorem addpt_ok : FOk Try.prog 18 (tplS addpt_tpl addpt_out) := by
  refine tplS_ok (runF_ok known_rcrosses 18) fun ps ls r hr hn _ => ?_
  unfold addpt_out at hr
  split at hr
  · cases hr; exact ⟨_, addpt_runs _ _ _ _, fun _ => rfl⟩
  · cases hr
noncomputable def K_addpt : List (Nat × Summ) := (18, tplS addpt_tpl addpt_out) :: K_rcrosses
theorem known_addpt : Known Try.prog (sums K_addpt) L0 := known_cons known_rcrosses addpt_ok
noncomputable def spoke_tpl : Tpl := ⟨[.agg [.int .i64, .int .i64, .int .i64, .int .i64, .int .i64, .int .i64, .int .i64, .bool], .one (.bool)], [], 0⟩
noncomputable def spoke_0 (a0 : Int) (a2 : Int) (a4 : Int) (b : Bool) : Int :=
  bif b then minus_0 a2 a4 else minus_0 a0 a4
set_option maxRecDepth 1000000 in
theorem spoke_runs (a0 a1 a2 a3 a4 a5 a6 : Int) (a7 b : Bool) : Runs (runF (sums K_addpt) L0 45) (spoke_tpl.args [.i a0, .i a1, .i a2, .i a3, .i a4, .i a5, .i a6, .b a7, .b b]) (spoke_tpl.memo [.i a0, .i a1, .i a2, .i a3, .i a4, .i a5, .i a6, .b a7, .b b] []) spoke_tpl.n (SV.agg [SC.int IntKind.i64 (SI.v (spoke_0 a0 a2 a4 b)), SC.int IntKind.i64 (SI.v (spoke_0 a1 a3 a5 b))])
    ([]) :=
  Runs.of1 (ps := []) (by kernel_rfl) (by simp)
noncomputable def spoke_out : List Pm → Lss → Option CRes
  | [.i a0, .i a1, .i a2, .i a3, .i a4, .i a5, .i a6, .b a7, .b b], [] => some ⟨SV.agg [SC.int IntKind.i64 (SI.v (spoke_0 a0 a2 a4 b)), SC.int IntKind.i64 (SI.v (spoke_0 a1 a3 a5 b))],
    [],
    [], [], 85⟩
  | _, _ => none
theorem spoke_ok : FOk Try.prog 45 (tplS spoke_tpl spoke_out) := by
  refine tplS_ok (runF_ok known_addpt 45) fun ps ls r hr hn _ => ?_
  unfold spoke_out at hr
  split at hr
  · cases hr; exact ⟨_, spoke_runs _ _ _ _ _ _ _ _ _, fun _ => rfl⟩
  · cases hr
noncomputable def K_spoke : List (Nat × Summ) := (45, tplS spoke_tpl spoke_out) :: K_addpt
theorem known_spoke : Known Try.prog (sums K_spoke) L0 := known_cons known_addpt spoke_ok
noncomputable def in19_tpl : Tpl := ⟨[.one (.int .i64), .one (.int .i64)], [], 0⟩
noncomputable def in19_0 (a : Int) (b : Int) : Bool :=
  decide (a ≥ IntKind.i64.wrap (0 - b)) && decide (a ≤ b)
set_option maxRecDepth 1000000 in
theorem in19_runs (a b : Int) : Runs (runF (sums K_spoke) L0 82) (in19_tpl.args [.i a, .i b]) (in19_tpl.memo [.i a, .i b] []) in19_tpl.n (SV.one (SC.bool (SB.v (in19_0 a b))))
    ([]) :=
  Runs.of1 (ps := []) (by kernel_rfl) (by simp)
noncomputable def in19_out : List Pm → Lss → Option CRes
  | [.i a, .i b], [] => some ⟨SV.one (SC.bool (SB.v (in19_0 a b))),
    [],
    [], [], 11⟩
  | _, _ => none
theorem in19_ok : FOk Try.prog 82 (tplS in19_tpl in19_out) := by
  refine tplS_ok (runF_ok known_spoke 82) fun ps ls r hr hn _ => ?_
  unfold in19_out at hr
  split at hr
  · cases hr; exact ⟨_, in19_runs _ _, fun _ => rfl⟩
  · cases hr
noncomputable def K_in19 : List (Nat × Summ) := (82, tplS in19_tpl in19_out) :: K_spoke
theorem known_in19 : Known Try.prog (sums K_in19) L0 := known_cons known_spoke in19_ok
noncomputable def within_tpl : Tpl := ⟨[.agg [.int .i64, .int .i64]], [], 0⟩
noncomputable def within_0 (a : Int) (b : Int) : Bool :=
  in19_0 a 1048576 && in19_0 b 1048576
set_option maxRecDepth 1000000 in
theorem within_runs (a b : Int) : Runs (runF (sums K_in19) L0 52) (within_tpl.args [.i a, .i b]) (within_tpl.memo [.i a, .i b] []) within_tpl.n (SV.one (SC.bool (SB.v (within_0 a b))))
    ([]) :=
  Runs.of1 (ps := []) (by kernel_rfl) (by simp)
noncomputable def within_out : List Pm → Lss → Option CRes
  | [.i a, .i b], [] => some ⟨SV.one (SC.bool (SB.v (within_0 a b))),
    [],
    [], [], 36⟩
  | _, _ => none
theorem within_ok : FOk Try.prog 52 (tplS within_tpl within_out) := by
  refine tplS_ok (runF_ok known_in19 52) fun ps ls r hr hn _ => ?_
  unfold within_out at hr
  split at hr
  · cases hr; exact ⟨_, within_runs _ _, fun _ => rfl⟩
  · cases hr
noncomputable def K_within : List (Nat × Summ) := (52, tplS within_tpl within_out) :: K_in19
theorem known_within : Known Try.prog (sums K_within) L0 := known_cons known_in19 within_ok
end Go.Proofs.Ythgiaoidekdpfaa
