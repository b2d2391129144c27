/-
  The small functions of the reference and of the makers. Conditions: none.
-/
import Derived.Test.YthgiaoidekdpfaaGreatW2
set_option linter.all false
namespace Go.Proofs.YthgiaoidekdpfaaGreat
open Go.SX Go.RowKit
noncomputable def addpt_tpl : Tpl := ⟨[.agg [.int .i64, .int .i64], .agg [.int .i64, .int .i64]], [], 0⟩
noncomputable def addpt_0 (a : Int) (c : Int) : Int :=
  IntKind.i64.wrap (a + c)
set_option maxRecDepth 1000000 in
theorem addpt_runs (a b c d : Int) : Runs (runF (sums K_wcmp) L0 160) (addpt_tpl.args [.i a, .i b, .i c, .i d]) (addpt_tpl.memo [.i a, .i b, .i c, .i d] []) addpt_tpl.n (SV.agg [SC.int IntKind.i64 (SI.v (addpt_0 a c)), SC.int IntKind.i64 (SI.v (addpt_0 b d))])
    ([]) :=
  Runs.of1 (ps := []) (by kernel_rfl) (by simp)
noncomputable def addpt_out : List Pm → Lss → Option CRes
  | [.i a, .i b, .i c, .i d], [] => some ⟨SV.agg [SC.int IntKind.i64 (SI.v (addpt_0 a c)), SC.int IntKind.i64 (SI.v (addpt_0 b d))],
    [],
    [], [], 26⟩
  | _, _ => none
theorem addpt_ok : FOk Tryz.prog 160 (tplS addpt_tpl addpt_out) := by
  refine tplS_ok (runF_ok known_wcmp 160) fun ps ls r hr hn _ => ?_
  unfold addpt_out at hr
  split at hr
  · cases hr; exact ⟨_, addpt_runs _ _ _ _, fun _ => rfl⟩
  · cases hr
noncomputable def K_addpt : List (Nat × Summ) := (160, tplS addpt_tpl addpt_out) :: K_wcmp
theorem known_addpt : Known Tryz.prog (sums K_addpt) L0 := known_cons known_wcmp addpt_ok
end Go.Proofs.YthgiaoidekdpfaaGreat
