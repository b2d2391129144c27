/-
  CHECK: which ends are apart. Conditions: none.
-/
import Derived.Test.YthgiaoidekdpfaaGreatDE
import Derived.Test.YthgiaoidekdpfaaGreatFL
import Derived.Test.YthgiaoidekdpfaaGreatCW
set_option linter.all false
namespace Go.Proofs.YthgiaoidekdpfaaGreat
open Go.SX Go.RowKit
noncomputable def capart_tpl : Tpl := ⟨[.agg [.int .i64, .int .i64, .int .i64, .int .i64, .int .i64, .int .i64, .int .i64, .bool], .agg [.int .i64, .int .i64, .int .i64, .int .i64, .int .i64, .int .i64, .int .i64, .bool], .one (.int .i64)], [], 0⟩
noncomputable def capart_0 (a0 : Int) (a1 : Int) (a2 : Int) (a3 : Int) (b0 : Int) (b1 : Int) (b2 : Int) (b3 : Int) (b4 : Int) (b5 : Int) (b6 : Int) (b7 : Bool) (d : Int) : Bool :=
  !dstC Cl b0 b1 b2 b3 b4 b5 b6 b7 a0 a1 d && !dstC Cl b0 b1 b2 b3 b4 b5 b6 b7 a2 a3 d
set_option maxRecDepth 1000000 in
theorem capart_runs (a0 a1 a2 a3 a4 a5 a6 : Int) (a7 : Bool) (b0 b1 b2 b3 b4 b5 b6 : Int) (b7 : Bool) (d : Int) : Runs (runF (sums K_awake) L_push 20) (capart_tpl.args [.i a0, .i a1, .i a2, .i a3, .i a4, .i a5, .i a6, .b a7, .i b0, .i b1, .i b2, .i b3, .i b4, .i b5, .i b6, .b b7, .i d]) (capart_tpl.memo [.i a0, .i a1, .i a2, .i a3, .i a4, .i a5, .i a6, .b a7, .i b0, .i b1, .i b2, .i b3, .i b4, .i b5, .i b6, .b b7, .i d] []) capart_tpl.n (SV.one (SC.bool (SB.v (capart_0 a0 a1 a2 a3 b0 b1 b2 b3 b4 b5 b6 b7 d))))
    ([]) :=
  Runs.of1 (ps := []) (by kernel_rfl) (by simp)
noncomputable def capart_out : List Pm → Lss → Option CRes
  | [.i a0, .i a1, .i a2, .i a3, .i a4, .i a5, .i a6, .b a7, .i b0, .i b1, .i b2, .i b3, .i b4, .i b5, .i b6, .b b7, .i d], [] => some ⟨SV.one (SC.bool (SB.v (capart_0 a0 a1 a2 a3 b0 b1 b2 b3 b4 b5 b6 b7 d))),
    [],
    [], [], 34⟩
  | _, _ => none
theorem capart_ok : FOk Tryz.prog 20 (tplS capart_tpl capart_out) := by
  refine tplS_ok (runF_ok known_push 20) fun ps ls r hr hn _ => ?_
  unfold capart_out at hr
  split at hr
  · cases hr; exact ⟨_, capart_runs _ _ _ _ _ _ _ _ _ _ _ _ _ _ _ _ _, fun _ => rfl⟩
  · cases hr
noncomputable def K_capart : List (Nat × Summ) := (20, tplS capart_tpl capart_out) :: K_awake
theorem known_capart : Known Tryz.prog (sums K_capart) L_push := known_cons known_push capart_ok
end Go.Proofs.YthgiaoidekdpfaaGreat
