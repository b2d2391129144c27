/-
  CHECK: which elements are valid, which ends are apart. Conditions: none.
-/
import Derived.Test.YthgiaoidekdpfaaL2
import Derived.Test.YthgiaoidekdpfaaD3
set_option linter.all false
namespace Go.Proofs.Ythgiaoidekdpfaa
open Go.SX Go.RowKit
noncomputable def rvalid_tpl : Tpl := ⟨[.agg [.int .i64, .int .i64, .int .i64, .int .i64, .int .i64, .int .i64, .int .i64, .bool]], [], 0⟩
noncomputable def rvalid_0 (a0 : Int) (a1 : Int) (a2 : Int) (a3 : Int) (a4 : Int) (a5 : Int) (a6 : Int) (a7 : Bool) : Bool :=
  bif !within_0 a0 a1 || !within_0 a2 a3 || !within_0 a4 a5 then false
  else
    bif a6 == 0 then !(a0 == a2 && a1 == a3) && !a7 && (a4 == 0 && a5 == 0)
    else (a6 == 1 || a6 == -1) && fit_0 (spoke_0 a0 a2 a4 false) (spoke_0 a1 a3 a5 false) (spoke_0 a0 a2 a4 true) (spoke_0 a1 a3 a5 true) a7
set_option maxRecDepth 1000000 in
theorem rvalid_runs (a0 a1 a2 a3 a4 a5 a6 : Int) (a7 : Bool) : Runs (runF (sums K_rnear) L_mul 30) (rvalid_tpl.args [.i a0, .i a1, .i a2, .i a3, .i a4, .i a5, .i a6, .b a7]) (rvalid_tpl.memo [.i a0, .i a1, .i a2, .i a3, .i a4, .i a5, .i a6, .b a7] []) rvalid_tpl.n (SV.one (SC.bool (SB.v (rvalid_0 a0 a1 a2 a3 a4 a5 a6 a7))))
    ([]) :=
  Runs.of (ps := []) (by kernel_rfl) (by kernel_rfl) (by simp)
noncomputable def rvalid_out : List Pm → Lss → Option CRes
  | [.i a0, .i a1, .i a2, .i a3, .i a4, .i a5, .i a6, .b a7], [] => some ⟨SV.one (SC.bool (SB.v (rvalid_0 a0 a1 a2 a3 a4 a5 a6 a7))),
    [],
    [], [], 883⟩
  | _, _ => none
theorem rvalid_ok : FOk Try.prog 30 (tplS rvalid_tpl rvalid_out) := by
  refine tplS_ok (runF_ok known_rnear 30) fun ps ls r hr hn _ => ?_
  unfold rvalid_out at hr
  split at hr
  · cases hr; exact ⟨_, rvalid_runs _ _ _ _ _ _ _ _, fun _ => rfl⟩
  · cases hr
noncomputable def K_rvalid : List (Nat × Summ) := (30, tplS rvalid_tpl rvalid_out) :: K_rnear
theorem known_rvalid : Known Try.prog (sums K_rvalid) L_mul := known_cons known_rnear rvalid_ok
noncomputable def capart_tpl : Tpl := ⟨[.agg [.int .i64, .int .i64, .int .i64, .int .i64, .int .i64, .int .i64, .int .i64, .bool], .agg [.int .i64, .int .i64, .int .i64, .int .i64, .int .i64, .int .i64, .int .i64, .bool], .one (.int .i64)], [], 0⟩
noncomputable def capart_0 (a0 : Int) (a1 : Int) (a2 : Int) (a3 : Int) (b0 : Int) (b1 : Int) (b2 : Int) (b3 : Int) (b4 : Int) (b5 : Int) (b6 : Int) (b7 : Bool) (d : Int) : Bool :=
  !dstC Cl b0 b1 b2 b3 b4 b5 b6 b7 a0 a1 d && !dstC Cl b0 b1 b2 b3 b4 b5 b6 b7 a2 a3 d
set_option maxRecDepth 1000000 in
theorem capart_runs (a0 a1 a2 a3 a4 a5 a6 : Int) (a7 : Bool) (b0 b1 b2 b3 b4 b5 b6 : Int) (b7 : Bool) (d : Int) : Runs (runF (sums K_rvalid) L_mul 54) (capart_tpl.args [.i a0, .i a1, .i a2, .i a3, .i a4, .i a5, .i a6, .b a7, .i b0, .i b1, .i b2, .i b3, .i b4, .i b5, .i b6, .b b7, .i d]) (capart_tpl.memo [.i a0, .i a1, .i a2, .i a3, .i a4, .i a5, .i a6, .b a7, .i b0, .i b1, .i b2, .i b3, .i b4, .i b5, .i b6, .b b7, .i d] []) capart_tpl.n (SV.one (SC.bool (SB.v (capart_0 a0 a1 a2 a3 b0 b1 b2 b3 b4 b5 b6 b7 d))))
    ([]) :=
  Runs.of (ps := []) (by kernel_rfl) (by kernel_rfl) (by simp)
noncomputable def capart_out : List Pm → Lss → Option CRes
  | [.i a0, .i a1, .i a2, .i a3, .i a4, .i a5, .i a6, .b a7, .i b0, .i b1, .i b2, .i b3, .i b4, .i b5, .i b6, .b b7, .i d], [] => some ⟨SV.one (SC.bool (SB.v (capart_0 a0 a1 a2 a3 b0 b1 b2 b3 b4 b5 b6 b7 d))),
    [],
    [], [], 34⟩
  | _, _ => none
theorem capart_ok : FOk Try.prog 54 (tplS capart_tpl capart_out) := by
  refine tplS_ok (runF_ok known_rvalid 54) fun ps ls r hr hn _ => ?_
  unfold capart_out at hr
  split at hr
  · cases hr; exact ⟨_, capart_runs _ _ _ _ _ _ _ _ _ _ _ _ _ _ _ _ _, fun _ => rfl⟩
  · cases hr
noncomputable def K_capart : List (Nat × Summ) := (54, tplS capart_tpl capart_out) :: K_rvalid
theorem known_capart : Known Try.prog (sums K_capart) L_mul := known_cons known_rvalid capart_ok
end Go.Proofs.Ythgiaoidekdpfaa
