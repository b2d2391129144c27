/-
  The clearance's own small functions. Conditions: none.
-/
import Derived.Test.YthgiaoidekdpfaaW5
set_option linter.all false
namespace Go.Proofs.Ythgiaoidekdpfaa
open Go.SX Go.RowKit
noncomputable def ccompare_tpl : Tpl := ⟨[.one (.int .i64), .one (.int .i64), .one (.int .i64)], [], 0⟩
noncomputable def ccompare_s0 (x : Int) (c : Int) (y : Int) : Int :=
  IntKind.i64.wrap (IntKind.i64.wrap (y - x) - IntKind.i64.wrap (c * c))
noncomputable def ccompare_0 (x : Int) (c : Int) (y : Int) : Int :=
  bif decide (ccompare_s0 x c y < 0) then 1 else wcmp_0 (IntKind.i64.wrap (IntKind.i64.wrap (4 * c) * c)) x (ccompare_s0 x c y) (ccompare_s0 x c y)
set_option maxRecDepth 1000000 in
theorem ccompare_runs (x c y : Int) : Runs (runF (sums K_csign) L0 95) (ccompare_tpl.args [.i x, .i c, .i y]) (ccompare_tpl.memo [.i x, .i c, .i y] []) ccompare_tpl.n (SV.one (SC.int IntKind.i64 (SI.v (ccompare_0 x c y))))
    ([]) :=
  Runs.of1 (ps := []) (by kernel_rfl) (by simp)
noncomputable def ccompare_out : List Pm → Lss → Option CRes
  | [.i x, .i c, .i y], [] => some ⟨SV.one (SC.int IntKind.i64 (SI.v (ccompare_0 x c y))),
    [],
    [], [], 307⟩
  | _, _ => none
theorem ccompare_ok : FOk Try.prog 95 (tplS ccompare_tpl ccompare_out) := by
  refine tplS_ok (runF_ok known_csign 95) fun ps ls r hr hn _ => ?_
  unfold ccompare_out at hr
  split at hr
  · cases hr; exact ⟨_, ccompare_runs _ _ _, fun _ => rfl⟩
  · cases hr
noncomputable def K_ccompare : List (Nat × Summ) := (95, tplS ccompare_tpl ccompare_out) :: K_csign
theorem known_ccompare : Known Try.prog (sums K_ccompare) L0 := known_cons known_csign ccompare_ok
noncomputable def cdiff_tpl : Tpl := ⟨[.one (.int .i64), .one (.int .i64), .one (.int .i64)], [], 0⟩
noncomputable def cdiff_0 (x : Int) (y : Int) (d : Int) : Int :=
  IntKind.i64.wrap (0 - ccompare_0 (if y < x then y else x) d (if y > x then y else x))
set_option maxRecDepth 1000000 in
theorem cdiff_runs (x y d : Int) : Runs (runF (sums K_ccompare) L0 73) (cdiff_tpl.args [.i x, .i y, .i d]) (cdiff_tpl.memo [.i x, .i y, .i d] []) cdiff_tpl.n (SV.one (SC.int IntKind.i64 (SI.v (cdiff_0 x y d))))
    ([]) :=
  Runs.of1 (ps := []) (by kernel_rfl) (by simp)
noncomputable def cdiff_out : List Pm → Lss → Option CRes
  | [.i x, .i y, .i d], [] => some ⟨SV.one (SC.int IntKind.i64 (SI.v (cdiff_0 x y d))),
    [],
    [], [], 318⟩
  | _, _ => none
theorem cdiff_ok : FOk Try.prog 73 (tplS cdiff_tpl cdiff_out) := by
  refine tplS_ok (runF_ok known_ccompare 73) fun ps ls r hr hn _ => ?_
  unfold cdiff_out at hr
  split at hr
  · cases hr; exact ⟨_, cdiff_runs _ _ _, fun _ => rfl⟩
  · cases hr
noncomputable def K_cdiff : List (Nat × Summ) := (73, tplS cdiff_tpl cdiff_out) :: K_ccompare
theorem known_cdiff : Known Try.prog (sums K_cdiff) L0 := known_cons known_ccompare cdiff_ok
noncomputable def parted_tpl : Tpl := ⟨[.agg [.int .i64, .int .i64, .int .i64, .int .i64, .int .i64, .int .i64, .int .i64, .bool], .agg [.int .i64, .int .i64, .int .i64, .int .i64, .int .i64, .int .i64, .int .i64, .bool]], [], 0⟩
noncomputable def parted_s0 (a0 : Int) (a1 : Int) (a2 : Int) (a3 : Int) (b0 : Int) (b1 : Int) (b2 : Int) (b3 : Int) : Int :=
  IntKind.i64.wrap (wcmp_0 (vcross_0 (minus_0 a2 a0) (minus_0 a3 a1) (minus_0 b0 a0) (minus_0 b1 a1)) 1 0 1 * wcmp_0 (vcross_0 (minus_0 a2 a0) (minus_0 a3 a1) (minus_0 b2 a0) (minus_0 b3 a1)) 1 0 1)
noncomputable def parted_0 (a0 : Int) (a1 : Int) (a2 : Int) (a3 : Int) (b0 : Int) (b1 : Int) (b2 : Int) (b3 : Int) : Bool :=
  decide (parted_s0 a0 a1 a2 a3 b0 b1 b2 b3 < 0)
set_option maxRecDepth 1000000 in
theorem parted_runs (a0 a1 a2 a3 a4 a5 a6 : Int) (a7 : Bool) (b0 b1 b2 b3 b4 b5 b6 : Int) (b7 : Bool) : Runs (runF (sums K_cdiff) L0 38) (parted_tpl.args [.i a0, .i a1, .i a2, .i a3, .i a4, .i a5, .i a6, .b a7, .i b0, .i b1, .i b2, .i b3, .i b4, .i b5, .i b6, .b b7]) (parted_tpl.memo [.i a0, .i a1, .i a2, .i a3, .i a4, .i a5, .i a6, .b a7, .i b0, .i b1, .i b2, .i b3, .i b4, .i b5, .i b6, .b b7] []) parted_tpl.n (SV.one (SC.bool (SB.v (parted_0 a0 a1 a2 a3 b0 b1 b2 b3))))
    ([]) :=
  Runs.of1 (ps := []) (by kernel_rfl) (by simp)
noncomputable def parted_out : List Pm → Lss → Option CRes
  | [.i a0, .i a1, .i a2, .i a3, .i a4, .i a5, .i a6, .b a7, .i b0, .i b1, .i b2, .i b3, .i b4, .i b5, .i b6, .b b7], [] => some ⟨SV.one (SC.bool (SB.v (parted_0 a0 a1 a2 a3 b0 b1 b2 b3))),
    [],
    [], [], 752⟩
  | _, _ => none
theorem parted_ok : FOk Try.prog 38 (tplS parted_tpl parted_out) := by
  refine tplS_ok (runF_ok known_cdiff 38) fun ps ls r hr hn _ => ?_
  unfold parted_out at hr
  split at hr
  · cases hr; exact ⟨_, parted_runs _ _ _ _ _ _ _ _ _ _ _ _ _ _ _ _, fun _ => rfl⟩
  · cases hr
noncomputable def K_parted : List (Nat × Summ) := (38, tplS parted_tpl parted_out) :: K_cdiff
theorem known_parted : Known Try.prog (sums K_parted) L0 := known_cons known_cdiff parted_ok
noncomputable def ccross_tpl : Tpl := ⟨[.agg [.int .i64, .int .i64, .int .i64, .int .i64, .int .i64, .int .i64, .int .i64, .bool], .agg [.int .i64, .int .i64, .int .i64, .int .i64, .int .i64, .int .i64, .int .i64, .bool]], [], 0⟩
noncomputable def ccross_0 (a0 : Int) (a1 : Int) (a2 : Int) (a3 : Int) (a6 : Int) (b0 : Int) (b1 : Int) (b2 : Int) (b3 : Int) (b6 : Int) : Bool :=
  a6 == 0 && b6 == 0 && parted_0 a0 a1 a2 a3 b0 b1 b2 b3 && parted_0 b0 b1 b2 b3 a0 a1 a2 a3
set_option maxRecDepth 1000000 in
theorem ccross_runs (a0 a1 a2 a3 a4 a5 a6 : Int) (a7 : Bool) (b0 b1 b2 b3 b4 b5 b6 : Int) (b7 : Bool) : Runs (runF (sums K_parted) L0 15) (ccross_tpl.args [.i a0, .i a1, .i a2, .i a3, .i a4, .i a5, .i a6, .b a7, .i b0, .i b1, .i b2, .i b3, .i b4, .i b5, .i b6, .b b7]) (ccross_tpl.memo [.i a0, .i a1, .i a2, .i a3, .i a4, .i a5, .i a6, .b a7, .i b0, .i b1, .i b2, .i b3, .i b4, .i b5, .i b6, .b b7] []) ccross_tpl.n (SV.one (SC.bool (SB.v (ccross_0 a0 a1 a2 a3 a6 b0 b1 b2 b3 b6))))
    ([]) :=
  Runs.of1 (ps := []) (by kernel_rfl) (by simp)
noncomputable def ccross_out : List Pm → Lss → Option CRes
  | [.i a0, .i a1, .i a2, .i a3, .i a4, .i a5, .i a6, .b a7, .i b0, .i b1, .i b2, .i b3, .i b4, .i b5, .i b6, .b b7], [] => some ⟨SV.one (SC.bool (SB.v (ccross_0 a0 a1 a2 a3 a6 b0 b1 b2 b3 b6))),
    [],
    [], [], 1544⟩
  | _, _ => none
theorem ccross_ok : FOk Try.prog 15 (tplS ccross_tpl ccross_out) := by
  refine tplS_ok (runF_ok known_parted 15) fun ps ls r hr hn _ => ?_
  unfold ccross_out at hr
  split at hr
  · cases hr; exact ⟨_, ccross_runs _ _ _ _ _ _ _ _ _ _ _ _ _ _ _ _, fun _ => rfl⟩
  · cases hr
noncomputable def K_ccross : List (Nat × Summ) := (15, tplS ccross_tpl ccross_out) :: K_parted
theorem known_ccross : Known Try.prog (sums K_ccross) L0 := known_cons known_parted ccross_ok
noncomputable def opposite_tpl : Tpl := ⟨[.agg [.int .i64, .int .i64, .int .i64, .int .i64, .int .i64, .int .i64, .int .i64, .bool], .agg [.int .i64, .int .i64, .int .i64, .int .i64, .int .i64, .int .i64, .int .i64, .bool]], [], 0⟩
noncomputable def opposite_0 (a0 : Int) (a1 : Int) (a2 : Int) (a3 : Int) (b0 : Int) (b1 : Int) (b2 : Int) (b3 : Int) : Bool :=
  decide (vcross_0 (minus_0 a2 a0) (minus_0 a3 a1) (minus_0 b0 a0) (minus_0 b1 a1) > 0) && decide (vcross_0 (minus_0 a2 a0) (minus_0 a3 a1) (minus_0 b2 a0) (minus_0 b3 a1) < 0) ||
   decide (vcross_0 (minus_0 a2 a0) (minus_0 a3 a1) (minus_0 b0 a0) (minus_0 b1 a1) < 0) && decide (vcross_0 (minus_0 a2 a0) (minus_0 a3 a1) (minus_0 b2 a0) (minus_0 b3 a1) > 0)
set_option maxRecDepth 1000000 in
theorem opposite_runs (a0 a1 a2 a3 a4 a5 a6 : Int) (a7 : Bool) (b0 b1 b2 b3 b4 b5 b6 : Int) (b7 : Bool) : Runs (runF (sums K_ccross) L0 39) (opposite_tpl.args [.i a0, .i a1, .i a2, .i a3, .i a4, .i a5, .i a6, .b a7, .i b0, .i b1, .i b2, .i b3, .i b4, .i b5, .i b6, .b b7]) (opposite_tpl.memo [.i a0, .i a1, .i a2, .i a3, .i a4, .i a5, .i a6, .b a7, .i b0, .i b1, .i b2, .i b3, .i b4, .i b5, .i b6, .b b7] []) opposite_tpl.n (SV.one (SC.bool (SB.v (opposite_0 a0 a1 a2 a3 b0 b1 b2 b3))))
    ([]) :=
  Runs.of1 (ps := []) (by kernel_rfl) (by simp)
noncomputable def opposite_out : List Pm → Lss → Option CRes
  | [.i a0, .i a1, .i a2, .i a3, .i a4, .i a5, .i a6, .b a7, .i b0, .i b1, .i b2, .i b3, .i b4, .i b5, .i b6, .b b7], [] => some ⟨SV.one (SC.bool (SB.v (opposite_0 a0 a1 a2 a3 b0 b1 b2 b3))),
    [],
    [], [], 184⟩
  | _, _ => none
theorem opposite_ok : FOk Try.prog 39 (tplS opposite_tpl opposite_out) := by
  refine tplS_ok (runF_ok known_ccross 39) fun ps ls r hr hn _ => ?_
  unfold opposite_out at hr
  split at hr
  · cases hr; exact ⟨_, opposite_runs _ _ _ _ _ _ _ _ _ _ _ _ _ _ _ _, fun _ => rfl⟩
  · cases hr
noncomputable def K_opposite : List (Nat × Summ) := (39, tplS opposite_tpl opposite_out) :: K_ccross
theorem known_opposite : Known Try.prog (sums K_opposite) L0 := known_cons known_ccross opposite_ok
noncomputable def rcrosses_tpl : Tpl := ⟨[.agg [.int .i64, .int .i64, .int .i64, .int .i64, .int .i64, .int .i64, .int .i64, .bool], .agg [.int .i64, .int .i64, .int .i64, .int .i64, .int .i64, .int .i64, .int .i64, .bool]], [], 0⟩
noncomputable def rcrosses_0 (a0 : Int) (a1 : Int) (a2 : Int) (a3 : Int) (a6 : Int) (b0 : Int) (b1 : Int) (b2 : Int) (b3 : Int) (b6 : Int) : Bool :=
  a6 == 0 && b6 == 0 && opposite_0 a0 a1 a2 a3 b0 b1 b2 b3 && opposite_0 b0 b1 b2 b3 a0 a1 a2 a3
set_option maxRecDepth 1000000 in
theorem rcrosses_runs (a0 a1 a2 a3 a4 a5 a6 : Int) (a7 : Bool) (b0 b1 b2 b3 b4 b5 b6 : Int) (b7 : Bool) : Runs (runF (sums K_opposite) L0 16) (rcrosses_tpl.args [.i a0, .i a1, .i a2, .i a3, .i a4, .i a5, .i a6, .b a7, .i b0, .i b1, .i b2, .i b3, .i b4, .i b5, .i b6, .b b7]) (rcrosses_tpl.memo [.i a0, .i a1, .i a2, .i a3, .i a4, .i a5, .i a6, .b a7, .i b0, .i b1, .i b2, .i b3, .i b4, .i b5, .i b6, .b b7] []) rcrosses_tpl.n (SV.one (SC.bool (SB.v (rcrosses_0 a0 a1 a2 a3 a6 b0 b1 b2 b3 b6))))
    ([]) :=
  Runs.of1 (ps := []) (by kernel_rfl) (by simp)
noncomputable def rcrosses_out : List Pm → Lss → Option CRes
  | [.i a0, .i a1, .i a2, .i a3, .i a4, .i a5, .i a6, .b a7, .i b0, .i b1, .i b2, .i b3, .i b4, .i b5, .i b6, .b b7], [] => some ⟨SV.one (SC.bool (SB.v (rcrosses_0 a0 a1 a2 a3 a6 b0 b1 b2 b3 b6))),
    [],
    [], [], 408⟩
  | _, _ => none
theorem rcrosses_ok : FOk Try.prog 16 (tplS rcrosses_tpl rcrosses_out) := by
  refine tplS_ok (runF_ok known_opposite 16) fun ps ls r hr hn _ => ?_
  unfold rcrosses_out at hr
  split at hr
  · cases hr; exact ⟨_, rcrosses_runs _ _ _ _ _ _ _ _ _ _ _ _ _ _ _ _, fun _ => rfl⟩
  · cases hr
noncomputable def K_rcrosses : List (Nat × Summ) := (16, tplS rcrosses_tpl rcrosses_out) :: K_opposite
theorem known_rcrosses : Known Try.prog (sums K_rcrosses) L0 := known_cons known_opposite rcrosses_ok
end Go.Proofs.Ythgiaoidekdpfaa
