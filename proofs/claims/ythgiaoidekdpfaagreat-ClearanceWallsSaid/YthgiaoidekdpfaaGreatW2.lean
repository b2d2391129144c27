/-
  WIDE: products and comparisons. Conditions: none.
-/
import Derived.Test.YthgiaoidekdpfaaGreatW1
set_option linter.all false
namespace Go.Proofs.YthgiaoidekdpfaaGreat
open Go.SX Go.RowKit
noncomputable def mul64_tpl : Tpl := ⟨[.one (.int .u64), .one (.int .u64)], [], 0⟩
noncomputable def mul64_s0 (a : Int) (b : Int) : Int :=
  IntKind.u64.wrap
   (IntKind.u64.wrap (ishift BinOp.shr IntKind.u64 a 32 * ibits BinOp.and IntKind.u64 b 4294967295) +
   ishift BinOp.shr IntKind.u64 (IntKind.u64.wrap (ibits BinOp.and IntKind.u64 a 4294967295 * ibits BinOp.and IntKind.u64 b 4294967295)) 32)
noncomputable def mul64_0 (a : Int) (b : Int) : Int :=
  IntKind.u64.wrap
   (IntKind.u64.wrap (IntKind.u64.wrap (ishift BinOp.shr IntKind.u64 a 32 * ishift BinOp.shr IntKind.u64 b 32) + ishift BinOp.shr IntKind.u64 (mul64_s0 a b) 32) +
   ishift BinOp.shr IntKind.u64
   (IntKind.u64.wrap (ibits BinOp.and IntKind.u64 (mul64_s0 a b) 4294967295 + IntKind.u64.wrap (ibits BinOp.and IntKind.u64 a 4294967295 * ishift BinOp.shr IntKind.u64 b 32))) 32)
noncomputable def mul64_1 (a : Int) (b : Int) : Int :=
  IntKind.u64.wrap (a * b)
set_option maxRecDepth 1000000 in
theorem mul64_runs (a b : Int) : Runs (runF (sums K_wsize) L0 143) (mul64_tpl.args [.i a, .i b]) (mul64_tpl.memo [.i a, .i b] []) mul64_tpl.n (SV.tup [(false, [SC.int IntKind.u64 (SI.v (mul64_0 a b))]), (false, [SC.int IntKind.u64 (SI.v (mul64_1 a b))])])
    ([]) :=
  Runs.of1 (ps := []) (by kernel_rfl) (by simp)
noncomputable def mul64_out : List Pm → Lss → Option CRes
  | [.i a, .i b], [] => some ⟨SV.tup [(false, [SC.int IntKind.u64 (SI.v (mul64_0 a b))]), (false, [SC.int IntKind.u64 (SI.v (mul64_1 a b))])],
    [],
    [], [], 50⟩
  | _, _ => none
theorem mul64_ok : FOk Tryz.prog 143 (tplS mul64_tpl mul64_out) := by
  refine tplS_ok (runF_ok known_wsize 143) fun ps ls r hr hn _ => ?_
  unfold mul64_out at hr
  split at hr
  · cases hr; exact ⟨_, mul64_runs _ _, fun _ => rfl⟩
  · cases hr
noncomputable def K_mul64 : List (Nat × Summ) := (143, tplS mul64_tpl mul64_out) :: K_wsize
theorem known_mul64 : Known Tryz.prog (sums K_mul64) L0 := known_cons known_wsize mul64_ok
noncomputable def product_tpl : Tpl := ⟨[.one (.int .u64), .one (.int .u64)], [], 0⟩
set_option maxRecDepth 1000000 in
theorem product_runs (a b : Int) : Runs (runF (sums K_mul64) L0 105) (product_tpl.args [.i a, .i b]) (product_tpl.memo [.i a, .i b] []) product_tpl.n (SV.agg [SC.int IntKind.u64 (SI.v (mul64_0 a b)), SC.int IntKind.u64 (SI.v (mul64_1 a b))])
    ([]) :=
  Runs.of1 (ps := []) (by kernel_rfl) (by simp)
noncomputable def product_out : List Pm → Lss → Option CRes
  | [.i a, .i b], [] => some ⟨SV.agg [SC.int IntKind.u64 (SI.v (mul64_0 a b)), SC.int IntKind.u64 (SI.v (mul64_1 a b))],
    [],
    [], [], 68⟩
  | _, _ => none
theorem product_ok : FOk Tryz.prog 105 (tplS product_tpl product_out) := by
  refine tplS_ok (runF_ok known_mul64 105) fun ps ls r hr hn _ => ?_
  unfold product_out at hr
  split at hr
  · cases hr; exact ⟨_, product_runs _ _, fun _ => rfl⟩
  · cases hr
noncomputable def K_product : List (Nat × Summ) := (105, tplS product_tpl product_out) :: K_mul64
theorem known_product : Known Tryz.prog (sums K_product) L0 := known_cons known_mul64 product_ok
noncomputable def wcomp_tpl : Tpl := ⟨[.agg [.int .u64, .int .u64], .agg [.int .u64, .int .u64]], [], 0⟩
noncomputable def wcomp_0 (a : Int) (b : Int) (c : Int) (d : Int) : Int :=
  bif decide (a < c) || a == c && decide (b < d) then -1 else bif a == c && b == d then 0 else 1
set_option maxRecDepth 1000000 in
theorem wcomp_runs (a b c d : Int) : Runs (runF (sums K_product) L0 104) (wcomp_tpl.args [.i a, .i b, .i c, .i d]) (wcomp_tpl.memo [.i a, .i b, .i c, .i d] []) wcomp_tpl.n (SV.one (SC.int IntKind.i64 (SI.v (wcomp_0 a b c d))))
    ([]) :=
  Runs.of1 (ps := []) (by kernel_rfl) (by simp)
noncomputable def wcomp_out : List Pm → Lss → Option CRes
  | [.i a, .i b, .i c, .i d], [] => some ⟨SV.one (SC.int IntKind.i64 (SI.v (wcomp_0 a b c d))),
    [],
    [], [], 36⟩
  | _, _ => none
theorem wcomp_ok : FOk Tryz.prog 104 (tplS wcomp_tpl wcomp_out) := by
  refine tplS_ok (runF_ok known_product 104) fun ps ls r hr hn _ => ?_
  unfold wcomp_out at hr
  split at hr
  · cases hr; exact ⟨_, wcomp_runs _ _ _ _, fun _ => rfl⟩
  · cases hr
noncomputable def K_wcomp : List (Nat × Summ) := (104, tplS wcomp_tpl wcomp_out) :: K_product
theorem known_wcomp : Known Tryz.prog (sums K_wcomp) L0 := known_cons known_product wcomp_ok
noncomputable def wcmp_tpl : Tpl := ⟨[.one (.int .i64), .one (.int .i64), .one (.int .i64), .one (.int .i64)], [], 0⟩
noncomputable def wcmp_0 (a : Int) (b : Int) (c : Int) (d : Int) : Int :=
  bif wsign_0 a b != wsign_0 c d then bif decide (wsign_0 a b < wsign_0 c d) then -1 else 1
  else IntKind.i64.wrap (wsign_0 a b * wcomp_0 (mul64_0 (wsize_0 a) (wsize_0 b)) (mul64_1 (wsize_0 a) (wsize_0 b)) (mul64_0 (wsize_0 c) (wsize_0 d)) (mul64_1 (wsize_0 c) (wsize_0 d)))
set_option maxRecDepth 1000000 in
theorem wcmp_runs (a b c d : Int) : Runs (runF (sums K_wcomp) L0 71) (wcmp_tpl.args [.i a, .i b, .i c, .i d]) (wcmp_tpl.memo [.i a, .i b, .i c, .i d] []) wcmp_tpl.n (SV.one (SC.int IntKind.i64 (SI.v (wcmp_0 a b c d))))
    ([]) :=
  Runs.of1 (ps := []) (by kernel_rfl) (by simp)
noncomputable def wcmp_out : List Pm → Lss → Option CRes
  | [.i a, .i b, .i c, .i d], [] => some ⟨SV.one (SC.int IntKind.i64 (SI.v (wcmp_0 a b c d))),
    [],
    [], [], 286⟩
  | _, _ => none
theorem wcmp_ok : FOk Tryz.prog 71 (tplS wcmp_tpl wcmp_out) := by
  refine tplS_ok (runF_ok known_wcomp 71) fun ps ls r hr hn _ => ?_
  unfold wcmp_out at hr
  split at hr
  · cases hr; exact ⟨_, wcmp_runs _ _ _ _, fun _ => rfl⟩
  · cases hr
noncomputable def K_wcmp : List (Nat × Summ) := (71, tplS wcmp_tpl wcmp_out) :: K_wcomp
theorem known_wcmp : Known Tryz.prog (sums K_wcmp) L0 := known_cons known_wcomp wcmp_ok
end Go.Proofs.YthgiaoidekdpfaaGreat
