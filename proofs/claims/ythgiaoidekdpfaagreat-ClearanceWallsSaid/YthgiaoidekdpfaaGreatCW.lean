/-
  The clearance's own small functions. Conditions: none.
-/
import Derived.Test.YthgiaoidekdpfaaGreatV3
import Derived.Test.YthgiaoidekdpfaaGreatV2
import Derived.Test.YthgiaoidekdpfaaGreatW1
set_option linter.all false
namespace Go.Proofs.YthgiaoidekdpfaaGreat
open Go.SX Go.RowKit
noncomputable def cminus_tpl : Tpl := ⟨[.agg [.int .i64, .int .i64], .agg [.int .i64, .int .i64]], [], 0⟩
set_option maxRecDepth 1000000 in
theorem cminus_runs (a b c d : Int) : Runs (runF (sums K_straight) L_st 58) (cminus_tpl.args [.i a, .i b, .i c, .i d]) (cminus_tpl.memo [.i a, .i b, .i c, .i d] []) cminus_tpl.n (SV.agg [SC.int IntKind.i64 (SI.v (minus_0 a c)), SC.int IntKind.i64 (SI.v (minus_0 b d))])
    ([]) :=
  Runs.of1 (ps := []) (by kernel_rfl) (by simp)
noncomputable def cminus_out : List Pm → Lss → Option CRes
  | [.i a, .i b, .i c, .i d], [] => some ⟨SV.agg [SC.int IntKind.i64 (SI.v (minus_0 a c)), SC.int IntKind.i64 (SI.v (minus_0 b d))],
    [],
    [], [], 26⟩
  | _, _ => none
theorem cminus_ok : FOk Tryz.prog 58 (tplS cminus_tpl cminus_out) := by
  refine tplS_ok (runF_ok known_straight 58) fun ps ls r hr hn _ => ?_
  unfold cminus_out at hr
  split at hr
  · cases hr; exact ⟨_, cminus_runs _ _ _ _, fun _ => rfl⟩
  · cases hr
noncomputable def K_cminus : List (Nat × Summ) := (58, tplS cminus_tpl cminus_out) :: K_straight
theorem known_cminus : Known Tryz.prog (sums K_cminus) L_st := known_cons known_straight cminus_ok
noncomputable def csquare_tpl : Tpl := ⟨[.agg [.int .i64, .int .i64]], [], 0⟩
set_option maxRecDepth 1000000 in
theorem csquare_runs (a b : Int) : Runs (runF (sums K_cminus) L_st 68) (csquare_tpl.args [.i a, .i b]) (csquare_tpl.memo [.i a, .i b] []) csquare_tpl.n (SV.one (SC.int IntKind.i64 (SI.v (vinner_0 a b a b))))
    ([]) :=
  Runs.of1 (ps := []) (by kernel_rfl) (by simp)
noncomputable def csquare_out : List Pm → Lss → Option CRes
  | [.i a, .i b], [] => some ⟨SV.one (SC.int IntKind.i64 (SI.v (vinner_0 a b a b))),
    [],
    [], [], 30⟩
  | _, _ => none
theorem csquare_ok : FOk Tryz.prog 68 (tplS csquare_tpl csquare_out) := by
  refine tplS_ok (runF_ok known_cminus 68) fun ps ls r hr hn _ => ?_
  unfold csquare_out at hr
  split at hr
  · cases hr; exact ⟨_, csquare_runs _ _, fun _ => rfl⟩
  · cases hr
noncomputable def K_csquare : List (Nat × Summ) := (68, tplS csquare_tpl csquare_out) :: K_cminus
theorem known_csquare : Known Tryz.prog (sums K_csquare) L_st := known_cons known_cminus csquare_ok
noncomputable def csign_tpl : Tpl := ⟨[.one (.int .i64)], [], 0⟩
set_option maxRecDepth 1000000 in
theorem csign_runs (a : Int) : Runs (runF (sums K_csquare) L_st 59) (csign_tpl.args [.i a]) (csign_tpl.memo [.i a] []) csign_tpl.n (SV.one (SC.int IntKind.i64 (SI.v (wcmp_0 a 1 0 1))))
    ([]) :=
  Runs.of1 (ps := []) (by kernel_rfl) (by simp)
noncomputable def csign_out : List Pm → Lss → Option CRes
  | [.i a], [] => some ⟨SV.one (SC.int IntKind.i64 (SI.v (wcmp_0 a 1 0 1))),
    [],
    [], [], 290⟩
  | _, _ => none
theorem csign_ok : FOk Tryz.prog 59 (tplS csign_tpl csign_out) := by
  refine tplS_ok (runF_ok known_csquare 59) fun ps ls r hr hn _ => ?_
  unfold csign_out at hr
  split at hr
  · cases hr; exact ⟨_, csign_runs _, fun _ => rfl⟩
  · cases hr
noncomputable def K_csign : List (Nat × Summ) := (59, tplS csign_tpl csign_out) :: K_csquare
theorem known_csign : Known Tryz.prog (sums K_csign) L_st := known_cons known_csquare csign_ok
noncomputable def ccompare_tpl : Tpl := ⟨[.one (.int .i64), .one (.int .i64), .one (.int .i64)], [], 0⟩
noncomputable def ccompare_s0 (x : Int) (c : Int) (y : Int) : Int :=
  IntKind.i64.wrap (IntKind.i64.wrap (y - x) - IntKind.i64.wrap (c * c))
noncomputable def ccompare_0 (x : Int) (c : Int) (y : Int) : Int :=
  bif decide (ccompare_s0 x c y < 0) then 1 else wcmp_0 (IntKind.i64.wrap (IntKind.i64.wrap (4 * c) * c)) x (ccompare_s0 x c y) (ccompare_s0 x c y)
set_option maxRecDepth 1000000 in
theorem ccompare_runs (x c y : Int) : Runs (runF (sums K_csign) L_st 102) (ccompare_tpl.args [.i x, .i c, .i y]) (ccompare_tpl.memo [.i x, .i c, .i y] []) ccompare_tpl.n (SV.one (SC.int IntKind.i64 (SI.v (ccompare_0 x c y))))
    ([]) :=
  Runs.of1 (ps := []) (by kernel_rfl) (by simp)
noncomputable def ccompare_out : List Pm → Lss → Option CRes
  | [.i x, .i c, .i y], [] => some ⟨SV.one (SC.int IntKind.i64 (SI.v (ccompare_0 x c y))),
    [],
    [], [], 307⟩
  | _, _ => none
theorem ccompare_ok : FOk Tryz.prog 102 (tplS ccompare_tpl ccompare_out) := by
  refine tplS_ok (runF_ok known_csign 102) fun ps ls r hr hn _ => ?_
  unfold ccompare_out at hr
  split at hr
  · cases hr; exact ⟨_, ccompare_runs _ _ _, fun _ => rfl⟩
  · cases hr
noncomputable def K_ccompare : List (Nat × Summ) := (102, tplS ccompare_tpl ccompare_out) :: K_csign
theorem known_ccompare : Known Tryz.prog (sums K_ccompare) L_st := known_cons known_csign ccompare_ok
noncomputable def cdiff_tpl : Tpl := ⟨[.one (.int .i64), .one (.int .i64), .one (.int .i64)], [], 0⟩
noncomputable def cdiff_0 (x : Int) (y : Int) (d : Int) : Int :=
  IntKind.i64.wrap (0 - ccompare_0 (if y < x then y else x) d (if y > x then y else x))
set_option maxRecDepth 1000000 in
theorem cdiff_runs (x y d : Int) : Runs (runF (sums K_ccompare) L_st 69) (cdiff_tpl.args [.i x, .i y, .i d]) (cdiff_tpl.memo [.i x, .i y, .i d] []) cdiff_tpl.n (SV.one (SC.int IntKind.i64 (SI.v (cdiff_0 x y d))))
    ([]) :=
  Runs.of1 (ps := []) (by kernel_rfl) (by simp)
noncomputable def cdiff_out : List Pm → Lss → Option CRes
  | [.i x, .i y, .i d], [] => some ⟨SV.one (SC.int IntKind.i64 (SI.v (cdiff_0 x y d))),
    [],
    [], [], 318⟩
  | _, _ => none
theorem cdiff_ok : FOk Tryz.prog 69 (tplS cdiff_tpl cdiff_out) := by
  refine tplS_ok (runF_ok known_ccompare 69) fun ps ls r hr hn _ => ?_
  unfold cdiff_out at hr
  split at hr
  · cases hr; exact ⟨_, cdiff_runs _ _ _, fun _ => rfl⟩
  · cases hr
noncomputable def K_cdiff : List (Nat × Summ) := (69, tplS cdiff_tpl cdiff_out) :: K_ccompare
theorem known_cdiff : Known Tryz.prog (sums K_cdiff) L_st := known_cons known_ccompare cdiff_ok
noncomputable def parted_tpl : Tpl := ⟨[.agg [.int .i64, .int .i64, .int .i64, .int .i64, .int .i64, .int .i64, .int .i64, .bool], .agg [.int .i64, .int .i64, .int .i64, .int .i64, .int .i64, .int .i64, .int .i64, .bool]], [], 0⟩
noncomputable def parted_s0 (a0 : Int) (a1 : Int) (a2 : Int) (a3 : Int) (b0 : Int) (b1 : Int) (b2 : Int) (b3 : Int) : Int :=
  IntKind.i64.wrap (wcmp_0 (vcross_0 (minus_0 a2 a0) (minus_0 a3 a1) (minus_0 b0 a0) (minus_0 b1 a1)) 1 0 1 * wcmp_0 (vcross_0 (minus_0 a2 a0) (minus_0 a3 a1) (minus_0 b2 a0) (minus_0 b3 a1)) 1 0 1)
noncomputable def parted_0 (a0 : Int) (a1 : Int) (a2 : Int) (a3 : Int) (b0 : Int) (b1 : Int) (b2 : Int) (b3 : Int) : Bool :=
  decide (parted_s0 a0 a1 a2 a3 b0 b1 b2 b3 < 0)
set_option maxRecDepth 1000000 in
theorem parted_runs (a0 a1 a2 a3 a4 a5 a6 : Int) (a7 : Bool) (b0 b1 b2 b3 b4 b5 b6 : Int) (b7 : Bool) : Runs (runF (sums K_cdiff) L_st 44) (parted_tpl.args [.i a0, .i a1, .i a2, .i a3, .i a4, .i a5, .i a6, .b a7, .i b0, .i b1, .i b2, .i b3, .i b4, .i b5, .i b6, .b b7]) (parted_tpl.memo [.i a0, .i a1, .i a2, .i a3, .i a4, .i a5, .i a6, .b a7, .i b0, .i b1, .i b2, .i b3, .i b4, .i b5, .i b6, .b b7] []) parted_tpl.n (SV.one (SC.bool (SB.v (parted_0 a0 a1 a2 a3 b0 b1 b2 b3))))
    ([]) :=
  Runs.of1 (ps := []) (by kernel_rfl) (by simp)
noncomputable def parted_out : List Pm → Lss → Option CRes
  | [.i a0, .i a1, .i a2, .i a3, .i a4, .i a5, .i a6, .b a7, .i b0, .i b1, .i b2, .i b3, .i b4, .i b5, .i b6, .b b7], [] => some ⟨SV.one (SC.bool (SB.v (parted_0 a0 a1 a2 a3 b0 b1 b2 b3))),
    [],
    [], [], 752⟩
  | _, _ => none
theorem parted_ok : FOk Tryz.prog 44 (tplS parted_tpl parted_out) := by
  refine tplS_ok (runF_ok known_cdiff 44) fun ps ls r hr hn _ => ?_
  unfold parted_out at hr
  split at hr
  · cases hr; exact ⟨_, parted_runs _ _ _ _ _ _ _ _ _ _ _ _ _ _ _ _, fun _ => rfl⟩
  · cases hr
noncomputable def K_parted : List (Nat × Summ) := (44, tplS parted_tpl parted_out) :: K_cdiff
theorem known_parted : Known Tryz.prog (sums K_parted) L_st := known_cons known_cdiff parted_ok
noncomputable def ccross_tpl : Tpl := ⟨[.agg [.int .i64, .int .i64, .int .i64, .int .i64, .int .i64, .int .i64, .int .i64, .bool], .agg [.int .i64, .int .i64, .int .i64, .int .i64, .int .i64, .int .i64, .int .i64, .bool]], [], 0⟩
noncomputable def ccross_0 (a0 : Int) (a1 : Int) (a2 : Int) (a3 : Int) (a6 : Int) (b0 : Int) (b1 : Int) (b2 : Int) (b3 : Int) (b6 : Int) : Bool :=
  a6 == 0 && b6 == 0 && parted_0 a0 a1 a2 a3 b0 b1 b2 b3 && parted_0 b0 b1 b2 b3 a0 a1 a2 a3
set_option maxRecDepth 1000000 in
theorem ccross_runs (a0 a1 a2 a3 a4 a5 a6 : Int) (a7 : Bool) (b0 b1 b2 b3 b4 b5 b6 : Int) (b7 : Bool) : Runs (runF (sums K_parted) L_st 21) (ccross_tpl.args [.i a0, .i a1, .i a2, .i a3, .i a4, .i a5, .i a6, .b a7, .i b0, .i b1, .i b2, .i b3, .i b4, .i b5, .i b6, .b b7]) (ccross_tpl.memo [.i a0, .i a1, .i a2, .i a3, .i a4, .i a5, .i a6, .b a7, .i b0, .i b1, .i b2, .i b3, .i b4, .i b5, .i b6, .b b7] []) ccross_tpl.n (SV.one (SC.bool (SB.v (ccross_0 a0 a1 a2 a3 a6 b0 b1 b2 b3 b6))))
    ([]) :=
  Runs.of1 (ps := []) (by kernel_rfl) (by simp)
noncomputable def ccross_out : List Pm → Lss → Option CRes
  | [.i a0, .i a1, .i a2, .i a3, .i a4, .i a5, .i a6, .b a7, .i b0, .i b1, .i b2, .i b3, .i b4, .i b5, .i b6, .b b7], [] => some ⟨SV.one (SC.bool (SB.v (ccross_0 a0 a1 a2 a3 a6 b0 b1 b2 b3 b6))),
    [],
    [], [], 1544⟩
  | _, _ => none
theorem ccross_ok : FOk Tryz.prog 21 (tplS ccross_tpl ccross_out) := by
  refine tplS_ok (runF_ok known_parted 21) fun ps ls r hr hn _ => ?_
  unfold ccross_out at hr
  split at hr
  · cases hr; exact ⟨_, ccross_runs _ _ _ _ _ _ _ _ _ _ _ _ _ _ _ _, fun _ => rfl⟩
  · cases hr
noncomputable def K_ccross : List (Nat × Summ) := (21, tplS ccross_tpl ccross_out) :: K_parted
theorem known_ccross : Known Tryz.prog (sums K_ccross) L_st := known_cons known_parted ccross_ok
noncomputable def chalf_tpl : Tpl := ⟨[.agg [.int .i64, .int .i64, .int .i64, .int .i64], .agg [.int .i64, .int .i64]], [], 0⟩
noncomputable def chalf_0 (s0 : Int) (s1 : Int) (a : Int) (b : Int) : Int :=
  bif decide (vcross_0 s0 s1 a b > 0) || vcross_0 s0 s1 a b == 0 && decide (vinner_0 s0 s1 a b > 0) then 0 else 1
set_option maxRecDepth 1000000 in
theorem chalf_runs (s0 s1 s2 s3 a b : Int) : Runs (runF (sums K_ccross) L_st 142) (chalf_tpl.args [.i s0, .i s1, .i s2, .i s3, .i a, .i b]) (chalf_tpl.memo [.i s0, .i s1, .i s2, .i s3, .i a, .i b] []) chalf_tpl.n (SV.one (SC.int IntKind.i64 (SI.v (chalf_0 s0 s1 a b))))
    ([]) :=
  Runs.of1 (ps := []) (by kernel_rfl) (by simp)
noncomputable def chalf_out : List Pm → Lss → Option CRes
  | [.i s0, .i s1, .i s2, .i s3, .i a, .i b], [] => some ⟨SV.one (SC.int IntKind.i64 (SI.v (chalf_0 s0 s1 a b))),
    [],
    [], [], 73⟩
  | _, _ => none
theorem chalf_ok : FOk Tryz.prog 142 (tplS chalf_tpl chalf_out) := by
  refine tplS_ok (runF_ok known_ccross 142) fun ps ls r hr hn _ => ?_
  unfold chalf_out at hr
  split at hr
  · cases hr; exact ⟨_, chalf_runs _ _ _ _ _ _, fun _ => rfl⟩
  · cases hr
noncomputable def K_chalf : List (Nat × Summ) := (142, tplS chalf_tpl chalf_out) :: K_ccross
theorem known_chalf : Known Tryz.prog (sums K_chalf) L_st := known_cons known_ccross chalf_ok
noncomputable def contains_tpl : Tpl := ⟨[.agg [.int .i64, .int .i64, .int .i64, .int .i64], .agg [.int .i64, .int .i64]], [], 0⟩
noncomputable def contains_0 (s0 : Int) (s1 : Int) (s2 : Int) (s3 : Int) (a : Int) (b : Int) : Bool :=
  decide (chalf_0 s0 s1 a b < chalf_0 s0 s1 s2 s3) || chalf_0 s0 s1 a b == chalf_0 s0 s1 s2 s3 && decide (vcross_0 a b s2 s3 ≥ 0)
set_option maxRecDepth 1000000 in
theorem contains_runs (s0 s1 s2 s3 a b : Int) : Runs (runF (sums K_chalf) L_st 100) (contains_tpl.args [.i s0, .i s1, .i s2, .i s3, .i a, .i b]) (contains_tpl.memo [.i s0, .i s1, .i s2, .i s3, .i a, .i b] []) contains_tpl.n (SV.one (SC.bool (SB.v (contains_0 s0 s1 s2 s3 a b))))
    ([]) :=
  Runs.of1 (ps := []) (by kernel_rfl) (by simp)
noncomputable def contains_out : List Pm → Lss → Option CRes
  | [.i s0, .i s1, .i s2, .i s3, .i a, .i b], [] => some ⟨SV.one (SC.bool (SB.v (contains_0 s0 s1 s2 s3 a b))),
    [],
    [], [], 203⟩
  | _, _ => none
theorem contains_ok : FOk Tryz.prog 100 (tplS contains_tpl contains_out) := by
  refine tplS_ok (runF_ok known_chalf 100) fun ps ls r hr hn _ => ?_
  unfold contains_out at hr
  split at hr
  · cases hr; exact ⟨_, contains_runs _ _ _ _ _ _, fun _ => rfl⟩
  · cases hr
noncomputable def K_contains : List (Nat × Summ) := (100, tplS contains_tpl contains_out) :: K_chalf
theorem known_contains : Known Tryz.prog (sums K_contains) L_st := known_cons known_chalf contains_ok
noncomputable def inside_tpl : Tpl := ⟨[.agg [.int .i64, .int .i64, .int .i64, .int .i64, .int .i64, .int .i64, .int .i64, .int .i64, .int .i64, .int .i64, .int .i64, .int .i64, .int .i64, .bool, .int .i64, .bool, .int .i64, .int .i64, .int .i64, .int .i64, .int .i64, .bool], .agg [.int .i64, .int .i64]], [], 0⟩
noncomputable def inside_0 (i2 : Int) (i3 : Int) (i4 : Int) (i5 : Int) (i6 : Int) (i7 : Int) (i8 : Int) (i9 : Int) (i10 : Int) (i11 : Int) (i12 : Int) (i13 : Bool) (a : Int) (b : Int) : Bool :=
  i13 ||
   contains_0 (bif decide (i12 < 0) then aspokes_0 i5 i6 i7 i8 i9 i10 i11 else aspokes_0 i2 i3 i4 i8 i9 i10 i11)
   (bif decide (i12 < 0) then aspokes_1 i5 i6 i7 i8 i9 i10 i11 else aspokes_1 i2 i3 i4 i8 i9 i10 i11)
   (bif decide (i12 < 0) then aspokes_0 i2 i3 i4 i8 i9 i10 i11 else aspokes_0 i5 i6 i7 i8 i9 i10 i11)
   (bif decide (i12 < 0) then aspokes_1 i2 i3 i4 i8 i9 i10 i11 else aspokes_1 i5 i6 i7 i8 i9 i10 i11) a b
set_option maxRecDepth 1000000 in
theorem inside_runs (i0 i1 i2 i3 i4 i5 i6 i7 i8 i9 i10 i11 i12 : Int) (i13 : Bool) (i14 : Int) (i15 : Bool) (i16 i17 i18 i19 i20 : Int) (i21 : Bool) (a b : Int) : Runs (runF (sums K_contains) L_st 66) (inside_tpl.args [.i i0, .i i1, .i i2, .i i3, .i i4, .i i5, .i i6, .i i7, .i i8, .i i9, .i i10, .i i11, .i i12, .b i13, .i i14, .b i15, .i i16, .i i17, .i i18, .i i19, .i i20, .b i21, .i a, .i b]) (inside_tpl.memo [.i i0, .i i1, .i i2, .i i3, .i i4, .i i5, .i i6, .i i7, .i i8, .i i9, .i i10, .i i11, .i i12, .b i13, .i i14, .b i15, .i i16, .i i17, .i i18, .i i19, .i i20, .b i21, .i a, .i b] []) inside_tpl.n (SV.one (SC.bool (SB.v (inside_0 i2 i3 i4 i5 i6 i7 i8 i9 i10 i11 i12 i13 a b))))
    ([]) :=
  Runs.of1 (ps := []) (by kernel_rfl) (by simp)
noncomputable def inside_out : List Pm → Lss → Option CRes
  | [.i i0, .i i1, .i i2, .i i3, .i i4, .i i5, .i i6, .i i7, .i i8, .i i9, .i i10, .i i11, .i i12, .b i13, .i i14, .b i15, .i i16, .i i17, .i i18, .i i19, .i i20, .b i21, .i a, .i b], [] => some ⟨SV.one (SC.bool (SB.v (inside_0 i2 i3 i4 i5 i6 i7 i8 i9 i10 i11 i12 i13 a b))),
    [],
    [], [], 587⟩
  | _, _ => none
theorem inside_ok : FOk Tryz.prog 66 (tplS inside_tpl inside_out) := by
  refine tplS_ok (runF_ok known_contains 66) fun ps ls r hr hn _ => ?_
  unfold inside_out at hr
  split at hr
  · cases hr; exact ⟨_, inside_runs _ _ _ _ _ _ _ _ _ _ _ _ _ _ _ _ _ _ _ _ _ _ _ _, fun _ => rfl⟩
  · cases hr
noncomputable def K_inside : List (Nat × Summ) := (66, tplS inside_tpl inside_out) :: K_contains
theorem known_inside : Known Tryz.prog (sums K_inside) L_st := known_cons known_contains inside_ok
noncomputable def citem_tpl : Tpl := ⟨[.agg [.int .i64, .int .i64, .int .i64, .int .i64, .int .i64, .int .i64, .int .i64, .bool]], [], 0⟩
set_option maxRecDepth 1000000 in
theorem citem_runs (a0 a1 a2 a3 a4 a5 a6 : Int) (a7 : Bool) : Runs (runF (sums K_inside) L_st 67) (citem_tpl.args [.i a0, .i a1, .i a2, .i a3, .i a4, .i a5, .i a6, .b a7]) (citem_tpl.memo [.i a0, .i a1, .i a2, .i a3, .i a4, .i a5, .i a6, .b a7] []) citem_tpl.n (SV.agg
    [SC.int IntKind.i64 (SI.c 3), SC.int IntKind.i64 (SI.c 0), SC.int IntKind.i64 (SI.v a0), SC.int IntKind.i64 (SI.v a1), SC.int IntKind.i64 (SI.c 0), SC.int IntKind.i64 (SI.v a2),
     SC.int IntKind.i64 (SI.v a3), SC.int IntKind.i64 (SI.c 0), SC.int IntKind.i64 (SI.c 17), SC.int IntKind.i64 (SI.v a4), SC.int IntKind.i64 (SI.v a5), SC.int IntKind.i64 (SI.c 0),
     SC.int IntKind.i64 (SI.v a6), SC.bool (SB.v a7), SC.int IntKind.i64 (SI.c 0), SC.bool (SB.c false), SC.int IntKind.i64 (SI.c 0), SC.int IntKind.i64 (SI.c 0), SC.int IntKind.i64 (SI.c 0),
     SC.int IntKind.i64 (SI.c 0), SC.int IntKind.i64 (SI.c 0), SC.bool (SB.c false)])
    ([]) :=
  Runs.of1 (ps := []) (by kernel_rfl) (by simp)
noncomputable def citem_out : List Pm → Lss → Option CRes
  | [.i a0, .i a1, .i a2, .i a3, .i a4, .i a5, .i a6, .b a7], [] => some ⟨SV.agg
    [SC.int IntKind.i64 (SI.c 3), SC.int IntKind.i64 (SI.c 0), SC.int IntKind.i64 (SI.v a0), SC.int IntKind.i64 (SI.v a1), SC.int IntKind.i64 (SI.c 0), SC.int IntKind.i64 (SI.v a2),
     SC.int IntKind.i64 (SI.v a3), SC.int IntKind.i64 (SI.c 0), SC.int IntKind.i64 (SI.c 17), SC.int IntKind.i64 (SI.v a4), SC.int IntKind.i64 (SI.v a5), SC.int IntKind.i64 (SI.c 0),
     SC.int IntKind.i64 (SI.v a6), SC.bool (SB.v a7), SC.int IntKind.i64 (SI.c 0), SC.bool (SB.c false), SC.int IntKind.i64 (SI.c 0), SC.int IntKind.i64 (SI.c 0), SC.int IntKind.i64 (SI.c 0),
     SC.int IntKind.i64 (SI.c 0), SC.int IntKind.i64 (SI.c 0), SC.bool (SB.c false)],
    [],
    [], [], 129⟩
  | _, _ => none
theorem citem_ok : FOk Tryz.prog 67 (tplS citem_tpl citem_out) := by
  refine tplS_ok (runF_ok known_inside 67) fun ps ls r hr hn _ => ?_
  unfold citem_out at hr
  split at hr
  · cases hr; exact ⟨_, citem_runs _ _ _ _ _ _ _ _, fun _ => rfl⟩
  · cases hr
noncomputable def K_citem : List (Nat × Summ) := (67, tplS citem_tpl citem_out) :: K_inside
theorem known_citem : Known Tryz.prog (sums K_citem) L_st := known_cons known_inside citem_ok
end Go.Proofs.YthgiaoidekdpfaaGreat
