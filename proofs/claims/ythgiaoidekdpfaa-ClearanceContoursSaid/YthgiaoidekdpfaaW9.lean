/-
  Directions within arcs: program and reference; the reference's distances. Conditions: none.
-/
import Derived.Test.YthgiaoidekdpfaaC2
set_option linter.all false
namespace Go.Proofs.Ythgiaoidekdpfaa
open Go.SX Go.RowKit
noncomputable def arcspokes_tpl : Tpl := ⟨[.agg [.int .i64, .int .i64, .int .i64, .int .i64, .int .i64, .int .i64, .int .i64, .int .i64, .int .i64, .int .i64, .int .i64, .int .i64, .int .i64, .bool, .int .i64, .bool, .int .i64, .int .i64, .int .i64, .int .i64, .int .i64, .bool]], [], 0⟩
noncomputable def arcspokes_0 (i2 : Int) (i3 : Int) (i4 : Int) (i8 : Int) (i9 : Int) (i10 : Int) (i11 : Int) : Int :=
  IntKind.i64.wrap ((bif i8 == 17 then i2 else bif i8 == 18 then i4 else bif i8 == 19 then i3 else 0) - bif i8 == 17 then i9 else bif i8 == 18 then i11 else bif i8 == 19 then i10 else 0)
noncomputable def arcspokes_1 (i2 : Int) (i3 : Int) (i4 : Int) (i8 : Int) (i9 : Int) (i10 : Int) (i11 : Int) : Int :=
  IntKind.i64.wrap ((bif i8 == 17 then i3 else bif i8 == 18 then i2 else bif i8 == 19 then i4 else 0) - bif i8 == 17 then i10 else bif i8 == 18 then i9 else bif i8 == 19 then i11 else 0)
set_option maxRecDepth 1000000 in
theorem arcspokes_runs (i0 i1 i2 i3 i4 i5 i6 i7 i8 i9 i10 i11 i12 : Int) (i13 : Bool) (i14 : Int) (i15 : Bool) (i16 i17 i18 i19 i20 : Int) (i21 : Bool) : Runs (runF (sums K_rcmp) L_mul 92) (arcspokes_tpl.args [.i i0, .i i1, .i i2, .i i3, .i i4, .i i5, .i i6, .i i7, .i i8, .i i9, .i i10, .i i11, .i i12, .b i13, .i i14, .b i15, .i i16, .i i17, .i i18, .i i19, .i i20, .b i21]) (arcspokes_tpl.memo [.i i0, .i i1, .i i2, .i i3, .i i4, .i i5, .i i6, .i i7, .i i8, .i i9, .i i10, .i i11, .i i12, .b i13, .i i14, .b i15, .i i16, .i i17, .i i18, .i i19, .i i20, .b i21] []) arcspokes_tpl.n (SV.tup
    [(true, [SC.int IntKind.i64 (SI.v (arcspokes_0 i2 i3 i4 i8 i9 i10 i11)), SC.int IntKind.i64 (SI.v (arcspokes_1 i2 i3 i4 i8 i9 i10 i11))]),
     (true, [SC.int IntKind.i64 (SI.v (arcspokes_0 i5 i6 i7 i8 i9 i10 i11)), SC.int IntKind.i64 (SI.v (arcspokes_1 i5 i6 i7 i8 i9 i10 i11))])])
    ([]) :=
  Runs.of1 (ps := []) (by kernel_rfl) (by simp)
noncomputable def arcspokes_out : List Pm → Lss → Option CRes
  | [.i i0, .i i1, .i i2, .i i3, .i i4, .i i5, .i i6, .i i7, .i i8, .i i9, .i i10, .i i11, .i i12, .b i13, .i i14, .b i15, .i i16, .i i17, .i i18, .i i19, .i i20, .b i21], [] => some ⟨SV.tup
    [(true, [SC.int IntKind.i64 (SI.v (arcspokes_0 i2 i3 i4 i8 i9 i10 i11)), SC.int IntKind.i64 (SI.v (arcspokes_1 i2 i3 i4 i8 i9 i10 i11))]),
     (true, [SC.int IntKind.i64 (SI.v (arcspokes_0 i5 i6 i7 i8 i9 i10 i11)), SC.int IntKind.i64 (SI.v (arcspokes_1 i5 i6 i7 i8 i9 i10 i11))])],
    [],
    [], [], 312⟩
  | _, _ => none
theorem arcspokes_ok : FOk Try.prog 92 (tplS arcspokes_tpl arcspokes_out) := by
  refine tplS_ok (runF_ok known_rcmp 92) fun ps ls r hr hn _ => ?_
  unfold arcspokes_out at hr
  split at hr
  · cases hr; exact ⟨_, arcspokes_runs _ _ _ _ _ _ _ _ _ _ _ _ _ _ _ _ _ _ _ _ _ _, fun _ => rfl⟩
  · cases hr
noncomputable def K_arcspokes : List (Nat × Summ) := (92, tplS arcspokes_tpl arcspokes_out) :: K_rcmp
theorem known_arcspokes : Known Try.prog (sums K_arcspokes) L_mul := known_cons known_rcmp arcspokes_ok
noncomputable def chalf_tpl : Tpl := ⟨[.agg [.int .i64, .int .i64, .int .i64, .int .i64], .agg [.int .i64, .int .i64]], [], 0⟩
noncomputable def chalf_0 (s0 : Int) (s1 : Int) (a : Int) (b : Int) : Int :=
  bif decide (vcross_0 s0 s1 a b > 0) || vcross_0 s0 s1 a b == 0 && decide (vinner_0 s0 s1 a b > 0) then 0 else 1
set_option maxRecDepth 1000000 in
theorem chalf_runs (s0 s1 s2 s3 a b : Int) : Runs (runF (sums K_arcspokes) L_mul 112) (chalf_tpl.args [.i s0, .i s1, .i s2, .i s3, .i a, .i b]) (chalf_tpl.memo [.i s0, .i s1, .i s2, .i s3, .i a, .i b] []) chalf_tpl.n (SV.one (SC.int IntKind.i64 (SI.v (chalf_0 s0 s1 a b))))
    ([]) :=
  Runs.of1 (ps := []) (by kernel_rfl) (by simp)
noncomputable def chalf_out : List Pm → Lss → Option CRes
  | [.i s0, .i s1, .i s2, .i s3, .i a, .i b], [] => some ⟨SV.one (SC.int IntKind.i64 (SI.v (chalf_0 s0 s1 a b))),
    [],
    [], [], 73⟩
  | _, _ => none
theorem chalf_ok : FOk Try.prog 112 (tplS chalf_tpl chalf_out) := by
  refine tplS_ok (runF_ok known_arcspokes 112) fun ps ls r hr hn _ => ?_
  unfold chalf_out at hr
  split at hr
  · cases hr; exact ⟨_, chalf_runs _ _ _ _ _ _, fun _ => rfl⟩
  · cases hr
noncomputable def K_chalf : List (Nat × Summ) := (112, tplS chalf_tpl chalf_out) :: K_arcspokes
theorem known_chalf : Known Try.prog (sums K_chalf) L_mul := known_cons known_arcspokes chalf_ok
noncomputable def contains_tpl : Tpl := ⟨[.agg [.int .i64, .int .i64, .int .i64, .int .i64], .agg [.int .i64, .int .i64]], [], 0⟩
noncomputable def contains_0 (s0 : Int) (s1 : Int) (s2 : Int) (s3 : Int) (a : Int) (b : Int) : Bool :=
  decide (chalf_0 s0 s1 a b < chalf_0 s0 s1 s2 s3) || chalf_0 s0 s1 a b == chalf_0 s0 s1 s2 s3 && decide (vcross_0 a b s2 s3 ≥ 0)
set_option maxRecDepth 1000000 in
theorem contains_runs (s0 s1 s2 s3 a b : Int) : Runs (runF (sums K_chalf) L_mul 93) (contains_tpl.args [.i s0, .i s1, .i s2, .i s3, .i a, .i b]) (contains_tpl.memo [.i s0, .i s1, .i s2, .i s3, .i a, .i b] []) contains_tpl.n (SV.one (SC.bool (SB.v (contains_0 s0 s1 s2 s3 a b))))
    ([]) :=
  Runs.of1 (ps := []) (by kernel_rfl) (by simp)
noncomputable def contains_out : List Pm → Lss → Option CRes
  | [.i s0, .i s1, .i s2, .i s3, .i a, .i b], [] => some ⟨SV.one (SC.bool (SB.v (contains_0 s0 s1 s2 s3 a b))),
    [],
    [], [], 203⟩
  | _, _ => none
theorem contains_ok : FOk Try.prog 93 (tplS contains_tpl contains_out) := by
  refine tplS_ok (runF_ok known_chalf 93) fun ps ls r hr hn _ => ?_
  unfold contains_out at hr
  split at hr
  · cases hr; exact ⟨_, contains_runs _ _ _ _ _ _, fun _ => rfl⟩
  · cases hr
noncomputable def K_contains : List (Nat × Summ) := (93, tplS contains_tpl contains_out) :: K_chalf
theorem known_contains : Known Try.prog (sums K_contains) L_mul := known_cons known_chalf contains_ok
noncomputable def inside_tpl : Tpl := ⟨[.agg [.int .i64, .int .i64, .int .i64, .int .i64, .int .i64, .int .i64, .int .i64, .int .i64, .int .i64, .int .i64, .int .i64, .int .i64, .int .i64, .bool, .int .i64, .bool, .int .i64, .int .i64, .int .i64, .int .i64, .int .i64, .bool], .agg [.int .i64, .int .i64]], [], 0⟩
noncomputable def inside_0 (i2 : Int) (i3 : Int) (i4 : Int) (i5 : Int) (i6 : Int) (i7 : Int) (i8 : Int) (i9 : Int) (i10 : Int) (i11 : Int) (i12 : Int) (i13 : Bool) (a : Int) (b : Int) : Bool :=
  i13 ||
   contains_0 (bif decide (i12 < 0) then arcspokes_0 i5 i6 i7 i8 i9 i10 i11 else arcspokes_0 i2 i3 i4 i8 i9 i10 i11)
   (bif decide (i12 < 0) then arcspokes_1 i5 i6 i7 i8 i9 i10 i11 else arcspokes_1 i2 i3 i4 i8 i9 i10 i11)
   (bif decide (i12 < 0) then arcspokes_0 i2 i3 i4 i8 i9 i10 i11 else arcspokes_0 i5 i6 i7 i8 i9 i10 i11)
   (bif decide (i12 < 0) then arcspokes_1 i2 i3 i4 i8 i9 i10 i11 else arcspokes_1 i5 i6 i7 i8 i9 i10 i11) a b
set_option maxRecDepth 1000000 in
theorem inside_runs (i0 i1 i2 i3 i4 i5 i6 i7 i8 i9 i10 i11 i12 : Int) (i13 : Bool) (i14 : Int) (i15 : Bool) (i16 i17 i18 i19 i20 : Int) (i21 : Bool) (a b : Int) : Runs (runF (sums K_contains) L_mul 70) (inside_tpl.args [.i i0, .i i1, .i i2, .i i3, .i i4, .i i5, .i i6, .i i7, .i i8, .i i9, .i i10, .i i11, .i i12, .b i13, .i i14, .b i15, .i i16, .i i17, .i i18, .i i19, .i i20, .b i21, .i a, .i b]) (inside_tpl.memo [.i i0, .i i1, .i i2, .i i3, .i i4, .i i5, .i i6, .i i7, .i i8, .i i9, .i i10, .i i11, .i i12, .b i13, .i i14, .b i15, .i i16, .i i17, .i i18, .i i19, .i i20, .b i21, .i a, .i b] []) inside_tpl.n (SV.one (SC.bool (SB.v (inside_0 i2 i3 i4 i5 i6 i7 i8 i9 i10 i11 i12 i13 a b))))
    ([]) :=
  Runs.of1 (ps := []) (by kernel_rfl) (by simp)
noncomputable def inside_out : List Pm → Lss → Option CRes
  | [.i i0, .i i1, .i i2, .i i3, .i i4, .i i5, .i i6, .i i7, .i i8, .i i9, .i i10, .i i11, .i i12, .b i13, .i i14, .b i15, .i i16, .i i17, .i i18, .i i19, .i i20, .b i21, .i a, .i b], [] => some ⟨SV.one (SC.bool (SB.v (inside_0 i2 i3 i4 i5 i6 i7 i8 i9 i10 i11 i12 i13 a b))),
    [],
    [], [], 587⟩
  | _, _ => none
theorem inside_ok : FOk Try.prog 70 (tplS inside_tpl inside_out) := by
  refine tplS_ok (runF_ok known_contains 70) fun ps ls r hr hn _ => ?_
  unfold inside_out at hr
  split at hr
  · cases hr; exact ⟨_, inside_runs _ _ _ _ _ _ _ _ _ _ _ _ _ _ _ _ _ _ _ _ _ _ _ _, fun _ => rfl⟩
  · cases hr
noncomputable def K_inside : List (Nat × Summ) := (70, tplS inside_tpl inside_out) :: K_contains
theorem known_inside : Known Try.prog (sums K_inside) L_mul := known_cons known_contains inside_ok
noncomputable def citem_tpl : Tpl := ⟨[.agg [.int .i64, .int .i64, .int .i64, .int .i64, .int .i64, .int .i64, .int .i64, .bool]], [], 0⟩
set_option maxRecDepth 1000000 in
theorem citem_runs (a0 a1 a2 a3 a4 a5 a6 : Int) (a7 : Bool) : Runs (runF (sums K_inside) L_mul 71) (citem_tpl.args [.i a0, .i a1, .i a2, .i a3, .i a4, .i a5, .i a6, .b a7]) (citem_tpl.memo [.i a0, .i a1, .i a2, .i a3, .i a4, .i a5, .i a6, .b a7] []) citem_tpl.n (SV.agg
    [SC.int IntKind.i64 (SI.c 3), SC.int IntKind.i64 (SI.c 0), SC.int IntKind.i64 (SI.v a0), SC.int IntKind.i64 (SI.v a1), SC.int IntKind.i64 (SI.c 0), SC.int IntKind.i64 (SI.v a2),
     SC.int IntKind.i64 (SI.v a3), SC.int IntKind.i64 (SI.c 0), SC.int IntKind.i64 (SI.c 17), SC.int IntKind.i64 (SI.v a4), SC.int IntKind.i64 (SI.v a5), SC.int IntKind.i64 (SI.c 0),
     SC.int IntKind.i64 (SI.v a6), SC.bool (SB.v a7), SC.int IntKind.i64 (SI.c 0), SC.bool (SB.c false), SC.int IntKind.i64 (SI.c 0), SC.int IntKind.i64 (SI.c 0), SC.int IntKind.i64 (SI.c 0),
     SC.int IntKind.i64 (SI.c 0), SC.int IntKind.i64 (SI.c 0), SC.bool (SB.c false)])
    ([]) :=
  Runs.of1 (ps := []) (by kernel_rfl) (by simp)
noncomputable def citem_out : List Pm → Lss → Option CRes
  | [.i a0, .i a1, .i a2, .i a3, .i a4, .i a5, .i a6, .b a7], [] => some ⟨SV.agg
    [SC.int IntKind.i64 (SI.c 3), SC.int IntKind.i64 (SI.c 0), SC.int IntKind.i64 (SI.v a0), SC.int IntKind.i64 (SI.v a1), SC.int IntKind.i64 (SI.c 0), SC.int IntKind.i64 (SI.v a2),
     SC.int IntKind.i64 (SI.v a3), SC.int IntKind.i64 (SI.c 0), SC.int IntKind.i64 (SI.c 17), SC.int IntKind.i64 (SI.v a4), SC.int IntKind.i64 (SI.v a5), SC.int IntKind.i64 (SI.c 0),
     SC.int IntKind.i64 (SI.v a6), SC.bool (SB.v a7), SC.int IntKind.i64 (SI.c 0), SC.bool (SB.c false), SC.int IntKind.i64 (SI.c 0), SC.int IntKind.i64 (SI.c 0), SC.int IntKind.i64 (SI.c 0),
     SC.int IntKind.i64 (SI.c 0), SC.int IntKind.i64 (SI.c 0), SC.bool (SB.c false)],
    [],
    [], [], 129⟩
  | _, _ => none
theorem citem_ok : FOk Try.prog 71 (tplS citem_tpl citem_out) := by
  refine tplS_ok (runF_ok known_inside 71) fun ps ls r hr hn _ => ?_
  unfold citem_out at hr
  split at hr
  · cases hr; exact ⟨_, citem_runs _ _ _ _ _ _ _ _, fun _ => rfl⟩
  · cases hr
noncomputable def K_citem : List (Nat × Summ) := (71, tplS citem_tpl citem_out) :: K_inside
theorem known_citem : Known Try.prog (sums K_citem) L_mul := known_cons known_inside citem_ok
noncomputable def rhalf_tpl : Tpl := ⟨[.agg [.int .i64, .int .i64], .agg [.int .i64, .int .i64], .one (.int .i64)], [], 0⟩
noncomputable def rhalf_0 (a : Int) (b : Int) (c : Int) (d : Int) (e : Int) : Int :=
  bif decide (IntKind.i64.wrap (vcross_0 a b c d * e) > 0) || IntKind.i64.wrap (vcross_0 a b c d * e) == 0 && decide (vinner_0 a b c d > 0) then 0 else 1
set_option maxRecDepth 1000000 in
theorem rhalf_runs (a b c d e : Int) : Runs (runF (sums K_citem) L_mul 100) (rhalf_tpl.args [.i a, .i b, .i c, .i d, .i e]) (rhalf_tpl.memo [.i a, .i b, .i c, .i d, .i e] []) rhalf_tpl.n (SV.one (SC.int IntKind.i64 (SI.v (rhalf_0 a b c d e))))
    ([]) :=
  Runs.of1 (ps := []) (by kernel_rfl) (by simp)
noncomputable def rhalf_out : List Pm → Lss → Option CRes
  | [.i a, .i b, .i c, .i d, .i e], [] => some ⟨SV.one (SC.int IntKind.i64 (SI.v (rhalf_0 a b c d e))),
    [],
    [], [], 71⟩
  | _, _ => none
theorem rhalf_ok : FOk Try.prog 100 (tplS rhalf_tpl rhalf_out) := by
  refine tplS_ok (runF_ok known_citem 100) fun ps ls r hr hn _ => ?_
  unfold rhalf_out at hr
  split at hr
  · cases hr; exact ⟨_, rhalf_runs _ _ _ _ _, fun _ => rfl⟩
  · cases hr
noncomputable def K_rhalf : List (Nat × Summ) := (100, tplS rhalf_tpl rhalf_out) :: K_citem
theorem known_rhalf : Known Try.prog (sums K_rhalf) L_mul := known_cons known_citem rhalf_ok
noncomputable def insweep_tpl : Tpl := ⟨[.agg [.int .i64, .int .i64], .agg [.int .i64, .int .i64], .agg [.int .i64, .int .i64], .one (.int .i64), .one (.bool)], [], 0⟩
noncomputable def insweep_0 (a : Int) (b : Int) (c : Int) (d : Int) (e : Int) (f : Int) (g : Int) (h : Bool) : Bool :=
  h || bif rhalf_0 a b e f g != rhalf_0 a b c d g then decide (rhalf_0 a b e f g < rhalf_0 a b c d g) else decide (IntKind.i64.wrap (vcross_0 e f c d * g) ≥ 0)
set_option maxRecDepth 1000000 in
theorem insweep_runs (a b c d e f g : Int) (h : Bool) : Runs (runF (sums K_rhalf) L_mul 77) (insweep_tpl.args [.i a, .i b, .i c, .i d, .i e, .i f, .i g, .b h]) (insweep_tpl.memo [.i a, .i b, .i c, .i d, .i e, .i f, .i g, .b h] []) insweep_tpl.n (SV.one (SC.bool (SB.v (insweep_0 a b c d e f g h))))
    ([]) :=
  Runs.of1 (ps := []) (by kernel_rfl) (by simp)
noncomputable def insweep_out : List Pm → Lss → Option CRes
  | [.i a, .i b, .i c, .i d, .i e, .i f, .i g, .b h], [] => some ⟨SV.one (SC.bool (SB.v (insweep_0 a b c d e f g h))),
    [],
    [], [], 202⟩
  | _, _ => none
theorem insweep_ok : FOk Try.prog 77 (tplS insweep_tpl insweep_out) := by
  refine tplS_ok (runF_ok known_rhalf 77) fun ps ls r hr hn _ => ?_
  unfold insweep_out at hr
  split at hr
  · cases hr; exact ⟨_, insweep_runs _ _ _ _ _ _ _ _, fun _ => rfl⟩
  · cases hr
noncomputable def K_insweep : List (Nat × Summ) := (77, tplS insweep_tpl insweep_out) :: K_rhalf
theorem known_insweep : Known Try.prog (sums K_insweep) L_mul := known_cons known_rhalf insweep_ok
noncomputable def beside_tpl : Tpl := ⟨[.agg [.int .i64, .int .i64, .int .i64, .int .i64, .int .i64, .int .i64, .int .i64, .bool], .agg [.int .i64, .int .i64]], [], 0⟩
noncomputable def beside_0 (a0 : Int) (a1 : Int) (a2 : Int) (a3 : Int) (a4 : Int) (a5 : Int) (a6 : Int) (a7 : Bool) (y : Int) (z : Int) : Bool :=
  bif a6 == 0 then
   decide (vinner_0 (minus_0 y a0) (minus_0 z a1) (minus_0 a2 a0) (minus_0 a3 a1) > 0) &&
   decide (vinner_0 (minus_0 y a0) (minus_0 z a1) (minus_0 a2 a0) (minus_0 a3 a1) < vinner_0 (minus_0 a2 a0) (minus_0 a3 a1) (minus_0 a2 a0) (minus_0 a3 a1))
  else minus_0 y a4 == 0 && minus_0 z a5 == 0 || insweep_0 (spoke_0 a0 a2 a4 false) (spoke_0 a1 a3 a5 false) (spoke_0 a0 a2 a4 true) (spoke_0 a1 a3 a5 true) (minus_0 y a4) (minus_0 z a5) a6 a7
set_option maxRecDepth 1000000 in
theorem beside_runs (a0 a1 a2 a3 a4 a5 a6 : Int) (a7 : Bool) (y z : Int) : Runs (runF (sums K_insweep) L_mul 41) (beside_tpl.args [.i a0, .i a1, .i a2, .i a3, .i a4, .i a5, .i a6, .b a7, .i y, .i z]) (beside_tpl.memo [.i a0, .i a1, .i a2, .i a3, .i a4, .i a5, .i a6, .b a7, .i y, .i z] []) beside_tpl.n (SV.one (SC.bool (SB.v (beside_0 a0 a1 a2 a3 a4 a5 a6 a7 y z))))
    ([]) :=
  Runs.of1 (ps := []) (by kernel_rfl) (by simp)
noncomputable def beside_out : List Pm → Lss → Option CRes
  | [.i a0, .i a1, .i a2, .i a3, .i a4, .i a5, .i a6, .b a7, .i y, .i z], [] => some ⟨SV.one (SC.bool (SB.v (beside_0 a0 a1 a2 a3 a4 a5 a6 a7 y z))),
    [],
    [], [], 574⟩
  | _, _ => none
theorem beside_ok : FOk Try.prog 41 (tplS beside_tpl beside_out) := by
  refine tplS_ok (runF_ok known_insweep 41) fun ps ls r hr hn _ => ?_
  unfold beside_out at hr
  split at hr
  · cases hr; exact ⟨_, beside_runs _ _ _ _ _ _ _ _ _ _, fun _ => rfl⟩
  · cases hr
noncomputable def K_beside : List (Nat × Summ) := (41, tplS beside_tpl beside_out) :: K_insweep
theorem known_beside : Known Try.prog (sums K_beside) L_mul := known_cons known_insweep beside_ok
end Go.Proofs.Ythgiaoidekdpfaa
