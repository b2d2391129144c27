/-
  VECTORS, planes, sectors, spokes. Conditions: ranges for the comparison of long products.
-/
import Derived.Test.YtkggdhnliiagjaaR2
import Derived.Test.YtkggdhnliiagjaaS2
set_option linter.all false
namespace Go.Proofs.Ytkggdhnliiagjaa
open Go.SX Go.RowKit
noncomputable def vwithin_tpl : Tpl := ⟨[.agg [.int .i64, .int .i64, .int .i64]], [], 0⟩
noncomputable def vwithin_0 (a : Int) (b : Int) (c : Int) : Bool :=
  decide (a ≥ -1048576) && decide (a ≤ 1048576) && (decide (b ≥ -1048576) && decide (b ≤ 1048576)) && (decide (c ≥ -1048576) && decide (c ≤ 1048576))
set_option maxRecDepth 1000000 in
theorem vwithin_runs (a b c : Int) : Runs (runF (sums K_rOver) L_ov 44) (vwithin_tpl.args [.i a, .i b, .i c]) (vwithin_tpl.memo [.i a, .i b, .i c] []) vwithin_tpl.n (SV.one (SC.bool (SB.v (vwithin_0 a b c))))
    ([]) :=
  Runs.of (ps := []) (by kernel_rfl) (by kernel_rfl) (by simp)
noncomputable def vwithin_out : List Pm → Lss → Option CRes
  | [.i a, .i b, .i c], [] => some ⟨SV.one (SC.bool (SB.v (vwithin_0 a b c))),
    [],
    [], [], 44⟩
  | _, _ => none
theorem vwithin_ok : FOk Try.prog 44 (tplS vwithin_tpl vwithin_out) := by
  refine tplS_ok (runF_ok known_rOver 44) fun ps ls r hr hn _ => ?_
  unfold vwithin_out at hr
  split at hr
  · cases hr; exact ⟨_, vwithin_runs _ _ _, fun _ => rfl⟩
  · cases hr
noncomputable def K_vwithin : List (Nat × Summ) := (44, tplS vwithin_tpl vwithin_out) :: K_rOver
theorem known_vwithin : Known Try.prog (sums K_vwithin) L_ov := known_cons known_rOver vwithin_ok
noncomputable def flat_tpl : Tpl := ⟨[.one (.int .i64), .agg [.int .i64, .int .i64, .int .i64]], [], 0⟩
noncomputable def flat_0 (p : Int) (a : Int) (b : Int) (c : Int) : Int :=
  bif p == 17 then a else bif p == 18 then c else bif p == 19 then b else 0
noncomputable def flat_1 (p : Int) (a : Int) (b : Int) (c : Int) : Int :=
  bif p == 17 then b else bif p == 18 then a else bif p == 19 then c else 0
noncomputable def flat_2 (p : Int) (a : Int) (b : Int) (c : Int) : Int :=
  bif p == 17 then c else bif p == 18 then b else bif p == 19 then a else 0
noncomputable def flat_3 (p : Int) : Bool :=
  p == 17 || (p == 18 || p == 19)
set_option maxRecDepth 1000000 in
theorem flat_runs (p a b c : Int) : Runs (runF (sums K_vwithin) L_ov 43) (flat_tpl.args [.i p, .i a, .i b, .i c]) (flat_tpl.memo [.i p, .i a, .i b, .i c] []) flat_tpl.n (SV.tup [(true, [SC.int IntKind.i64 (SI.v (flat_0 p a b c)), SC.int IntKind.i64 (SI.v (flat_1 p a b c))]), (false, [SC.int IntKind.i64 (SI.v (flat_2 p a b c))]), (false, [SC.bool (SB.v (flat_3 p))])])
    ([]) :=
  Runs.of (ps := []) (by kernel_rfl) (by kernel_rfl) (by simp)
noncomputable def flat_out : List Pm → Lss → Option CRes
  | [.i p, .i a, .i b, .i c], [] => some ⟨SV.tup [(true, [SC.int IntKind.i64 (SI.v (flat_0 p a b c)), SC.int IntKind.i64 (SI.v (flat_1 p a b c))]), (false, [SC.int IntKind.i64 (SI.v (flat_2 p a b c))]), (false, [SC.bool (SB.v (flat_3 p))])],
    [],
    [], [], 66⟩
  | _, _ => none
theorem flat_ok : FOk Try.prog 43 (tplS flat_tpl flat_out) := by
  refine tplS_ok (runF_ok known_vwithin 43) fun ps ls r hr hn _ => ?_
  unfold flat_out at hr
  split at hr
  · cases hr; exact ⟨_, flat_runs _ _ _ _, fun _ => rfl⟩
  · cases hr
noncomputable def K_flat : List (Nat × Summ) := (43, tplS flat_tpl flat_out) :: K_vwithin
theorem known_flat : Known Try.prog (sums K_flat) L_ov := known_cons known_vwithin flat_ok
noncomputable def solid_tpl : Tpl := ⟨[.one (.int .i64), .agg [.int .i64, .int .i64], .one (.int .i64)], [], 0⟩
noncomputable def solid_0 (p : Int) (u : Int) (w : Int) (h : Int) : Int :=
  bif p == 17 then u else bif p == 18 then w else bif p == 19 then h else 0
noncomputable def solid_1 (p : Int) (u : Int) (w : Int) (h : Int) : Int :=
  bif p == 17 then w else bif p == 18 then h else bif p == 19 then u else 0
noncomputable def solid_2 (p : Int) (u : Int) (w : Int) (h : Int) : Int :=
  bif p == 17 then h else bif p == 18 then u else bif p == 19 then w else 0
set_option maxRecDepth 1000000 in
theorem solid_runs (p u w h : Int) : Runs (runF (sums K_flat) L_ov 72) (solid_tpl.args [.i p, .i u, .i w, .i h]) (solid_tpl.memo [.i p, .i u, .i w, .i h] []) solid_tpl.n (SV.tup [(true, [SC.int IntKind.i64 (SI.v (solid_0 p u w h)), SC.int IntKind.i64 (SI.v (solid_1 p u w h)), SC.int IntKind.i64 (SI.v (solid_2 p u w h))]), (false, [SC.bool (SB.v (flat_3 p))])])
    ([]) :=
  Runs.of (ps := []) (by kernel_rfl) (by kernel_rfl) (by simp)
noncomputable def solid_out : List Pm → Lss → Option CRes
  | [.i p, .i u, .i w, .i h], [] => some ⟨SV.tup [(true, [SC.int IntKind.i64 (SI.v (solid_0 p u w h)), SC.int IntKind.i64 (SI.v (solid_1 p u w h)), SC.int IntKind.i64 (SI.v (solid_2 p u w h))]), (false, [SC.bool (SB.v (flat_3 p))])],
    [],
    [], [], 65⟩
  | _, _ => none
theorem solid_ok : FOk Try.prog 72 (tplS solid_tpl solid_out) := by
  refine tplS_ok (runF_ok known_flat 72) fun ps ls r hr hn _ => ?_
  unfold solid_out at hr
  split at hr
  · cases hr; exact ⟨_, solid_runs _ _ _ _, fun _ => rfl⟩
  · cases hr
noncomputable def K_solid : List (Nat × Summ) := (72, tplS solid_tpl solid_out) :: K_flat
theorem known_solid : Known Try.prog (sums K_solid) L_ov := known_cons known_flat solid_ok
noncomputable def acenter_tpl : Tpl := ⟨[.one (.int .i64), .agg [.int .i64, .int .i64], .one (.int .i64)], [], 0⟩
noncomputable def acenter_0 (p : Int) (u : Int) (w : Int) (h : Int) : Int :=
  bif !vwithin_0 (solid_0 p u w h) (solid_1 p u w h) (solid_2 p u w h) then 0 else solid_0 p u w h
noncomputable def acenter_1 (p : Int) (u : Int) (w : Int) (h : Int) : Int :=
  bif !vwithin_0 (solid_0 p u w h) (solid_1 p u w h) (solid_2 p u w h) then 0 else solid_1 p u w h
noncomputable def acenter_2 (p : Int) (u : Int) (w : Int) (h : Int) : Int :=
  bif !vwithin_0 (solid_0 p u w h) (solid_1 p u w h) (solid_2 p u w h) then 0 else solid_2 p u w h
noncomputable def acenter_3 (p : Int) (u : Int) (w : Int) (h : Int) : Int :=
  bif !vwithin_0 (solid_0 p u w h) (solid_1 p u w h) (solid_2 p u w h) then 3 else 0
set_option maxRecDepth 1000000 in
theorem acenter_runs (p u w h : Int) : Runs (runF (sums K_solid) L_ov 48) (acenter_tpl.args [.i p, .i u, .i w, .i h]) (acenter_tpl.memo [.i p, .i u, .i w, .i h] []) acenter_tpl.n (SV.tup
    [(true, [SC.int IntKind.i64 (SI.v (acenter_0 p u w h)), SC.int IntKind.i64 (SI.v (acenter_1 p u w h)), SC.int IntKind.i64 (SI.v (acenter_2 p u w h))]),
      (false, [SC.int IntKind.i64 (SI.v (acenter_3 p u w h))])])
    ([]) :=
  Runs.of (ps := []) (by kernel_rfl) (by kernel_rfl) (by simp)
noncomputable def acenter_out : List Pm → Lss → Option CRes
  | [.i p, .i u, .i w, .i h], [] => some ⟨SV.tup
    [(true, [SC.int IntKind.i64 (SI.v (acenter_0 p u w h)), SC.int IntKind.i64 (SI.v (acenter_1 p u w h)), SC.int IntKind.i64 (SI.v (acenter_2 p u w h))]),
      (false, [SC.int IntKind.i64 (SI.v (acenter_3 p u w h))])],
    [],
    [], [], 154⟩
  | _, _ => none
theorem acenter_ok : FOk Try.prog 48 (tplS acenter_tpl acenter_out) := by
  refine tplS_ok (runF_ok known_solid 48) fun ps ls r hr hn _ => ?_
  unfold acenter_out at hr
  split at hr
  · cases hr; exact ⟨_, acenter_runs _ _ _ _, fun _ => rfl⟩
  · cases hr
noncomputable def K_acenter : List (Nat × Summ) := (48, tplS acenter_tpl acenter_out) :: K_solid
theorem known_acenter : Known Try.prog (sums K_acenter) L_ov := known_cons known_solid acenter_ok
noncomputable def rwithin_tpl : Tpl := ⟨[.agg [.int .i64, .int .i64, .int .i64]], [], 0⟩
set_option maxRecDepth 1000000 in
theorem rwithin_runs (a b c : Int) : Runs (runF (sums K_acenter) L_ov 50) (rwithin_tpl.args [.i a, .i b, .i c]) (rwithin_tpl.memo [.i a, .i b, .i c] []) rwithin_tpl.n (SV.one (SC.bool (SB.v (vwithin_0 a b c))))
    ([]) :=
  Runs.of (ps := []) (by kernel_rfl) (by kernel_rfl) (by simp)
noncomputable def rwithin_out : List Pm → Lss → Option CRes
  | [.i a, .i b, .i c], [] => some ⟨SV.one (SC.bool (SB.v (vwithin_0 a b c))),
    [],
    [], [], 53⟩
  | _, _ => none
theorem rwithin_ok : FOk Try.prog 50 (tplS rwithin_tpl rwithin_out) := by
  refine tplS_ok (runF_ok known_acenter 50) fun ps ls r hr hn _ => ?_
  unfold rwithin_out at hr
  split at hr
  · cases hr; exact ⟨_, rwithin_runs _ _ _, fun _ => rfl⟩
  · cases hr
noncomputable def K_rwithin : List (Nat × Summ) := (50, tplS rwithin_tpl rwithin_out) :: K_acenter
theorem known_rwithin : Known Try.prog (sums K_rwithin) L_ov := known_cons known_acenter rwithin_ok
noncomputable def rsmall_tpl : Tpl := ⟨[.agg [.int .i64, .int .i64, .int .i64]], [], 0⟩
noncomputable def rsmall_0 (a : Int) (b : Int) (c : Int) : Bool :=
  decide (a ≥ -4194304) && decide (a ≤ 4194304) && (decide (b ≥ -4194304) && decide (b ≤ 4194304)) && (decide (c ≥ -4194304) && decide (c ≤ 4194304))
set_option maxRecDepth 1000000 in
theorem rsmall_runs (a b c : Int) : Runs (runF (sums K_rwithin) L_ov 68) (rsmall_tpl.args [.i a, .i b, .i c]) (rsmall_tpl.memo [.i a, .i b, .i c] []) rsmall_tpl.n (SV.one (SC.bool (SB.v (rsmall_0 a b c))))
    ([]) :=
  Runs.of (ps := []) (by kernel_rfl) (by kernel_rfl) (by simp)
noncomputable def rsmall_out : List Pm → Lss → Option CRes
  | [.i a, .i b, .i c], [] => some ⟨SV.one (SC.bool (SB.v (rsmall_0 a b c))),
    [],
    [], [], 53⟩
  | _, _ => none
theorem rsmall_ok : FOk Try.prog 68 (tplS rsmall_tpl rsmall_out) := by
  refine tplS_ok (runF_ok known_rwithin 68) fun ps ls r hr hn _ => ?_
  unfold rsmall_out at hr
  split at hr
  · cases hr; exact ⟨_, rsmall_runs _ _ _, fun _ => rfl⟩
  · cases hr
noncomputable def K_rsmall : List (Nat × Summ) := (68, tplS rsmall_tpl rsmall_out) :: K_rwithin
theorem known_rsmall : Known Try.prog (sums K_rsmall) L_ov := known_cons known_rwithin rsmall_ok
noncomputable def rplane_tpl : Tpl := ⟨[.one (.int .i64)], [], 0⟩
noncomputable def rplane_0 (p : Int) : Bool :=
  p == 17 || p == 18 || p == 19
set_option maxRecDepth 1000000 in
theorem rplane_runs (p : Int) : Runs (runF (sums K_rsmall) L_ov 49) (rplane_tpl.args [.i p]) (rplane_tpl.memo [.i p] []) rplane_tpl.n (SV.one (SC.bool (SB.v (rplane_0 p))))
    ([]) :=
  Runs.of (ps := []) (by kernel_rfl) (by kernel_rfl) (by simp)
noncomputable def rplane_out : List Pm → Lss → Option CRes
  | [.i p], [] => some ⟨SV.one (SC.bool (SB.v (rplane_0 p))),
    [],
    [], [], 12⟩
  | _, _ => none
theorem rplane_ok : FOk Try.prog 49 (tplS rplane_tpl rplane_out) := by
  refine tplS_ok (runF_ok known_rsmall 49) fun ps ls r hr hn _ => ?_
  unfold rplane_out at hr
  split at hr
  · cases hr; exact ⟨_, rplane_runs _, fun _ => rfl⟩
  · cases hr
noncomputable def K_rplane : List (Nat × Summ) := (49, tplS rplane_tpl rplane_out) :: K_rsmall
theorem known_rplane : Known Try.prog (sums K_rplane) L_ov := known_cons known_rsmall rplane_ok
noncomputable def rflat_tpl : Tpl := ⟨[.one (.int .i64), .agg [.int .i64, .int .i64, .int .i64]], [], 0⟩
set_option maxRecDepth 1000000 in
theorem rflat_runs (p a b c : Int) : Runs (runF (sums K_rplane) L_ov 64) (rflat_tpl.args [.i p, .i a, .i b, .i c]) (rflat_tpl.memo [.i p, .i a, .i b, .i c] []) rflat_tpl.n (SV.tup
    [(true, [SC.int IntKind.i64 (SI.v (flat_0 p a b c)), SC.int IntKind.i64 (SI.v (flat_1 p a b c))]), (false, [SC.int IntKind.i64 (SI.v (flat_2 p a b c))]), (false, [SC.bool (SB.v (flat_3 p))])])
    ([]) :=
  Runs.of (ps := []) (by kernel_rfl) (by kernel_rfl) (by simp)
noncomputable def rflat_out : List Pm → Lss → Option CRes
  | [.i p, .i a, .i b, .i c], [] => some ⟨SV.tup
    [(true, [SC.int IntKind.i64 (SI.v (flat_0 p a b c)), SC.int IntKind.i64 (SI.v (flat_1 p a b c))]), (false, [SC.int IntKind.i64 (SI.v (flat_2 p a b c))]), (false, [SC.bool (SB.v (flat_3 p))])],
    [],
    [], [], 66⟩
  | _, _ => none
theorem rflat_ok : FOk Try.prog 64 (tplS rflat_tpl rflat_out) := by
  refine tplS_ok (runF_ok known_rplane 64) fun ps ls r hr hn _ => ?_
  unfold rflat_out at hr
  split at hr
  · cases hr; exact ⟨_, rflat_runs _ _ _ _, fun _ => rfl⟩
  · cases hr
noncomputable def K_rflat : List (Nat × Summ) := (64, tplS rflat_tpl rflat_out) :: K_rplane
theorem known_rflat : Known Try.prog (sums K_rflat) L_ov := known_cons known_rplane rflat_ok
noncomputable def rpt_tpl : Tpl := ⟨[.one (.int .i64), .agg [.int .i64, .int .i64, .int .i64]], [], 0⟩
set_option maxRecDepth 1000000 in
theorem rpt_runs (p a b c : Int) : Runs (runF (sums K_rflat) L_ov 25) (rpt_tpl.args [.i p, .i a, .i b, .i c]) (rpt_tpl.memo [.i p, .i a, .i b, .i c] []) rpt_tpl.n (SV.agg [SC.int IntKind.i64 (SI.v (flat_0 p a b c)), SC.int IntKind.i64 (SI.v (flat_1 p a b c))])
    ([]) :=
  Runs.of (ps := []) (by kernel_rfl) (by kernel_rfl) (by simp)
noncomputable def rpt_out : List Pm → Lss → Option CRes
  | [.i p, .i a, .i b, .i c], [] => some ⟨SV.agg [SC.int IntKind.i64 (SI.v (flat_0 p a b c)), SC.int IntKind.i64 (SI.v (flat_1 p a b c))],
    [],
    [], [], 95⟩
  | _, _ => none
theorem rpt_ok : FOk Try.prog 25 (tplS rpt_tpl rpt_out) := by
  refine tplS_ok (runF_ok known_rflat 25) fun ps ls r hr hn _ => ?_
  unfold rpt_out at hr
  split at hr
  · cases hr; exact ⟨_, rpt_runs _ _ _ _, fun _ => rfl⟩
  · cases hr
noncomputable def K_rpt : List (Nat × Summ) := (25, tplS rpt_tpl rpt_out) :: K_rflat
theorem known_rpt : Known Try.prog (sums K_rpt) L_ov := known_cons known_rflat rpt_ok
noncomputable def rheight_tpl : Tpl := ⟨[.one (.int .i64), .agg [.int .i64, .int .i64, .int .i64]], [], 0⟩
set_option maxRecDepth 1000000 in
theorem rheight_runs (p a b c : Int) : Runs (runF (sums K_rpt) L_ov 28) (rheight_tpl.args [.i p, .i a, .i b, .i c]) (rheight_tpl.memo [.i p, .i a, .i b, .i c] []) rheight_tpl.n (SV.one (SC.int IntKind.i64 (SI.v (flat_2 p a b c))))
    ([]) :=
  Runs.of (ps := []) (by kernel_rfl) (by kernel_rfl) (by simp)
noncomputable def rheight_out : List Pm → Lss → Option CRes
  | [.i p, .i a, .i b, .i c], [] => some ⟨SV.one (SC.int IntKind.i64 (SI.v (flat_2 p a b c))),
    [],
    [], [], 90⟩
  | _, _ => none
theorem rheight_ok : FOk Try.prog 28 (tplS rheight_tpl rheight_out) := by
  refine tplS_ok (runF_ok known_rpt 28) fun ps ls r hr hn _ => ?_
  unfold rheight_out at hr
  split at hr
  · cases hr; exact ⟨_, rheight_runs _ _ _ _, fun _ => rfl⟩
  · cases hr
noncomputable def K_rheight : List (Nat × Summ) := (28, tplS rheight_tpl rheight_out) :: K_rpt
theorem known_rheight : Known Try.prog (sums K_rheight) L_ov := known_cons known_rpt rheight_ok
noncomputable def rsolid_tpl : Tpl := ⟨[.one (.int .i64), .agg [.int .i64, .int .i64], .one (.int .i64)], [], 0⟩
set_option maxRecDepth 1000000 in
theorem rsolid_runs (p u w h : Int) : Runs (runF (sums K_rheight) L_ov 65) (rsolid_tpl.args [.i p, .i u, .i w, .i h]) (rsolid_tpl.memo [.i p, .i u, .i w, .i h] []) rsolid_tpl.n (SV.tup [(true, [SC.int IntKind.i64 (SI.v (solid_0 p u w h)), SC.int IntKind.i64 (SI.v (solid_1 p u w h)), SC.int IntKind.i64 (SI.v (solid_2 p u w h))]), (false, [SC.bool (SB.v (flat_3 p))])])
    ([]) :=
  Runs.of (ps := []) (by kernel_rfl) (by kernel_rfl) (by simp)
noncomputable def rsolid_out : List Pm → Lss → Option CRes
  | [.i p, .i u, .i w, .i h], [] => some ⟨SV.tup [(true, [SC.int IntKind.i64 (SI.v (solid_0 p u w h)), SC.int IntKind.i64 (SI.v (solid_1 p u w h)), SC.int IntKind.i64 (SI.v (solid_2 p u w h))]), (false, [SC.bool (SB.v (flat_3 p))])],
    [],
    [], [], 65⟩
  | _, _ => none
theorem rsolid_ok : FOk Try.prog 65 (tplS rsolid_tpl rsolid_out) := by
  refine tplS_ok (runF_ok known_rheight 65) fun ps ls r hr hn _ => ?_
  unfold rsolid_out at hr
  split at hr
  · cases hr; exact ⟨_, rsolid_runs _ _ _ _, fun _ => rfl⟩
  · cases hr
noncomputable def K_rsolid : List (Nat × Summ) := (65, tplS rsolid_tpl rsolid_out) :: K_rheight
theorem known_rsolid : Known Try.prog (sums K_rsolid) L_ov := known_cons known_rheight rsolid_ok
noncomputable def rat_tpl : Tpl := ⟨[.one (.int .i64), .agg [.int .i64, .int .i64], .one (.int .i64)], [], 0⟩
set_option maxRecDepth 1000000 in
theorem rat_runs (p u w h : Int) : Runs (runF (sums K_rsolid) L_ov 27) (rat_tpl.args [.i p, .i u, .i w, .i h]) (rat_tpl.memo [.i p, .i u, .i w, .i h] []) rat_tpl.n (SV.agg [SC.int IntKind.i64 (SI.v (solid_0 p u w h)), SC.int IntKind.i64 (SI.v (solid_1 p u w h)), SC.int IntKind.i64 (SI.v (solid_2 p u w h))])
    ([]) :=
  Runs.of (ps := []) (by kernel_rfl) (by kernel_rfl) (by simp)
noncomputable def rat_out : List Pm → Lss → Option CRes
  | [.i p, .i u, .i w, .i h], [] => some ⟨SV.agg [SC.int IntKind.i64 (SI.v (solid_0 p u w h)), SC.int IntKind.i64 (SI.v (solid_1 p u w h)), SC.int IntKind.i64 (SI.v (solid_2 p u w h))],
    [],
    [], [], 96⟩
  | _, _ => none
theorem rat_ok : FOk Try.prog 27 (tplS rat_tpl rat_out) := by
  refine tplS_ok (runF_ok known_rsolid 27) fun ps ls r hr hn _ => ?_
  unfold rat_out at hr
  split at hr
  · cases hr; exact ⟨_, rat_runs _ _ _ _, fun _ => rfl⟩
  · cases hr
noncomputable def K_rat : List (Nat × Summ) := (27, tplS rat_tpl rat_out) :: K_rsolid
theorem known_rat : Known Try.prog (sums K_rat) L_ov := known_cons known_rsolid rat_ok
noncomputable def radd_tpl : Tpl := ⟨[.agg [.int .i64, .int .i64, .int .i64], .agg [.int .i64, .int .i64, .int .i64]], [], 0⟩
set_option maxRecDepth 1000000 in
theorem radd_runs (a b c d e f : Int) : Runs (runF (sums K_rat) L_ov 69) (radd_tpl.args [.i a, .i b, .i c, .i d, .i e, .i f]) (radd_tpl.memo [.i a, .i b, .i c, .i d, .i e, .i f] []) radd_tpl.n (SV.agg [SC.int IntKind.i64 (SI.v (addpt_0 a d)), SC.int IntKind.i64 (SI.v (addpt_0 b e)), SC.int IntKind.i64 (SI.v (addpt_0 c f))])
    ([]) :=
  Runs.of (ps := []) (by kernel_rfl) (by kernel_rfl) (by simp)
noncomputable def radd_out : List Pm → Lss → Option CRes
  | [.i a, .i b, .i c, .i d, .i e, .i f], [] => some ⟨SV.agg [SC.int IntKind.i64 (SI.v (addpt_0 a d)), SC.int IntKind.i64 (SI.v (addpt_0 b e)), SC.int IntKind.i64 (SI.v (addpt_0 c f))],
    [],
    [], [], 35⟩
  | _, _ => none
theorem radd_ok : FOk Try.prog 69 (tplS radd_tpl radd_out) := by
  refine tplS_ok (runF_ok known_rat 69) fun ps ls r hr hn _ => ?_
  unfold radd_out at hr
  split at hr
  · cases hr; exact ⟨_, radd_runs _ _ _ _ _ _, fun _ => rfl⟩
  · cases hr
noncomputable def K_radd : List (Nat × Summ) := (69, tplS radd_tpl radd_out) :: K_rat
theorem known_radd : Known Try.prog (sums K_radd) L_ov := known_cons known_rat radd_ok
noncomputable def rsub_tpl : Tpl := ⟨[.agg [.int .i64, .int .i64, .int .i64], .agg [.int .i64, .int .i64, .int .i64]], [], 0⟩
set_option maxRecDepth 1000000 in
theorem rsub_runs (a b c d e f : Int) : Runs (runF (sums K_radd) L_ov 70) (rsub_tpl.args [.i a, .i b, .i c, .i d, .i e, .i f]) (rsub_tpl.memo [.i a, .i b, .i c, .i d, .i e, .i f] []) rsub_tpl.n (SV.agg [SC.int IntKind.i64 (SI.v (minus_0 a d)), SC.int IntKind.i64 (SI.v (minus_0 b e)), SC.int IntKind.i64 (SI.v (minus_0 c f))])
    ([]) :=
  Runs.of (ps := []) (by kernel_rfl) (by kernel_rfl) (by simp)
noncomputable def rsub_out : List Pm → Lss → Option CRes
  | [.i a, .i b, .i c, .i d, .i e, .i f], [] => some ⟨SV.agg [SC.int IntKind.i64 (SI.v (minus_0 a d)), SC.int IntKind.i64 (SI.v (minus_0 b e)), SC.int IntKind.i64 (SI.v (minus_0 c f))],
    [],
    [], [], 35⟩
  | _, _ => none
theorem rsub_ok : FOk Try.prog 70 (tplS rsub_tpl rsub_out) := by
  refine tplS_ok (runF_ok known_radd 70) fun ps ls r hr hn _ => ?_
  unfold rsub_out at hr
  split at hr
  · cases hr; exact ⟨_, rsub_runs _ _ _ _ _ _, fun _ => rfl⟩
  · cases hr
noncomputable def K_rsub : List (Nat × Summ) := (70, tplS rsub_tpl rsub_out) :: K_radd
theorem known_rsub : Known Try.prog (sums K_rsub) L_ov := known_cons known_radd rsub_ok
noncomputable def rdot_tpl : Tpl := ⟨[.agg [.int .i64, .int .i64, .int .i64], .agg [.int .i64, .int .i64, .int .i64]], [], 0⟩
noncomputable def rdot_0 (a : Int) (b : Int) (c : Int) (d : Int) (e : Int) (f : Int) : Int :=
  IntKind.i64.wrap (IntKind.i64.wrap (IntKind.i64.wrap (a * d) + IntKind.i64.wrap (b * e)) + IntKind.i64.wrap (c * f))
set_option maxRecDepth 1000000 in
theorem rdot_runs (a b c d e f : Int) : Runs (runF (sums K_rsub) L_ov 75) (rdot_tpl.args [.i a, .i b, .i c, .i d, .i e, .i f]) (rdot_tpl.memo [.i a, .i b, .i c, .i d, .i e, .i f] []) rdot_tpl.n (SV.one (SC.int IntKind.i64 (SI.v (rdot_0 a b c d e f))))
    ([]) :=
  Runs.of (ps := []) (by kernel_rfl) (by kernel_rfl) (by simp)
noncomputable def rdot_out : List Pm → Lss → Option CRes
  | [.i a, .i b, .i c, .i d, .i e, .i f], [] => some ⟨SV.one (SC.int IntKind.i64 (SI.v (rdot_0 a b c d e f))),
    [],
    [], [], 29⟩
  | _, _ => none
theorem rdot_ok : FOk Try.prog 75 (tplS rdot_tpl rdot_out) := by
  refine tplS_ok (runF_ok known_rsub 75) fun ps ls r hr hn _ => ?_
  unfold rdot_out at hr
  split at hr
  · cases hr; exact ⟨_, rdot_runs _ _ _ _ _ _, fun _ => rfl⟩
  · cases hr
noncomputable def K_rdot : List (Nat × Summ) := (75, tplS rdot_tpl rdot_out) :: K_rsub
theorem known_rdot : Known Try.prog (sums K_rdot) L_ov := known_cons known_rsub rdot_ok
noncomputable def chalf_tpl : Tpl := ⟨[.agg [.int .i64, .int .i64, .int .i64, .int .i64], .agg [.int .i64, .int .i64]], [], 0⟩
noncomputable def chalf_0 (a : Int) (b : Int) (c : Int) (d : Int) : Int :=
  bif decide (vcross_0 a b c d > 0) || vcross_0 a b c d == 0 && decide (vinner_0 a b c d > 0) then 0 else 1
set_option maxRecDepth 1000000 in
theorem chalf_runs (a b l m c d : Int) : Runs (runF (sums K_rdot) L_ov 99) (chalf_tpl.args [.i a, .i b, .i l, .i m, .i c, .i d]) (chalf_tpl.memo [.i a, .i b, .i l, .i m, .i c, .i d] []) chalf_tpl.n (SV.one (SC.int IntKind.i64 (SI.v (chalf_0 a b c d))))
    ([]) :=
  Runs.of (ps := []) (by kernel_rfl) (by kernel_rfl) (by simp)
noncomputable def chalf_out : List Pm → Lss → Option CRes
  | [.i a, .i b, .i l, .i m, .i c, .i d], [] => some ⟨SV.one (SC.int IntKind.i64 (SI.v (chalf_0 a b c d))),
    [],
    [], [], 73⟩
  | _, _ => none
theorem chalf_ok : FOk Try.prog 99 (tplS chalf_tpl chalf_out) := by
  refine tplS_ok (runF_ok known_rdot 99) fun ps ls r hr hn _ => ?_
  unfold chalf_out at hr
  split at hr
  · cases hr; exact ⟨_, chalf_runs _ _ _ _ _ _, fun _ => rfl⟩
  · cases hr
noncomputable def K_chalf : List (Nat × Summ) := (99, tplS chalf_tpl chalf_out) :: K_rdot
theorem known_chalf : Known Try.prog (sums K_chalf) L_ov := known_cons known_rdot chalf_ok
noncomputable def contains_tpl : Tpl := ⟨[.agg [.int .i64, .int .i64, .int .i64, .int .i64], .agg [.int .i64, .int .i64]], [], 0⟩
noncomputable def contains_0 (a0 : Int) (a1 : Int) (b0 : Int) (b1 : Int) (p0 : Int) (p1 : Int) : Bool :=
  decide (chalf_0 a0 a1 p0 p1 < chalf_0 a0 a1 b0 b1) || chalf_0 a0 a1 p0 p1 == chalf_0 a0 a1 b0 b1 && decide (vcross_0 p0 p1 b0 b1 ≥ 0)
set_option maxRecDepth 1000000 in
theorem contains_runs (a0 a1 b0 b1 p0 p1 : Int) : Runs (runF (sums K_chalf) L_ov 66) (contains_tpl.args [.i a0, .i a1, .i b0, .i b1, .i p0, .i p1]) (contains_tpl.memo [.i a0, .i a1, .i b0, .i b1, .i p0, .i p1] []) contains_tpl.n (SV.one (SC.bool (SB.v (contains_0 a0 a1 b0 b1 p0 p1))))
    ([]) :=
  Runs.of (ps := []) (by kernel_rfl) (by kernel_rfl) (by simp)
noncomputable def contains_out : List Pm → Lss → Option CRes
  | [.i a0, .i a1, .i b0, .i b1, .i p0, .i p1], [] => some ⟨SV.one (SC.bool (SB.v (contains_0 a0 a1 b0 b1 p0 p1))),
    [],
    [], [], 203⟩
  | _, _ => none
theorem contains_ok : FOk Try.prog 66 (tplS contains_tpl contains_out) := by
  refine tplS_ok (runF_ok known_chalf 66) fun ps ls r hr hn _ => ?_
  unfold contains_out at hr
  split at hr
  · cases hr; exact ⟨_, contains_runs _ _ _ _ _ _, fun _ => rfl⟩
  · cases hr
noncomputable def K_contains : List (Nat × Summ) := (66, tplS contains_tpl contains_out) :: K_chalf
theorem known_contains : Known Try.prog (sums K_contains) L_ov := known_cons known_chalf contains_ok
noncomputable def rhalf_tpl : Tpl := ⟨[.agg [.int .i64, .int .i64], .agg [.int .i64, .int .i64], .one (.int .i64)], [], 0⟩
noncomputable def rhalf_0 (a : Int) (b : Int) (c : Int) (d : Int) (e : Int) : Int :=
  bif decide (IntKind.i64.wrap (vcross_0 a b c d * e) > 0) || IntKind.i64.wrap (vcross_0 a b c d * e) == 0 && decide (vinner_0 a b c d > 0) then 0 else 1
set_option maxRecDepth 1000000 in
theorem rhalf_runs (a b c d e : Int) : Runs (runF (sums K_contains) L_ov 100) (rhalf_tpl.args [.i a, .i b, .i c, .i d, .i e]) (rhalf_tpl.memo [.i a, .i b, .i c, .i d, .i e] []) rhalf_tpl.n (SV.one (SC.int IntKind.i64 (SI.v (rhalf_0 a b c d e))))
    ([]) :=
  Runs.of (ps := []) (by kernel_rfl) (by kernel_rfl) (by simp)
noncomputable def rhalf_out : List Pm → Lss → Option CRes
  | [.i a, .i b, .i c, .i d, .i e], [] => some ⟨SV.one (SC.int IntKind.i64 (SI.v (rhalf_0 a b c d e))),
    [],
    [], [], 71⟩
  | _, _ => none
theorem rhalf_ok : FOk Try.prog 100 (tplS rhalf_tpl rhalf_out) := by
  refine tplS_ok (runF_ok known_contains 100) fun ps ls r hr hn _ => ?_
  unfold rhalf_out at hr
  split at hr
  · cases hr; exact ⟨_, rhalf_runs _ _ _ _ _, fun _ => rfl⟩
  · cases hr
noncomputable def K_rhalf : List (Nat × Summ) := (100, tplS rhalf_tpl rhalf_out) :: K_contains
theorem known_rhalf : Known Try.prog (sums K_rhalf) L_ov := known_cons known_contains rhalf_ok
noncomputable def insweep_tpl : Tpl := ⟨[.agg [.int .i64, .int .i64], .agg [.int .i64, .int .i64], .agg [.int .i64, .int .i64], .one (.int .i64), .one (.bool)], [], 0⟩
noncomputable def insweep_0 (a0 : Int) (a1 : Int) (b0 : Int) (b1 : Int) (p0 : Int) (p1 : Int) (d : Int) (f : Bool) : Bool :=
  f || bif rhalf_0 a0 a1 p0 p1 d != rhalf_0 a0 a1 b0 b1 d then decide (rhalf_0 a0 a1 p0 p1 d < rhalf_0 a0 a1 b0 b1 d) else decide (IntKind.i64.wrap (vcross_0 p0 p1 b0 b1 * d) ≥ 0)
set_option maxRecDepth 1000000 in
theorem insweep_runs (a0 a1 b0 b1 p0 p1 d : Int) (f : Bool) : Runs (runF (sums K_rhalf) L_ov 67) (insweep_tpl.args [.i a0, .i a1, .i b0, .i b1, .i p0, .i p1, .i d, .b f]) (insweep_tpl.memo [.i a0, .i a1, .i b0, .i b1, .i p0, .i p1, .i d, .b f] []) insweep_tpl.n (SV.one (SC.bool (SB.v (insweep_0 a0 a1 b0 b1 p0 p1 d f))))
    ([]) :=
  Runs.of (ps := []) (by kernel_rfl) (by kernel_rfl) (by simp)
noncomputable def insweep_out : List Pm → Lss → Option CRes
  | [.i a0, .i a1, .i b0, .i b1, .i p0, .i p1, .i d, .b f], [] => some ⟨SV.one (SC.bool (SB.v (insweep_0 a0 a1 b0 b1 p0 p1 d f))),
    [],
    [], [], 202⟩
  | _, _ => none
theorem insweep_ok : FOk Try.prog 67 (tplS insweep_tpl insweep_out) := by
  refine tplS_ok (runF_ok known_rhalf 67) fun ps ls r hr hn _ => ?_
  unfold insweep_out at hr
  split at hr
  · cases hr; exact ⟨_, insweep_runs _ _ _ _ _ _ _ _, fun _ => rfl⟩
  · cases hr
noncomputable def K_insweep : List (Nat × Summ) := (67, tplS insweep_tpl insweep_out) :: K_rhalf
theorem known_insweep : Known Try.prog (sums K_insweep) L_ov := known_cons known_rhalf insweep_ok
noncomputable def similar_tpl : Tpl := ⟨[.one (.int .i64), .one (.int .i64)], [], 0⟩
noncomputable def similar_s0 (a : Int) (b : Int) : Int :=
  IntKind.i64.wrap (IntKind.i64.wrap ((if b > a then b else a) - if b < a then b else a) - 16)
noncomputable def similar_s1 (a : Int) (b : Int) : Int :=
  wcmp_0 (similar_s0 a b) (similar_s0 a b) 64 (if b < a then b else a)
noncomputable def similar_0 (a : Int) (b : Int) : Bool :=
  decide (similar_s0 a b ≤ 0) || decide (similar_s1 a b ≤ 0)
set_option maxRecDepth 1000000 in
theorem similar_runs (a b : Int) : Runs (runF (sums K_insweep) L_ov 61) (similar_tpl.args [.i a, .i b]) (similar_tpl.memo [.i a, .i b] []) similar_tpl.n (SV.one (SC.bool (SB.v (similar_0 a b))))
    ([]) :=
  Runs.of (ps := []) (by kernel_rfl) (by kernel_rfl) (by simp)
noncomputable def similar_out : List Pm → Lss → Option CRes
  | [.i a, .i b], [] => some ⟨SV.one (SC.bool (SB.v (similar_0 a b))),
    [],
    [], [], 310⟩
  | _, _ => none
theorem similar_ok : FOk Try.prog 61 (tplS similar_tpl similar_out) := by
  refine tplS_ok (runF_ok known_insweep 61) fun ps ls r hr hn _ => ?_
  unfold similar_out at hr
  split at hr
  · cases hr; exact ⟨_, similar_runs _ _, fun _ => rfl⟩
  · cases hr
noncomputable def K_similar : List (Nat × Summ) := (61, tplS similar_tpl similar_out) :: K_insweep
theorem known_similar : Known Try.prog (sums K_similar) L_ov := known_cons known_insweep similar_ok
noncomputable def aligned_tpl : Tpl := ⟨[.agg [.int .i64, .int .i64], .agg [.int .i64, .int .i64]], [], 0⟩
noncomputable def aligned_0 (a : Int) (b : Int) (c : Int) (d : Int) : Bool :=
  vcross_0 a b c d == 0 && decide (vinner_0 a b c d > 0)
set_option maxRecDepth 1000000 in
theorem aligned_runs (a b c d : Int) : Runs (runF (sums K_similar) L_ov 62) (aligned_tpl.args [.i a, .i b, .i c, .i d]) (aligned_tpl.memo [.i a, .i b, .i c, .i d] []) aligned_tpl.n (SV.one (SC.bool (SB.v (aligned_0 a b c d))))
    ([]) :=
  Runs.of (ps := []) (by kernel_rfl) (by kernel_rfl) (by simp)
noncomputable def aligned_out : List Pm → Lss → Option CRes
  | [.i a, .i b, .i c, .i d], [] => some ⟨SV.one (SC.bool (SB.v (aligned_0 a b c d))),
    [],
    [], [], 62⟩
  | _, _ => none
theorem aligned_ok : FOk Try.prog 62 (tplS aligned_tpl aligned_out) := by
  refine tplS_ok (runF_ok known_similar 62) fun ps ls r hr hn _ => ?_
  unfold aligned_out at hr
  split at hr
  · cases hr; exact ⟨_, aligned_runs _ _ _ _, fun _ => rfl⟩
  · cases hr
noncomputable def K_aligned : List (Nat × Summ) := (62, tplS aligned_tpl aligned_out) :: K_similar
theorem known_aligned : Known Try.prog (sums K_aligned) L_ov := known_cons known_similar aligned_ok
noncomputable def fit_tpl : Tpl := ⟨[.agg [.int .i64, .int .i64], .agg [.int .i64, .int .i64], .one (.bool)], [], 0⟩
noncomputable def fit_s0 (a : Int) (b : Int) (c : Int) (d : Int) : Int :=
  bif decide (vinner_0 a b a b > vinner_0 c d c d) then vinner_0 c d c d else vinner_0 a b a b
noncomputable def fit_s1 (a : Int) (b : Int) (c : Int) (d : Int) : Int :=
  IntKind.i64.wrap (IntKind.i64.wrap ((bif decide (vinner_0 a b a b > vinner_0 c d c d) then vinner_0 a b a b else vinner_0 c d c d) - fit_s0 a b c d) - 16)
noncomputable def fit_0 (a : Int) (b : Int) (c : Int) (d : Int) (e : Bool) : Bool :=
  bif decide (fit_s0 a b c d < 64) then false
  else
    bif decide (fit_s1 a b c d > 0) && decide (rcmp_0 (fit_s1 a b c d) (fit_s1 a b c d) 64 (fit_s0 a b c d) > 0) then false
    else bif e then a == c && b == d else !(vcross_0 a b c d == 0 && decide (vinner_0 a b c d > 0))
noncomputable def fit_s2 (a : Int) (b : Int) (c : Int) (d : Int) : Prop :=
  decide (fit_s1 a b c d > 0) = true
noncomputable def fit_needs (a : Int) (b : Int) (c : Int) (d : Int) : List Prop :=
  [decide (fit_s0 a b c d < 64) = false →
      (fit_s2 a b c d → -9223372036854775808 ≤ fit_s1 a b c d ∧ fit_s1 a b c d < 9223372036854775808) ∧
        (fit_s2 a b c d → -9223372036854775808 ≤ fit_s1 a b c d ∧ fit_s1 a b c d < 9223372036854775808) ∧
          (fit_s2 a b c d → -9223372036854775808 ≤ 64 ∧ Int.ofNat 64 < 9223372036854775808) ∧ (fit_s2 a b c d → -9223372036854775808 ≤ fit_s0 a b c d ∧ fit_s0 a b c d < 9223372036854775808)]
theorem fit_need {a : Int} {b : Int} {c : Int} {d : Int} : ∀ q ∈ (fit_needs a b c d), q := by
  intro q hq
  unfold fit_needs at hq
  simp only [List.mem_cons, List.not_mem_nil, or_false] at hq
  subst hq
  intro _
  have h0 : isI (fit_s0 a b c d) := by
    unfold fit_s0
    cases decide (vinner_0 a b a b > vinner_0 c d c d)
    · exact wrap_isI _
    · exact wrap_isI _
  have h1 : isI (fit_s1 a b c d) := wrap_isI _
  exact ⟨fun _ => h1, fun _ => h1, fun _ => ⟨by decide, by decide⟩, fun _ => h0⟩
set_option maxRecDepth 1000000 in
theorem fit_runs (a b c d : Int) (e : Bool) (hNeeds : ∀ pN ∈ (fit_needs a b c d), pN) : Runs (runF (sums K_aligned) L_ov 63) (fit_tpl.args [.i a, .i b, .i c, .i d, .b e]) (fit_tpl.memo [.i a, .i b, .i c, .i d, .b e] []) fit_tpl.n (SV.one (SC.bool (SB.v (fit_0 a b c d e))))
    ([]) :=
  Runs.of (ps := (fit_needs a b c d)) (by kernel_rfl) (by kernel_rfl) hNeeds
noncomputable def fit_out : List Pm → Lss → Option CRes
  | [.i a, .i b, .i c, .i d, .b e], [] => some ⟨SV.one (SC.bool (SB.v (fit_0 a b c d e))),
    [],
    [], [], 539⟩
  | _, _ => none
theorem fit_ok : FOk Try.prog 63 (tplS fit_tpl fit_out) := by
  refine tplS_ok (runF_ok known_aligned 63) fun ps ls r hr hn _ => ?_
  unfold fit_out at hr
  split at hr
  · cases hr; exact ⟨_, fit_runs _ _ _ _ _ (fun p hp => fit_need p hp), fun _ => rfl⟩
  · cases hr
noncomputable def K_fit : List (Nat × Summ) := (63, tplS fit_tpl fit_out) :: K_aligned
theorem known_fit : Known Try.prog (sums K_fit) L_ov := known_cons known_aligned fit_ok
noncomputable def aspokes_tpl : Tpl := ⟨[.agg [.int .i64, .int .i64, .int .i64, .int .i64, .int .i64, .int .i64, .int .i64, .int .i64, .int .i64, .int .i64, .int .i64, .int .i64, .int .i64, .bool, .int .i64, .bool, .int .i64, .int .i64, .int .i64, .int .i64, .int .i64, .bool]], [], 0⟩
noncomputable def aspokes_0 (f0 : Int) (f1 : Int) (f2 : Int) (p : Int) (c0 : Int) (c1 : Int) (c2 : Int) : Int :=
  IntKind.i64.wrap (flat_0 p f0 f1 f2 - flat_0 p c0 c1 c2)
noncomputable def aspokes_1 (f0 : Int) (f1 : Int) (f2 : Int) (p : Int) (c0 : Int) (c1 : Int) (c2 : Int) : Int :=
  IntKind.i64.wrap (flat_1 p f0 f1 f2 - flat_1 p c0 c1 c2)
set_option maxRecDepth 1000000 in
theorem aspokes_runs (k bl f0 f1 f2 t0 t1 t2 p c0 c1 c2 d : Int) (fu : Bool) (fe : Int) (pr : Bool) (si ra be n sp : Int) (on : Bool) : Runs (runF (sums K_fit) L_ov 60) (aspokes_tpl.args [.i k, .i bl, .i f0, .i f1, .i f2, .i t0, .i t1, .i t2, .i p, .i c0, .i c1, .i c2, .i d, .b fu, .i fe, .b pr, .i si, .i ra, .i be, .i n, .i sp, .b on]) (aspokes_tpl.memo [.i k, .i bl, .i f0, .i f1, .i f2, .i t0, .i t1, .i t2, .i p, .i c0, .i c1, .i c2, .i d, .b fu, .i fe, .b pr, .i si, .i ra, .i be, .i n, .i sp, .b on] []) aspokes_tpl.n (SV.tup
    [(true, [SC.int IntKind.i64 (SI.v (aspokes_0 f0 f1 f2 p c0 c1 c2)), SC.int IntKind.i64 (SI.v (aspokes_1 f0 f1 f2 p c0 c1 c2))]),
      (true, [SC.int IntKind.i64 (SI.v (aspokes_0 t0 t1 t2 p c0 c1 c2)), SC.int IntKind.i64 (SI.v (aspokes_1 t0 t1 t2 p c0 c1 c2))])])
    ([]) :=
  Runs.of (ps := []) (by kernel_rfl) (by kernel_rfl) (by simp)
noncomputable def aspokes_out : List Pm → Lss → Option CRes
  | [.i k, .i bl, .i f0, .i f1, .i f2, .i t0, .i t1, .i t2, .i p, .i c0, .i c1, .i c2, .i d, .b fu, .i fe, .b pr, .i si, .i ra, .i be, .i n, .i sp, .b on], [] => some ⟨SV.tup
    [(true, [SC.int IntKind.i64 (SI.v (aspokes_0 f0 f1 f2 p c0 c1 c2)), SC.int IntKind.i64 (SI.v (aspokes_1 f0 f1 f2 p c0 c1 c2))]),
      (true, [SC.int IntKind.i64 (SI.v (aspokes_0 t0 t1 t2 p c0 c1 c2)), SC.int IntKind.i64 (SI.v (aspokes_1 t0 t1 t2 p c0 c1 c2))])],
    [],
    [], [], 312⟩
  | _, _ => none
theorem aspokes_ok : FOk Try.prog 60 (tplS aspokes_tpl aspokes_out) := by
  refine tplS_ok (runF_ok known_fit 60) fun ps ls r hr hn _ => ?_
  unfold aspokes_out at hr
  split at hr
  · cases hr; exact ⟨_, aspokes_runs _ _ _ _ _ _ _ _ _ _ _ _ _ _ _ _ _ _ _ _ _ _, fun _ => rfl⟩
  · cases hr
noncomputable def K_aspokes : List (Nat × Summ) := (60, tplS aspokes_tpl aspokes_out) :: K_fit
theorem known_aspokes : Known Try.prog (sums K_aspokes) L_ov := known_cons known_fit aspokes_ok
noncomputable def rspokes_tpl : Tpl := ⟨[.agg [.int .i64, .int .i64, .int .i64, .int .i64, .int .i64, .int .i64, .int .i64, .int .i64, .int .i64, .int .i64, .int .i64, .int .i64, .int .i64, .bool, .int .i64, .bool, .int .i64, .int .i64, .int .i64, .int .i64, .int .i64, .bool]], [], 0⟩
set_option maxRecDepth 1000000 in
theorem rspokes_runs (k bl f0 f1 f2 t0 t1 t2 p c0 c1 c2 d : Int) (fu : Bool) (fe : Int) (pr : Bool) (si ra be n sp : Int) (on : Bool) : Runs (runF (sums K_aspokes) L_ov 31) (rspokes_tpl.args [.i k, .i bl, .i f0, .i f1, .i f2, .i t0, .i t1, .i t2, .i p, .i c0, .i c1, .i c2, .i d, .b fu, .i fe, .b pr, .i si, .i ra, .i be, .i n, .i sp, .b on]) (rspokes_tpl.memo [.i k, .i bl, .i f0, .i f1, .i f2, .i t0, .i t1, .i t2, .i p, .i c0, .i c1, .i c2, .i d, .b fu, .i fe, .b pr, .i si, .i ra, .i be, .i n, .i sp, .b on] []) rspokes_tpl.n (SV.tup
    [(true, [SC.int IntKind.i64 (SI.v (minus_0 (flat_0 p f0 f1 f2) (flat_0 p c0 c1 c2))), SC.int IntKind.i64 (SI.v (minus_0 (flat_1 p f0 f1 f2) (flat_1 p c0 c1 c2)))]),
      (true, [SC.int IntKind.i64 (SI.v (minus_0 (flat_0 p t0 t1 t2) (flat_0 p c0 c1 c2))), SC.int IntKind.i64 (SI.v (minus_0 (flat_1 p t0 t1 t2) (flat_1 p c0 c1 c2)))])])
    ([]) :=
  Runs.of (ps := []) (by kernel_rfl) (by kernel_rfl) (by simp)
noncomputable def rspokes_out : List Pm → Lss → Option CRes
  | [.i k, .i bl, .i f0, .i f1, .i f2, .i t0, .i t1, .i t2, .i p, .i c0, .i c1, .i c2, .i d, .b fu, .i fe, .b pr, .i si, .i ra, .i be, .i n, .i sp, .b on], [] => some ⟨SV.tup
    [(true, [SC.int IntKind.i64 (SI.v (minus_0 (flat_0 p f0 f1 f2) (flat_0 p c0 c1 c2))), SC.int IntKind.i64 (SI.v (minus_0 (flat_1 p f0 f1 f2) (flat_1 p c0 c1 c2)))]),
      (true, [SC.int IntKind.i64 (SI.v (minus_0 (flat_0 p t0 t1 t2) (flat_0 p c0 c1 c2))), SC.int IntKind.i64 (SI.v (minus_0 (flat_1 p t0 t1 t2) (flat_1 p c0 c1 c2)))])],
    [],
    [], [], 401⟩
  | _, _ => none
theorem rspokes_ok : FOk Try.prog 31 (tplS rspokes_tpl rspokes_out) := by
  refine tplS_ok (runF_ok known_aspokes 31) fun ps ls r hr hn _ => ?_
  unfold rspokes_out at hr
  split at hr
  · cases hr; exact ⟨_, rspokes_runs _ _ _ _ _ _ _ _ _ _ _ _ _ _ _ _ _ _ _ _ _ _, fun _ => rfl⟩
  · cases hr
noncomputable def K_rspokes : List (Nat × Summ) := (31, tplS rspokes_tpl rspokes_out) :: K_aspokes
theorem known_rspokes : Known Try.prog (sums K_rspokes) L_ov := known_cons known_aspokes rspokes_ok
noncomputable def ainside_tpl : Tpl := ⟨[.agg [.int .i64, .int .i64, .int .i64, .int .i64, .int .i64, .int .i64, .int .i64, .int .i64, .int .i64, .int .i64, .int .i64, .int .i64, .int .i64, .bool, .int .i64, .bool, .int .i64, .int .i64, .int .i64, .int .i64, .int .i64, .bool], .agg [.int .i64, .int .i64]], [], 0⟩
noncomputable def ainside_0 (f0 : Int) (f1 : Int) (f2 : Int) (t0 : Int) (t1 : Int) (t2 : Int) (p : Int) (c0 : Int) (c1 : Int) (c2 : Int) (d : Int) (fu : Bool) (u : Int) (w : Int) : Bool :=
  fu ||
    contains_0 (bif decide (d < 0) then aspokes_0 t0 t1 t2 p c0 c1 c2 else aspokes_0 f0 f1 f2 p c0 c1 c2) (bif decide (d < 0) then aspokes_1 t0 t1 t2 p c0 c1 c2 else aspokes_1 f0 f1 f2 p c0 c1 c2)
      (bif decide (d < 0) then aspokes_0 f0 f1 f2 p c0 c1 c2 else aspokes_0 t0 t1 t2 p c0 c1 c2) (bif decide (d < 0) then aspokes_1 f0 f1 f2 p c0 c1 c2 else aspokes_1 t0 t1 t2 p c0 c1 c2) u w
set_option maxRecDepth 1000000 in
theorem ainside_runs (k bl f0 f1 f2 t0 t1 t2 p c0 c1 c2 d : Int) (fu : Bool) (fe : Int) (pr : Bool) (si ra be n sp : Int) (on : Bool) (u w : Int) : Runs (runF (sums K_rspokes) L_ov 29) (ainside_tpl.args [.i k, .i bl, .i f0, .i f1, .i f2, .i t0, .i t1, .i t2, .i p, .i c0, .i c1, .i c2, .i d, .b fu, .i fe, .b pr, .i si, .i ra, .i be, .i n, .i sp, .b on, .i u, .i w]) (ainside_tpl.memo [.i k, .i bl, .i f0, .i f1, .i f2, .i t0, .i t1, .i t2, .i p, .i c0, .i c1, .i c2, .i d, .b fu, .i fe, .b pr, .i si, .i ra, .i be, .i n, .i sp, .b on, .i u, .i w] []) ainside_tpl.n (SV.one (SC.bool (SB.v (ainside_0 f0 f1 f2 t0 t1 t2 p c0 c1 c2 d fu u w))))
    ([]) :=
  Runs.of (ps := []) (by kernel_rfl) (by kernel_rfl) (by simp)
noncomputable def ainside_out : List Pm → Lss → Option CRes
  | [.i k, .i bl, .i f0, .i f1, .i f2, .i t0, .i t1, .i t2, .i p, .i c0, .i c1, .i c2, .i d, .b fu, .i fe, .b pr, .i si, .i ra, .i be, .i n, .i sp, .b on, .i u, .i w], [] => some ⟨SV.one (SC.bool (SB.v (ainside_0 f0 f1 f2 t0 t1 t2 p c0 c1 c2 d fu u w))),
    [],
    [], [], 587⟩
  | _, _ => none
theorem ainside_ok : FOk Try.prog 29 (tplS ainside_tpl ainside_out) := by
  refine tplS_ok (runF_ok known_rspokes 29) fun ps ls r hr hn _ => ?_
  unfold ainside_out at hr
  split at hr
  · cases hr; exact ⟨_, ainside_runs _ _ _ _ _ _ _ _ _ _ _ _ _ _ _ _ _ _ _ _ _ _ _ _, fun _ => rfl⟩
  · cases hr
noncomputable def K_ainside : List (Nat × Summ) := (29, tplS ainside_tpl ainside_out) :: K_rspokes
theorem known_ainside : Known Try.prog (sums K_ainside) L_ov := known_cons known_rspokes ainside_ok
noncomputable def rinside_tpl : Tpl := ⟨[.agg [.int .i64, .int .i64, .int .i64, .int .i64, .int .i64, .int .i64, .int .i64, .int .i64, .int .i64, .int .i64, .int .i64, .int .i64, .int .i64, .bool, .int .i64, .bool, .int .i64, .int .i64, .int .i64, .int .i64, .int .i64, .bool], .agg [.int .i64, .int .i64]], [], 0⟩
noncomputable def rinside_0 (f0 : Int) (f1 : Int) (f2 : Int) (t0 : Int) (t1 : Int) (t2 : Int) (p : Int) (c0 : Int) (c1 : Int) (c2 : Int) (d : Int) (fu : Bool) (u : Int) (w : Int) : Bool :=
  insweep_0 (minus_0 (flat_0 p f0 f1 f2) (flat_0 p c0 c1 c2)) (minus_0 (flat_1 p f0 f1 f2) (flat_1 p c0 c1 c2)) (minus_0 (flat_0 p t0 t1 t2) (flat_0 p c0 c1 c2))
    (minus_0 (flat_1 p t0 t1 t2) (flat_1 p c0 c1 c2)) u w d fu
set_option maxRecDepth 1000000 in
theorem rinside_runs (k bl f0 f1 f2 t0 t1 t2 p c0 c1 c2 d : Int) (fu : Bool) (fe : Int) (pr : Bool) (si ra be n sp : Int) (on : Bool) (u w : Int) : Runs (runF (sums K_ainside) L_ov 32) (rinside_tpl.args [.i k, .i bl, .i f0, .i f1, .i f2, .i t0, .i t1, .i t2, .i p, .i c0, .i c1, .i c2, .i d, .b fu, .i fe, .b pr, .i si, .i ra, .i be, .i n, .i sp, .b on, .i u, .i w]) (rinside_tpl.memo [.i k, .i bl, .i f0, .i f1, .i f2, .i t0, .i t1, .i t2, .i p, .i c0, .i c1, .i c2, .i d, .b fu, .i fe, .b pr, .i si, .i ra, .i be, .i n, .i sp, .b on, .i u, .i w] []) rinside_tpl.n (SV.one (SC.bool (SB.v (rinside_0 f0 f1 f2 t0 t1 t2 p c0 c1 c2 d fu u w))))
    ([]) :=
  Runs.of (ps := []) (by kernel_rfl) (by kernel_rfl) (by simp)
noncomputable def rinside_out : List Pm → Lss → Option CRes
  | [.i k, .i bl, .i f0, .i f1, .i f2, .i t0, .i t1, .i t2, .i p, .i c0, .i c1, .i c2, .i d, .b fu, .i fe, .b pr, .i si, .i ra, .i be, .i n, .i sp, .b on, .i u, .i w], [] => some ⟨SV.one (SC.bool (SB.v (rinside_0 f0 f1 f2 t0 t1 t2 p c0 c1 c2 d fu u w))),
    [],
    [], [], 660⟩
  | _, _ => none
theorem rinside_ok : FOk Try.prog 32 (tplS rinside_tpl rinside_out) := by
  refine tplS_ok (runF_ok known_ainside 32) fun ps ls r hr hn _ => ?_
  unfold rinside_out at hr
  split at hr
  · cases hr; exact ⟨_, rinside_runs _ _ _ _ _ _ _ _ _ _ _ _ _ _ _ _ _ _ _ _ _ _ _ _, fun _ => rfl⟩
  · cases hr
noncomputable def K_rinside : List (Nat × Summ) := (32, tplS rinside_tpl rinside_out) :: K_ainside
theorem known_rinside : Known Try.prog (sums K_rinside) L_ov := known_cons known_ainside rinside_ok
noncomputable def atang_tpl : Tpl := ⟨[.agg [.int .i64, .int .i64, .int .i64, .int .i64, .int .i64, .int .i64, .int .i64, .int .i64, .int .i64, .int .i64, .int .i64, .int .i64, .int .i64, .bool, .int .i64, .bool, .int .i64, .int .i64, .int .i64, .int .i64, .int .i64, .bool], .one (.bool)], [], 0⟩
noncomputable def atang_s0 (f0 : Int) (f1 : Int) (f2 : Int) (t0 : Int) (t1 : Int) (t2 : Int) (p : Int) (c0 : Int) (c1 : Int) (c2 : Int) (e : Bool) : Int :=
  bif e then aspokes_1 t0 t1 t2 p c0 c1 c2 else aspokes_1 f0 f1 f2 p c0 c1 c2
noncomputable def atang_0 (k : Int) (f0 : Int) (f1 : Int) (f2 : Int) (t0 : Int) (t1 : Int) (t2 : Int) (p : Int) (c0 : Int) (c1 : Int) (c2 : Int) (d : Int) (e : Bool) : Int :=
  bif k != 3 then IntKind.i64.wrap (flat_0 p t0 t1 t2 - flat_0 p f0 f1 f2)
  else bif decide (d < 0) then atang_s0 f0 f1 f2 t0 t1 t2 p c0 c1 c2 e else IntKind.i64.wrap (0 - atang_s0 f0 f1 f2 t0 t1 t2 p c0 c1 c2 e)
noncomputable def atang_s1 (f0 : Int) (f1 : Int) (f2 : Int) (t0 : Int) (t1 : Int) (t2 : Int) (p : Int) (c0 : Int) (c1 : Int) (c2 : Int) (e : Bool) : Int :=
  bif e then aspokes_0 t0 t1 t2 p c0 c1 c2 else aspokes_0 f0 f1 f2 p c0 c1 c2
noncomputable def atang_1 (k : Int) (f0 : Int) (f1 : Int) (f2 : Int) (t0 : Int) (t1 : Int) (t2 : Int) (p : Int) (c0 : Int) (c1 : Int) (c2 : Int) (d : Int) (e : Bool) : Int :=
  bif k != 3 then IntKind.i64.wrap (flat_1 p t0 t1 t2 - flat_1 p f0 f1 f2)
  else bif decide (d < 0) then IntKind.i64.wrap (0 - atang_s1 f0 f1 f2 t0 t1 t2 p c0 c1 c2 e) else atang_s1 f0 f1 f2 t0 t1 t2 p c0 c1 c2 e
set_option maxRecDepth 1000000 in
theorem atang_runs (k bl f0 f1 f2 t0 t1 t2 p c0 c1 c2 d : Int) (fu : Bool) (fe : Int) (pr : Bool) (si ra be n sp : Int) (on e : Bool) : Runs (runF (sums K_rinside) L_ov 34) (atang_tpl.args [.i k, .i bl, .i f0, .i f1, .i f2, .i t0, .i t1, .i t2, .i p, .i c0, .i c1, .i c2, .i d, .b fu, .i fe, .b pr, .i si, .i ra, .i be, .i n, .i sp, .b on, .b e]) (atang_tpl.memo [.i k, .i bl, .i f0, .i f1, .i f2, .i t0, .i t1, .i t2, .i p, .i c0, .i c1, .i c2, .i d, .b fu, .i fe, .b pr, .i si, .i ra, .i be, .i n, .i sp, .b on, .b e] []) atang_tpl.n (SV.agg [SC.int IntKind.i64 (SI.v (atang_0 k f0 f1 f2 t0 t1 t2 p c0 c1 c2 d e)), SC.int IntKind.i64 (SI.v (atang_1 k f0 f1 f2 t0 t1 t2 p c0 c1 c2 d e))])
    ([]) :=
  Runs.of (ps := []) (by kernel_rfl) (by kernel_rfl) (by simp)
noncomputable def atang_out : List Pm → Lss → Option CRes
  | [.i k, .i bl, .i f0, .i f1, .i f2, .i t0, .i t1, .i t2, .i p, .i c0, .i c1, .i c2, .i d, .b fu, .i fe, .b pr, .i si, .i ra, .i be, .i n, .i sp, .b on, .b e], [] => some ⟨SV.agg [SC.int IntKind.i64 (SI.v (atang_0 k f0 f1 f2 t0 t1 t2 p c0 c1 c2 d e)), SC.int IntKind.i64 (SI.v (atang_1 k f0 f1 f2 t0 t1 t2 p c0 c1 c2 d e))],
    [],
    [], [], 576⟩
  | _, _ => none
theorem atang_ok : FOk Try.prog 34 (tplS atang_tpl atang_out) := by
  refine tplS_ok (runF_ok known_rinside 34) fun ps ls r hr hn _ => ?_
  unfold atang_out at hr
  split at hr
  · cases hr; exact ⟨_, atang_runs _ _ _ _ _ _ _ _ _ _ _ _ _ _ _ _ _ _ _ _ _ _ _, fun _ => rfl⟩
  · cases hr
noncomputable def K_atang : List (Nat × Summ) := (34, tplS atang_tpl atang_out) :: K_rinside
theorem known_atang : Known Try.prog (sums K_atang) L_ov := known_cons known_rinside atang_ok
noncomputable def rtang_tpl : Tpl := ⟨[.agg [.int .i64, .int .i64, .int .i64, .int .i64, .int .i64, .int .i64, .int .i64, .int .i64, .int .i64, .int .i64, .int .i64, .int .i64, .int .i64, .bool, .int .i64, .bool, .int .i64, .int .i64, .int .i64, .int .i64, .int .i64, .bool], .one (.bool)], [], 0⟩
noncomputable def rtang_0 (k : Int) (f0 : Int) (f1 : Int) (f2 : Int) (t0 : Int) (t1 : Int) (t2 : Int) (p : Int) (c0 : Int) (c1 : Int) (c2 : Int) (d : Int) (e : Bool) : Int :=
  bif k != 3 then minus_0 (flat_0 p t0 t1 t2) (flat_0 p f0 f1 f2)
  else IntKind.i64.wrap (IntKind.i64.wrap (0 - bif e then minus_0 (flat_1 p t0 t1 t2) (flat_1 p c0 c1 c2) else minus_0 (flat_1 p f0 f1 f2) (flat_1 p c0 c1 c2)) * d)
noncomputable def rtang_1 (k : Int) (f0 : Int) (f1 : Int) (f2 : Int) (t0 : Int) (t1 : Int) (t2 : Int) (p : Int) (c0 : Int) (c1 : Int) (c2 : Int) (d : Int) (e : Bool) : Int :=
  bif k != 3 then minus_0 (flat_1 p t0 t1 t2) (flat_1 p f0 f1 f2)
  else IntKind.i64.wrap ((bif e then minus_0 (flat_0 p t0 t1 t2) (flat_0 p c0 c1 c2) else minus_0 (flat_0 p f0 f1 f2) (flat_0 p c0 c1 c2)) * d)
set_option maxRecDepth 1000000 in
theorem rtang_runs (k bl f0 f1 f2 t0 t1 t2 p c0 c1 c2 d : Int) (fu : Bool) (fe : Int) (pr : Bool) (si ra be n sp : Int) (on e : Bool) : Runs (runF (sums K_atang) L_ov 41) (rtang_tpl.args [.i k, .i bl, .i f0, .i f1, .i f2, .i t0, .i t1, .i t2, .i p, .i c0, .i c1, .i c2, .i d, .b fu, .i fe, .b pr, .i si, .i ra, .i be, .i n, .i sp, .b on, .b e]) (rtang_tpl.memo [.i k, .i bl, .i f0, .i f1, .i f2, .i t0, .i t1, .i t2, .i p, .i c0, .i c1, .i c2, .i d, .b fu, .i fe, .b pr, .i si, .i ra, .i be, .i n, .i sp, .b on, .b e] []) rtang_tpl.n (SV.agg [SC.int IntKind.i64 (SI.v (rtang_0 k f0 f1 f2 t0 t1 t2 p c0 c1 c2 d e)), SC.int IntKind.i64 (SI.v (rtang_1 k f0 f1 f2 t0 t1 t2 p c0 c1 c2 d e))])
    ([]) :=
  Runs.of (ps := []) (by kernel_rfl) (by kernel_rfl) (by simp)
noncomputable def rtang_out : List Pm → Lss → Option CRes
  | [.i k, .i bl, .i f0, .i f1, .i f2, .i t0, .i t1, .i t2, .i p, .i c0, .i c1, .i c2, .i d, .b fu, .i fe, .b pr, .i si, .i ra, .i be, .i n, .i sp, .b on, .b e], [] => some ⟨SV.agg [SC.int IntKind.i64 (SI.v (rtang_0 k f0 f1 f2 t0 t1 t2 p c0 c1 c2 d e)), SC.int IntKind.i64 (SI.v (rtang_1 k f0 f1 f2 t0 t1 t2 p c0 c1 c2 d e))],
    [],
    [], [], 705⟩
  | _, _ => none
theorem rtang_ok : FOk Try.prog 41 (tplS rtang_tpl rtang_out) := by
  refine tplS_ok (runF_ok known_atang 41) fun ps ls r hr hn _ => ?_
  unfold rtang_out at hr
  split at hr
  · cases hr; exact ⟨_, rtang_runs _ _ _ _ _ _ _ _ _ _ _ _ _ _ _ _ _ _ _ _ _ _ _, fun _ => rfl⟩
  · cases hr
noncomputable def K_rtang : List (Nat × Summ) := (41, tplS rtang_tpl rtang_out) :: K_atang
theorem known_rtang : Known Try.prog (sums K_rtang) L_ov := known_cons known_atang rtang_ok
end Go.Proofs.Ytkggdhnliiagjaa
