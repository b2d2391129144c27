/-
  VECTORS, PLANES AND CHECK, in the program and in the reference: what they return. Conditions: none.
-/
import Derived.Test.YtgimheibnpgphaaBase
set_option linter.all false
namespace Go.Proofs.Ytgimheibnpgphaa
open Go.SX Go.RowKit
noncomputable def mod_tpl : Tpl := ⟨[.one (.int .i64), .one (.int .i64)], [], 0⟩
noncomputable def mod_0 (a : Int) (b : Int) : Int :=
  bif decide (a.tmod b < 0) then IntKind.i64.wrap (a.tmod b + b) else a.tmod b
noncomputable def mod_needs (b : Int) : List Prop :=
  [b ≠ 0]
set_option maxRecDepth 1000000 in
theorem mod_runs (a b : Int) (hNeeds : ∀ pN ∈ (mod_needs b), pN) : Runs (runF (sums K0) L0 15) (mod_tpl.args [.i a, .i b]) (mod_tpl.memo [.i a, .i b] []) mod_tpl.n (SV.one (SC.int IntKind.i64 (SI.v (mod_0 a b))))
    ([]) :=
  Runs.of (ps := (mod_needs b)) (by kernel_rfl) (by kernel_rfl) hNeeds
noncomputable def mod_out : List Pm → Lss → Option CRes
  | [.i a, .i b], [] => some ⟨SV.one (SC.int IntKind.i64 (SI.v (mod_0 a b))),
    [],
    (mod_needs b), [], 14⟩
  | _, _ => none
theorem mod_ok : FOk Try.prog 15 (tplS mod_tpl mod_out) := by
  refine tplS_ok (runF_ok known0 15) fun ps ls r hr hn _ => ?_
  unfold mod_out at hr
  split at hr
  · cases hr; exact ⟨_, mod_runs _ _ hn, fun _ => rfl⟩
  · cases hr
noncomputable def K_mod : List (Nat × Summ) := (15, tplS mod_tpl mod_out) :: K0
theorem known_mod : Known Try.prog (sums K_mod) L0 := known_cons known0 mod_ok
noncomputable def flat_tpl : Tpl := ⟨[.one (.int .i64), .agg [.int .i64, .int .i64, .int .i64]], [], 0⟩
noncomputable def flat_0 (p : Int) (x : Int) (y : Int) (z : Int) : Int :=
  bif p == 17 then x else bif p == 18 then z else bif p == 19 then y else 0
noncomputable def flat_1 (p : Int) (x : Int) (y : Int) (z : Int) : Int :=
  bif p == 17 then y else bif p == 18 then x else bif p == 19 then z else 0
noncomputable def flat_2 (p : Int) (x : Int) (y : Int) (z : Int) : Int :=
  bif p == 17 then z else bif p == 18 then y else bif p == 19 then x else 0
noncomputable def flat_3 (p : Int) : Bool :=
  p == 17 || (p == 18 || p == 19)
set_option maxRecDepth 1000000 in
theorem flat_runs (p x y z : Int) : Runs (runF (sums K_mod) L0 26) (flat_tpl.args [.i p, .i x, .i y, .i z]) (flat_tpl.memo [.i p, .i x, .i y, .i z] []) flat_tpl.n (SV.tup [(true, [SC.int IntKind.i64 (SI.v (flat_0 p x y z)), SC.int IntKind.i64 (SI.v (flat_1 p x y z))]), (false, [SC.int IntKind.i64 (SI.v (flat_2 p x y z))]), (false, [SC.bool (SB.v (flat_3 p))])])
    ([]) :=
  Runs.of (ps := []) (by kernel_rfl) (by kernel_rfl) (by simp)
noncomputable def flat_out : List Pm → Lss → Option CRes
  | [.i p, .i x, .i y, .i z], [] => some ⟨SV.tup [(true, [SC.int IntKind.i64 (SI.v (flat_0 p x y z)), SC.int IntKind.i64 (SI.v (flat_1 p x y z))]), (false, [SC.int IntKind.i64 (SI.v (flat_2 p x y z))]), (false, [SC.bool (SB.v (flat_3 p))])],
    [],
    [], [], 66⟩
  | _, _ => none
theorem flat_ok : FOk Try.prog 26 (tplS flat_tpl flat_out) := by
  refine tplS_ok (runF_ok known_mod 26) fun ps ls r hr hn _ => ?_
  unfold flat_out at hr
  split at hr
  · cases hr; exact ⟨_, flat_runs _ _ _ _, fun _ => rfl⟩
  · cases hr
noncomputable def K_flat : List (Nat × Summ) := (26, tplS flat_tpl flat_out) :: K_mod
theorem known_flat : Known Try.prog (sums K_flat) L0 := known_cons known_mod flat_ok
noncomputable def solid_tpl : Tpl := ⟨[.one (.int .i64), .agg [.int .i64, .int .i64], .one (.int .i64)], [], 0⟩
noncomputable def solid_0 (p : Int) (u : Int) (w : Int) (h : Int) : Int :=
  bif p == 17 then u else bif p == 18 then w else bif p == 19 then h else 0
noncomputable def solid_1 (p : Int) (u : Int) (w : Int) (h : Int) : Int :=
  bif p == 17 then w else bif p == 18 then h else bif p == 19 then u else 0
noncomputable def solid_2 (p : Int) (u : Int) (w : Int) (h : Int) : Int :=
  bif p == 17 then h else bif p == 18 then u else bif p == 19 then w else 0
set_option maxRecDepth 1000000 in
theorem solid_runs (p u w h : Int) : Runs (runF (sums K_flat) L0 51) (solid_tpl.args [.i p, .i u, .i w, .i h]) (solid_tpl.memo [.i p, .i u, .i w, .i h] []) solid_tpl.n (SV.tup [(true, [SC.int IntKind.i64 (SI.v (solid_0 p u w h)), SC.int IntKind.i64 (SI.v (solid_1 p u w h)), SC.int IntKind.i64 (SI.v (solid_2 p u w h))]), (false, [SC.bool (SB.v (flat_3 p))])])
    ([]) :=
  Runs.of (ps := []) (by kernel_rfl) (by kernel_rfl) (by simp)
noncomputable def solid_out : List Pm → Lss → Option CRes
  | [.i p, .i u, .i w, .i h], [] => some ⟨SV.tup [(true, [SC.int IntKind.i64 (SI.v (solid_0 p u w h)), SC.int IntKind.i64 (SI.v (solid_1 p u w h)), SC.int IntKind.i64 (SI.v (solid_2 p u w h))]), (false, [SC.bool (SB.v (flat_3 p))])],
    [],
    [], [], 65⟩
  | _, _ => none
theorem solid_ok : FOk Try.prog 51 (tplS solid_tpl solid_out) := by
  refine tplS_ok (runF_ok known_flat 51) fun ps ls r hr hn _ => ?_
  unfold solid_out at hr
  split at hr
  · cases hr; exact ⟨_, solid_runs _ _ _ _, fun _ => rfl⟩
  · cases hr
noncomputable def K_solid : List (Nat × Summ) := (51, tplS solid_tpl solid_out) :: K_flat
theorem known_solid : Known Try.prog (sums K_solid) L0 := known_cons known_flat solid_ok
noncomputable def rflat_tpl : Tpl := ⟨[.one (.int .i64), .agg [.int .i64, .int .i64, .int .i64]], [], 0⟩
set_option maxRecDepth 1000000 in
theorem rflat_runs (p x y z : Int) : Runs (runF (sums K_solid) L0 41) (rflat_tpl.args [.i p, .i x, .i y, .i z]) (rflat_tpl.memo [.i p, .i x, .i y, .i z] []) rflat_tpl.n (SV.tup
    [(true, [SC.int IntKind.i64 (SI.v (flat_0 p x y z)), SC.int IntKind.i64 (SI.v (flat_1 p x y z))]), (false, [SC.int IntKind.i64 (SI.v (flat_2 p x y z))]), (false, [SC.bool (SB.v (flat_3 p))])])
    ([]) :=
  Runs.of (ps := []) (by kernel_rfl) (by kernel_rfl) (by simp)
noncomputable def rflat_out : List Pm → Lss → Option CRes
  | [.i p, .i x, .i y, .i z], [] => some ⟨SV.tup
    [(true, [SC.int IntKind.i64 (SI.v (flat_0 p x y z)), SC.int IntKind.i64 (SI.v (flat_1 p x y z))]), (false, [SC.int IntKind.i64 (SI.v (flat_2 p x y z))]), (false, [SC.bool (SB.v (flat_3 p))])],
    [],
    [], [], 66⟩
  | _, _ => none
theorem rflat_ok : FOk Try.prog 41 (tplS rflat_tpl rflat_out) := by
  refine tplS_ok (runF_ok known_solid 41) fun ps ls r hr hn _ => ?_
  unfold rflat_out at hr
  split at hr
  · cases hr; exact ⟨_, rflat_runs _ _ _ _, fun _ => rfl⟩
  · cases hr
noncomputable def K_rflat : List (Nat × Summ) := (41, tplS rflat_tpl rflat_out) :: K_solid
theorem known_rflat : Known Try.prog (sums K_rflat) L0 := known_cons known_solid rflat_ok
noncomputable def rsolid_tpl : Tpl := ⟨[.one (.int .i64), .agg [.int .i64, .int .i64], .one (.int .i64)], [], 0⟩
set_option maxRecDepth 1000000 in
theorem rsolid_runs (p u w h : Int) : Runs (runF (sums K_rflat) L0 42) (rsolid_tpl.args [.i p, .i u, .i w, .i h]) (rsolid_tpl.memo [.i p, .i u, .i w, .i h] []) rsolid_tpl.n (SV.tup [(true, [SC.int IntKind.i64 (SI.v (solid_0 p u w h)), SC.int IntKind.i64 (SI.v (solid_1 p u w h)), SC.int IntKind.i64 (SI.v (solid_2 p u w h))]), (false, [SC.bool (SB.v (flat_3 p))])])
    ([]) :=
  Runs.of (ps := []) (by kernel_rfl) (by kernel_rfl) (by simp)
noncomputable def rsolid_out : List Pm → Lss → Option CRes
  | [.i p, .i u, .i w, .i h], [] => some ⟨SV.tup [(true, [SC.int IntKind.i64 (SI.v (solid_0 p u w h)), SC.int IntKind.i64 (SI.v (solid_1 p u w h)), SC.int IntKind.i64 (SI.v (solid_2 p u w h))]), (false, [SC.bool (SB.v (flat_3 p))])],
    [],
    [], [], 65⟩
  | _, _ => none
theorem rsolid_ok : FOk Try.prog 42 (tplS rsolid_tpl rsolid_out) := by
  refine tplS_ok (runF_ok known_rflat 42) fun ps ls r hr hn _ => ?_
  unfold rsolid_out at hr
  split at hr
  · cases hr; exact ⟨_, rsolid_runs _ _ _ _, fun _ => rfl⟩
  · cases hr
noncomputable def K_rsolid : List (Nat × Summ) := (42, tplS rsolid_tpl rsolid_out) :: K_rflat
theorem known_rsolid : Known Try.prog (sums K_rsolid) L0 := known_cons known_rflat rsolid_ok
noncomputable def within_tpl : Tpl := ⟨[.agg [.int .i64, .int .i64, .int .i64]], [], 0⟩
noncomputable def within_0 (x : Int) (y : Int) (z : Int) : Bool :=
  decide (x ≥ -1048576) && decide (x ≤ 1048576) && (decide (y ≥ -1048576) && decide (y ≤ 1048576)) && (decide (z ≥ -1048576) && decide (z ≤ 1048576))
set_option maxRecDepth 1000000 in
theorem within_runs (x y z : Int) : Runs (runF (sums K_rsolid) L0 28) (within_tpl.args [.i x, .i y, .i z]) (within_tpl.memo [.i x, .i y, .i z] []) within_tpl.n (SV.one (SC.bool (SB.v (within_0 x y z))))
    ([]) :=
  Runs.of (ps := []) (by kernel_rfl) (by kernel_rfl) (by simp)
noncomputable def within_out : List Pm → Lss → Option CRes
  | [.i x, .i y, .i z], [] => some ⟨SV.one (SC.bool (SB.v (within_0 x y z))),
    [],
    [], [], 44⟩
  | _, _ => none
theorem within_ok : FOk Try.prog 28 (tplS within_tpl within_out) := by
  refine tplS_ok (runF_ok known_rsolid 28) fun ps ls r hr hn _ => ?_
  unfold within_out at hr
  split at hr
  · cases hr; exact ⟨_, within_runs _ _ _, fun _ => rfl⟩
  · cases hr
noncomputable def K_within : List (Nat × Summ) := (28, tplS within_tpl within_out) :: K_rsolid
theorem known_within : Known Try.prog (sums K_within) L0 := known_cons known_rsolid within_ok
noncomputable def rwithin_tpl : Tpl := ⟨[.agg [.int .i64, .int .i64, .int .i64]], [], 0⟩
set_option maxRecDepth 1000000 in
theorem rwithin_runs (x y z : Int) : Runs (runF (sums K_within) L0 49) (rwithin_tpl.args [.i x, .i y, .i z]) (rwithin_tpl.memo [.i x, .i y, .i z] []) rwithin_tpl.n (SV.one (SC.bool (SB.v (within_0 x y z))))
    ([]) :=
  Runs.of (ps := []) (by kernel_rfl) (by kernel_rfl) (by simp)
noncomputable def rwithin_out : List Pm → Lss → Option CRes
  | [.i x, .i y, .i z], [] => some ⟨SV.one (SC.bool (SB.v (within_0 x y z))),
    [],
    [], [], 53⟩
  | _, _ => none
theorem rwithin_ok : FOk Try.prog 49 (tplS rwithin_tpl rwithin_out) := by
  refine tplS_ok (runF_ok known_within 49) fun ps ls r hr hn _ => ?_
  unfold rwithin_out at hr
  split at hr
  · cases hr; exact ⟨_, rwithin_runs _ _ _, fun _ => rfl⟩
  · cases hr
noncomputable def K_rwithin : List (Nat × Summ) := (49, tplS rwithin_tpl rwithin_out) :: K_within
theorem known_rwithin : Known Try.prog (sums K_rwithin) L0 := known_cons known_within rwithin_ok
noncomputable def rplane_tpl : Tpl := ⟨[.one (.int .i64)], [], 0⟩
noncomputable def rplane_0 (p : Int) : Bool :=
  p == 17 || p == 18 || p == 19
set_option maxRecDepth 1000000 in
theorem rplane_runs (p : Int) : Runs (runF (sums K_rwithin) L0 48) (rplane_tpl.args [.i p]) (rplane_tpl.memo [.i p] []) rplane_tpl.n (SV.one (SC.bool (SB.v (rplane_0 p))))
    ([]) :=
  Runs.of (ps := []) (by kernel_rfl) (by kernel_rfl) (by simp)
noncomputable def rplane_out : List Pm → Lss → Option CRes
  | [.i p], [] => some ⟨SV.one (SC.bool (SB.v (rplane_0 p))),
    [],
    [], [], 12⟩
  | _, _ => none
theorem rplane_ok : FOk Try.prog 48 (tplS rplane_tpl rplane_out) := by
  refine tplS_ok (runF_ok known_rwithin 48) fun ps ls r hr hn _ => ?_
  unfold rplane_out at hr
  split at hr
  · cases hr; exact ⟨_, rplane_runs _, fun _ => rfl⟩
  · cases hr
noncomputable def K_rplane : List (Nat × Summ) := (48, tplS rplane_tpl rplane_out) :: K_rwithin
theorem known_rplane : Known Try.prog (sums K_rplane) L0 := known_cons known_rwithin rplane_ok
noncomputable def rpt_tpl : Tpl := ⟨[.one (.int .i64), .agg [.int .i64, .int .i64, .int .i64]], [], 0⟩
set_option maxRecDepth 1000000 in
theorem rpt_runs (p x y z : Int) : Runs (runF (sums K_rplane) L0 18) (rpt_tpl.args [.i p, .i x, .i y, .i z]) (rpt_tpl.memo [.i p, .i x, .i y, .i z] []) rpt_tpl.n (SV.agg [SC.int IntKind.i64 (SI.v (flat_0 p x y z)), SC.int IntKind.i64 (SI.v (flat_1 p x y z))])
    ([]) :=
  Runs.of (ps := []) (by kernel_rfl) (by kernel_rfl) (by simp)
noncomputable def rpt_out : List Pm → Lss → Option CRes
  | [.i p, .i x, .i y, .i z], [] => some ⟨SV.agg [SC.int IntKind.i64 (SI.v (flat_0 p x y z)), SC.int IntKind.i64 (SI.v (flat_1 p x y z))],
    [],
    [], [], 95⟩
  | _, _ => none
theorem rpt_ok : FOk Try.prog 18 (tplS rpt_tpl rpt_out) := by
  refine tplS_ok (runF_ok known_rplane 18) fun ps ls r hr hn _ => ?_
  unfold rpt_out at hr
  split at hr
  · cases hr; exact ⟨_, rpt_runs _ _ _ _, fun _ => rfl⟩
  · cases hr
noncomputable def K_rpt : List (Nat × Summ) := (18, tplS rpt_tpl rpt_out) :: K_rplane
theorem known_rpt : Known Try.prog (sums K_rpt) L0 := known_cons known_rplane rpt_ok
noncomputable def rheight_tpl : Tpl := ⟨[.one (.int .i64), .agg [.int .i64, .int .i64, .int .i64]], [], 0⟩
set_option maxRecDepth 1000000 in
theorem rheight_runs (p x y z : Int) : Runs (runF (sums K_rpt) L0 19) (rheight_tpl.args [.i p, .i x, .i y, .i z]) (rheight_tpl.memo [.i p, .i x, .i y, .i z] []) rheight_tpl.n (SV.one (SC.int IntKind.i64 (SI.v (flat_2 p x y z))))
    ([]) :=
  Runs.of (ps := []) (by kernel_rfl) (by kernel_rfl) (by simp)
noncomputable def rheight_out : List Pm → Lss → Option CRes
  | [.i p, .i x, .i y, .i z], [] => some ⟨SV.one (SC.int IntKind.i64 (SI.v (flat_2 p x y z))),
    [],
    [], [], 90⟩
  | _, _ => none
theorem rheight_ok : FOk Try.prog 19 (tplS rheight_tpl rheight_out) := by
  refine tplS_ok (runF_ok known_rpt 19) fun ps ls r hr hn _ => ?_
  unfold rheight_out at hr
  split at hr
  · cases hr; exact ⟨_, rheight_runs _ _ _ _, fun _ => rfl⟩
  · cases hr
noncomputable def K_rheight : List (Nat × Summ) := (19, tplS rheight_tpl rheight_out) :: K_rpt
theorem known_rheight : Known Try.prog (sums K_rheight) L0 := known_cons known_rpt rheight_ok
noncomputable def rat_tpl : Tpl := ⟨[.one (.int .i64), .agg [.int .i64, .int .i64], .one (.int .i64)], [], 0⟩
set_option maxRecDepth 1000000 in
theorem rat_runs (p u w h : Int) : Runs (runF (sums K_rheight) L0 20) (rat_tpl.args [.i p, .i u, .i w, .i h]) (rat_tpl.memo [.i p, .i u, .i w, .i h] []) rat_tpl.n (SV.agg [SC.int IntKind.i64 (SI.v (solid_0 p u w h)), SC.int IntKind.i64 (SI.v (solid_1 p u w h)), SC.int IntKind.i64 (SI.v (solid_2 p u w h))])
    ([]) :=
  Runs.of (ps := []) (by kernel_rfl) (by kernel_rfl) (by simp)
noncomputable def rat_out : List Pm → Lss → Option CRes
  | [.i p, .i u, .i w, .i h], [] => some ⟨SV.agg [SC.int IntKind.i64 (SI.v (solid_0 p u w h)), SC.int IntKind.i64 (SI.v (solid_1 p u w h)), SC.int IntKind.i64 (SI.v (solid_2 p u w h))],
    [],
    [], [], 96⟩
  | _, _ => none
theorem rat_ok : FOk Try.prog 20 (tplS rat_tpl rat_out) := by
  refine tplS_ok (runF_ok known_rheight 20) fun ps ls r hr hn _ => ?_
  unfold rat_out at hr
  split at hr
  · cases hr; exact ⟨_, rat_runs _ _ _ _, fun _ => rfl⟩
  · cases hr
noncomputable def K_rat : List (Nat × Summ) := (20, tplS rat_tpl rat_out) :: K_rheight
theorem known_rat : Known Try.prog (sums K_rat) L0 := known_cons known_rheight rat_ok
/-- Is the code one of a cycle? -/
noncomputable def codeOk (c0 : Int) : Bool := c0 == 73 || c0 == 74 || c0 == 81 || c0 == 82 || c0 == 83 || c0 == 84 || c0 == 85 || c0 == 86 || c0 == 89
noncomputable def argBad (c1 c2 c3 c4 c5 c6 c7 c8 c9 c10 c12 c13 c14 c15 : Int) : Bool :=
  (!flat_3 c1 || !within_0 c2 c3 c4 || !within_0 c5 c6 c7 || !(decide (c8 ≥ -1048576) && decide (c8 ≤ 1048576)) || !(decide (c9 ≥ -1048576) && decide (c9 ≤ 1048576)) ||
          !(decide (c10 ≥ -1048576) && decide (c10 ≤ 1048576))) ||
  (c13 != 98 && c13 != 99 || decide (c12 < 0) || decide (c12 > 60000) || decide (c14 < 3) || decide (c14 > 5) || decide (c15 < 0) || decide (c15 > 30000) || decide (c9 ≥ c8))
noncomputable def stateBad (c0 c14 : Int) : Bool := c0 == 74 && c14 != 4 || c0 == 84 && c14 != 3 || c0 == 86 && c14 == 5
/-- The pecks of a cycle with pecks. -/
noncomputable def pk (c8 c9 c11 : Int) : Int := IntKind.i64.wrap (IntKind.i64.wrap ((IntKind.i64.wrap (IntKind.i64.wrap (c8 - c9) - 1)).tdiv c11) + 1)
/-- The error of a cycle. -/
noncomputable def chk (c0 c1 c2 c3 c4 c5 c6 c7 c8 c9 c10 c11 c12 c13 c14 c15 : Int) : Int :=
  bif !(codeOk c0) then 6
  else bif argBad c1 c2 c3 c4 c5 c6 c7 c8 c9 c10 c12 c13 c14 c15 then 1
  else bif (c0 == 73 || c0 == 83) && decide (c11 < 1) then 9
  else bif stateBad c0 c14 then 13
  else bif (c0 == 73 || c0 == 83) && decide (pk c8 c9 c11 > 1000) then 10 else 0
theorem code_chain (c0 : Int) : (bif c0 == 73 then c0 == 73
      else bif c0 == 74 then c0 == 74 else bif c0 == 81 then c0 == 81 else bif c0 == 82 then c0 == 82 else bif c0 == 83 then c0 == 83 else bif c0 == 84 then c0 == 84 else bif c0 == 85 then c0 == 85 else bif c0 == 86 then c0 == 86 else c0 == 89) = codeOk c0 := by
  unfold codeOk
  cases c0 == 73 <;> cases c0 == 74 <;> cases c0 == 81 <;> cases c0 == 82 <;> cases c0 == 83 <;> cases c0 == 84 <;> cases c0 == 85 <;> cases c0 == 86 <;> rfl
theorem code_index (c0 : Int) : (!decide ((bif c0 == 73 then (0 : Int)
      else bif c0 == 74 then 1 else bif c0 == 81 then 2 else bif c0 == 82 then 3 else bif c0 == 83 then 4
      else bif c0 == 84 then 5 else bif c0 == 85 then 6 else bif c0 == 86 then 7 else bif c0 == 89 then 8 else -1) ≥ 0)) = !(codeOk c0) := by
  unfold codeOk
  cases c0 == 73 <;> cases c0 == 74 <;> cases c0 == 81 <;> cases c0 == 82 <;> cases c0 == 83 <;> cases c0 == 84 <;> cases c0 == 85 <;> cases c0 == 86 <;> cases c0 == 89 <;> rfl
theorem peck_over (p : Bool) (k : Int) : decide ((bif !p then (1 : Int) else k) > 1000) = (p && decide (k > 1000)) := by cases p <;> simp
theorem two_args (a b : Bool) (x y : Int) : (bif a then x else bif b then x else y) = bif (a || b) then x else y := by cases a <;> cases b <;> rfl
noncomputable def check_tpl : Tpl := ⟨[.agg [.int .i64, .int .i64, .int .i64, .int .i64, .int .i64, .int .i64, .int .i64, .int .i64, .int .i64, .int .i64, .int .i64, .int .i64, .int .i64, .int .i64, .int .i64, .int .i64]], [], 0⟩
noncomputable def check_s0 (c0 : Int) : Int :=
  bif c0 == 73 then 0
  else
    bif c0 == 74 then 1
    else bif c0 == 81 then 2 else bif c0 == 82 then 3 else bif c0 == 83 then 4 else bif c0 == 84 then 5 else bif c0 == 85 then 6 else bif c0 == 86 then 7 else bif c0 == 89 then 8 else -1
noncomputable def check_s1 (c0 : Int) : Bool :=
  c0 == 73 || c0 == 83
noncomputable def check_s2 (c0 : Int) (c8 : Int) (c9 : Int) (c11 : Int) : Int :=
  bif !check_s1 c0 then 1 else IntKind.i64.wrap (IntKind.i64.wrap ((IntKind.i64.wrap (IntKind.i64.wrap (c8 - c9) - 1)).tdiv c11) + 1)
noncomputable def check_0 (c0 : Int) (c1 : Int) (c2 : Int) (c3 : Int) (c4 : Int) (c5 : Int) (c6 : Int) (c7 : Int) (c8 : Int) (c9 : Int) (c10 : Int) (c11 : Int) (c12 : Int) (c13 : Int) (c14 : Int) (c15 : Int) : Int :=
  bif !decide (check_s0 c0 ≥ 0) then 6
  else
    bif
        !flat_3 c1 || !within_0 c2 c3 c4 || !within_0 c5 c6 c7 || !(decide (c8 ≥ -1048576) && decide (c8 ≤ 1048576)) || !(decide (c9 ≥ -1048576) && decide (c9 ≤ 1048576)) ||
          !(decide (c10 ≥ -1048576) && decide (c10 ≤ 1048576)) then
      1
    else
      bif c13 != 98 && c13 != 99 || decide (c12 < 0) || decide (c12 > 60000) || decide (c14 < 3) || decide (c14 > 5) || decide (c15 < 0) || decide (c15 > 30000) || decide (c9 ≥ c8) then 1
      else bif check_s1 c0 && decide (c11 < 1) then 9 else bif c0 == 74 && c14 != 4 || c0 == 84 && c14 != 3 || c0 == 86 && c14 == 5 then 13 else bif decide (check_s2 c0 c8 c9 c11 > 1000) then 10 else 0
noncomputable def check_needs (c0 : Int) (c1 : Int) (c2 : Int) (c3 : Int) (c4 : Int) (c5 : Int) (c6 : Int) (c7 : Int) (c8 : Int) (c9 : Int) (c10 : Int) (c11 : Int) (c12 : Int) (c13 : Int) (c14 : Int) (c15 : Int) : List Prop :=
  [(!decide (check_s0 c0 ≥ 0)) = false →
      (!flat_3 c1 || !within_0 c2 c3 c4 || !within_0 c5 c6 c7 || !(decide (c8 ≥ -1048576) && decide (c8 ≤ 1048576)) || !(decide (c9 ≥ -1048576) && decide (c9 ≤ 1048576)) ||
            !(decide (c10 ≥ -1048576) && decide (c10 ≤ 1048576))) =
          false →
        (c13 != 98 && c13 != 99 || decide (c12 < 0) || decide (c12 > 60000) || decide (c14 < 3) || decide (c14 > 5) || decide (c15 < 0) || decide (c15 > 30000) || decide (c9 ≥ c8)) = false →
          (check_s1 c0 && decide (c11 < 1)) = false → (c0 == 74 && c14 != 4 || c0 == 84 && c14 != 3 || c0 == 86 && c14 == 5) = false → (!check_s1 c0) = false → c11 ≠ 0]
theorem check_0_eq (c0 c1 c2 c3 c4 c5 c6 c7 c8 c9 c10 c11 c12 c13 c14 c15 : Int) : (check_0 c0 c1 c2 c3 c4 c5 c6 c7 c8 c9 c10 c11 c12 c13 c14 c15) = chk c0 c1 c2 c3 c4 c5 c6 c7 c8 c9 c10 c11 c12 c13 c14 c15 := by
  unfold check_0 check_s0 check_s2 check_s1 chk argBad stateBad
  rw [code_index, two_args, peck_over]
  rfl
theorem check_need {c0 : Int} {c1 : Int} {c2 : Int} {c3 : Int} {c4 : Int} {c5 : Int} {c6 : Int} {c7 : Int} {c8 : Int} {c9 : Int} {c10 : Int} {c11 : Int} {c12 : Int} {c13 : Int} {c14 : Int} {c15 : Int} : ∀ q ∈ (check_needs c0 c1 c2 c3 c4 c5 c6 c7 c8 c9 c10 c11 c12 c13 c14 c15), q := by
  intro q hq
  unfold check_needs at hq
  simp only [List.mem_cons, List.not_mem_nil, or_false] at hq
  subst hq
  intro _ _ _ h1 _ h2
  simp only [Bool.not_eq_false'] at h2
  rw [h2] at h1
  simp at h1
  omega
set_option maxRecDepth 1000000 in
theorem check_runs (c0 c1 c2 c3 c4 c5 c6 c7 c8 c9 c10 c11 c12 c13 c14 c15 : Int) (hNeeds : ∀ pN ∈ (check_needs c0 c1 c2 c3 c4 c5 c6 c7 c8 c9 c10 c11 c12 c13 c14 c15), pN) : Runs (runF (sums K_rat) L0 13) (check_tpl.args [.i c0, .i c1, .i c2, .i c3, .i c4, .i c5, .i c6, .i c7, .i c8, .i c9, .i c10, .i c11, .i c12, .i c13, .i c14, .i c15]) (check_tpl.memo [.i c0, .i c1, .i c2, .i c3, .i c4, .i c5, .i c6, .i c7, .i c8, .i c9, .i c10, .i c11, .i c12, .i c13, .i c14, .i c15] []) check_tpl.n (SV.one (SC.int IntKind.i64 (SI.v (check_0 c0 c1 c2 c3 c4 c5 c6 c7 c8 c9 c10 c11 c12 c13 c14 c15))))
    ([]) :=
  Runs.of (ps := (check_needs c0 c1 c2 c3 c4 c5 c6 c7 c8 c9 c10 c11 c12 c13 c14 c15)) (by kernel_rfl) (by kernel_rfl) hNeeds
noncomputable def check_out : List Pm → Lss → Option CRes
  | [.i c0, .i c1, .i c2, .i c3, .i c4, .i c5, .i c6, .i c7, .i c8, .i c9, .i c10, .i c11, .i c12, .i c13, .i c14, .i c15], [] => some ⟨SV.one (SC.int IntKind.i64 (SI.v (chk c0 c1 c2 c3 c4 c5 c6 c7 c8 c9 c10 c11 c12 c13 c14 c15))),
    [],
    [], [], 535⟩
  | _, _ => none
theorem check_turned (c0 c1 c2 c3 c4 c5 c6 c7 c8 c9 c10 c11 c12 c13 c14 c15 : Int) : Runs (runF (sums K_rat) L0 13) (check_tpl.args [.i c0, .i c1, .i c2, .i c3, .i c4, .i c5, .i c6, .i c7, .i c8, .i c9, .i c10, .i c11, .i c12, .i c13, .i c14, .i c15]) (check_tpl.memo [.i c0, .i c1, .i c2, .i c3, .i c4, .i c5, .i c6, .i c7, .i c8, .i c9, .i c10, .i c11, .i c12, .i c13, .i c14, .i c15] []) check_tpl.n (SV.one (SC.int IntKind.i64 (SI.v (chk c0 c1 c2 c3 c4 c5 c6 c7 c8 c9 c10 c11 c12 c13 c14 c15))))
    ([]) :=
  (check_runs c0 c1 c2 c3 c4 c5 c6 c7 c8 c9 c10 c11 c12 c13 c14 c15 (fun p hp => check_need p hp)).to (by rw [check_0_eq]) (rfl)
theorem check_ok : FOk Try.prog 13 (tplS check_tpl check_out) := by
  refine tplS_ok (runF_ok known_rat 13) fun ps ls r hr hn _ => ?_
  unfold check_out at hr
  split at hr
  · cases hr; exact ⟨_, check_turned _ _ _ _ _ _ _ _ _ _ _ _ _ _ _ _, fun _ => rfl⟩
  · cases hr
noncomputable def K_check : List (Nat × Summ) := (13, tplS check_tpl check_out) :: K_rat
theorem known_check : Known Try.prog (sums K_check) L0 := known_cons known_rat check_ok
noncomputable def rcheck_tpl : Tpl := ⟨[.agg [.int .i64, .int .i64, .int .i64, .int .i64, .int .i64, .int .i64, .int .i64, .int .i64, .int .i64, .int .i64, .int .i64, .int .i64, .int .i64, .int .i64, .int .i64, .int .i64]], [], 0⟩
noncomputable def rcheck_s0 (c8 : Int) (c9 : Int) (c11 : Int) : Int :=
  IntKind.i64.wrap (IntKind.i64.wrap ((IntKind.i64.wrap (IntKind.i64.wrap (c8 - c9) - 1)).tdiv c11) + 1)
noncomputable def rcheck_0 (c0 : Int) (c1 : Int) (c2 : Int) (c3 : Int) (c4 : Int) (c5 : Int) (c6 : Int) (c7 : Int) (c8 : Int) (c9 : Int) (c10 : Int) (c11 : Int) (c12 : Int) (c13 : Int) (c14 : Int) (c15 : Int) : Int :=
  bif
      bif c0 == 73 then c0 == 73
      else
        bif c0 == 74 then c0 == 74
        else
          bif c0 == 81 then c0 == 81
          else bif c0 == 82 then c0 == 82 else bif c0 == 83 then c0 == 83 else bif c0 == 84 then c0 == 84 else bif c0 == 85 then c0 == 85 else bif c0 == 86 then c0 == 86 else c0 == 89 then
    bif
        !rplane_0 c1 || !within_0 c2 c3 c4 || !within_0 c5 c6 c7 || !(decide (c8 ≥ -1048576) && decide (c8 ≤ 1048576)) || !(decide (c9 ≥ -1048576) && decide (c9 ≤ 1048576)) ||
                    !(decide (c10 ≥ -1048576) && decide (c10 ≤ 1048576)) ||
                  !(decide (c13 ≥ 98) && decide (c13 ≤ 99)) ||
                !(decide (c12 ≥ 0) && decide (c12 ≤ 60000)) ||
              !(decide (c14 ≥ 3) && decide (c14 ≤ 5)) ||
            !(decide (c15 ≥ 0) && decide (c15 ≤ 30000)) ||
          decide (c9 ≥ c8) then
      1
    else
      bif (c0 == 73 || c0 == 83) && decide (c11 < 1) then 9
      else bif c0 == 74 && c14 != 4 || c0 == 84 && c14 != 3 || c0 == 86 && c14 == 5 then 13 else bif (c0 == 73 || c0 == 83) && decide (rcheck_s0 c8 c9 c11 > 1000) then 10 else 0
  else 6
noncomputable def rcheck_s1 (c0 : Int) : Bool :=
  c0 == 73 || c0 == 83
noncomputable def rcheck_needs (c0 : Int) (c1 : Int) (c2 : Int) (c3 : Int) (c4 : Int) (c5 : Int) (c6 : Int) (c7 : Int) (c8 : Int) (c9 : Int) (c10 : Int) (c11 : Int) (c12 : Int) (c13 : Int) (c14 : Int) (c15 : Int) : List Prop :=
  [(bif c0 == 73 then c0 == 73
        else
          bif c0 == 74 then c0 == 74
          else
            bif c0 == 81 then c0 == 81
            else bif c0 == 82 then c0 == 82 else bif c0 == 83 then c0 == 83 else bif c0 == 84 then c0 == 84 else bif c0 == 85 then c0 == 85 else bif c0 == 86 then c0 == 86 else c0 == 89) =
        true →
      (!rplane_0 c1 || !within_0 c2 c3 c4 || !within_0 c5 c6 c7 || !(decide (c8 ≥ -1048576) && decide (c8 ≤ 1048576)) || !(decide (c9 ≥ -1048576) && decide (c9 ≤ 1048576)) ||
                      !(decide (c10 ≥ -1048576) && decide (c10 ≤ 1048576)) ||
                    !(decide (c13 ≥ 98) && decide (c13 ≤ 99)) ||
                  !(decide (c12 ≥ 0) && decide (c12 ≤ 60000)) ||
                !(decide (c14 ≥ 3) && decide (c14 ≤ 5)) ||
              !(decide (c15 ≥ 0) && decide (c15 ≤ 30000)) ||
            decide (c9 ≥ c8)) =
          false →
        (rcheck_s1 c0 && decide (c11 < 1)) = false → (c0 == 74 && c14 != 4 || c0 == 84 && c14 != 3 || c0 == 86 && c14 == 5) = false → rcheck_s1 c0 = true → c11 ≠ 0]
theorem rcheck_0_eq (c0 c1 c2 c3 c4 c5 c6 c7 c8 c9 c10 c11 c12 c13 c14 c15 : Int) : (rcheck_0 c0 c1 c2 c3 c4 c5 c6 c7 c8 c9 c10 c11 c12 c13 c14 c15) = chk c0 c1 c2 c3 c4 c5 c6 c7 c8 c9 c10 c11 c12 c13 c14 c15 := by
  unfold rcheck_0 rcheck_s0 chk argBad stateBad flat_3 rplane_0
  rw [code_chain]
  have e1 : (c13 != 98 && c13 != 99) = !(decide (c13 ≥ 98) && decide (c13 ≤ 99)) := by
    rw [Bool.eq_iff_iff]; simp <;> omega
  have e2 : ∀ (x l h : Int) (r : Bool), (decide (x < l) || (decide (x > h) || r)) = (!(decide (x ≥ l) && decide (x ≤ h)) || r) := by
    intro x l h r; rw [← Bool.or_assoc]; congr 1; rw [Bool.eq_iff_iff]; simp <;> omega
  simp only [Bool.or_assoc, e1, e2]
  cases codeOk c0 <;> rfl
theorem rcheck_need {c0 : Int} {c1 : Int} {c2 : Int} {c3 : Int} {c4 : Int} {c5 : Int} {c6 : Int} {c7 : Int} {c8 : Int} {c9 : Int} {c10 : Int} {c11 : Int} {c12 : Int} {c13 : Int} {c14 : Int} {c15 : Int} : ∀ q ∈ (rcheck_needs c0 c1 c2 c3 c4 c5 c6 c7 c8 c9 c10 c11 c12 c13 c14 c15), q := by
  intro q hq
  unfold rcheck_needs at hq
  simp only [List.mem_cons, List.not_mem_nil, or_false] at hq
  subst hq
  intro _ _ h1 _ h2
  rw [h2] at h1
  simp at h1
  omega
set_option maxRecDepth 1000000 in
theorem rcheck_runs (c0 c1 c2 c3 c4 c5 c6 c7 c8 c9 c10 c11 c12 c13 c14 c15 : Int) (hNeeds : ∀ pN ∈ (rcheck_needs c0 c1 c2 c3 c4 c5 c6 c7 c8 c9 c10 c11 c12 c13 c14 c15), pN) : Runs (runF (sums K_check) L0 35) (rcheck_tpl.args [.i c0, .i c1, .i c2, .i c3, .i c4, .i c5, .i c6, .i c7, .i c8, .i c9, .i c10, .i c11, .i c12, .i c13, .i c14, .i c15]) (rcheck_tpl.memo [.i c0, .i c1, .i c2, .i c3, .i c4, .i c5, .i c6, .i c7, .i c8, .i c9, .i c10, .i c11, .i c12, .i c13, .i c14, .i c15] []) rcheck_tpl.n (SV.one (SC.int IntKind.i64 (SI.v (rcheck_0 c0 c1 c2 c3 c4 c5 c6 c7 c8 c9 c10 c11 c12 c13 c14 c15))))
    ([]) :=
  Runs.of (ps := (rcheck_needs c0 c1 c2 c3 c4 c5 c6 c7 c8 c9 c10 c11 c12 c13 c14 c15)) (by kernel_rfl) (by kernel_rfl) hNeeds
noncomputable def rcheck_out : List Pm → Lss → Option CRes
  | [.i c0, .i c1, .i c2, .i c3, .i c4, .i c5, .i c6, .i c7, .i c8, .i c9, .i c10, .i c11, .i c12, .i c13, .i c14, .i c15], [] => some ⟨SV.one (SC.int IntKind.i64 (SI.v (chk c0 c1 c2 c3 c4 c5 c6 c7 c8 c9 c10 c11 c12 c13 c14 c15))),
    [],
    [], [], 396⟩
  | _, _ => none
theorem rcheck_turned (c0 c1 c2 c3 c4 c5 c6 c7 c8 c9 c10 c11 c12 c13 c14 c15 : Int) : Runs (runF (sums K_check) L0 35) (rcheck_tpl.args [.i c0, .i c1, .i c2, .i c3, .i c4, .i c5, .i c6, .i c7, .i c8, .i c9, .i c10, .i c11, .i c12, .i c13, .i c14, .i c15]) (rcheck_tpl.memo [.i c0, .i c1, .i c2, .i c3, .i c4, .i c5, .i c6, .i c7, .i c8, .i c9, .i c10, .i c11, .i c12, .i c13, .i c14, .i c15] []) rcheck_tpl.n (SV.one (SC.int IntKind.i64 (SI.v (chk c0 c1 c2 c3 c4 c5 c6 c7 c8 c9 c10 c11 c12 c13 c14 c15))))
    ([]) :=
  (rcheck_runs c0 c1 c2 c3 c4 c5 c6 c7 c8 c9 c10 c11 c12 c13 c14 c15 (fun p hp => rcheck_need p hp)).to (by rw [rcheck_0_eq]) (rfl)
theorem rcheck_ok : FOk Try.prog 35 (tplS rcheck_tpl rcheck_out) := by
  refine tplS_ok (runF_ok known_check 35) fun ps ls r hr hn _ => ?_
  unfold rcheck_out at hr
  split at hr
  · cases hr; exact ⟨_, rcheck_turned _ _ _ _ _ _ _ _ _ _ _ _ _ _ _ _, fun _ => rfl⟩
  · cases hr
noncomputable def K_rcheck : List (Nat × Summ) := (35, tplS rcheck_tpl rcheck_out) :: K_check
theorem known_rcheck : Known Try.prog (sums K_rcheck) L0 := known_cons known_check rcheck_ok
end Go.Proofs.Ytgimheibnpgphaa
